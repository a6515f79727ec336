-- written by a program of this session
import Derived.Test.YtnbllonnfbejgaaLex0
import Derived.Test.YtnbllonnfbejgaaLex2
import Derived.Test.YtnbllonnfbejgaaLex3
namespace Go.Proofs.Ytnbllonnfbejgaa.Le
open Go.RowKit Go.Proofs.YtnbllonnfbejgaaW.PrintWords Go.Proofs.YtnbllonnfbejgaaW.PrintLast Go.Proofs.YtnbllonnfbejgaaW.PrintMore
attribute [local go_sem] max2_int min2_int max_two min_two max_three min_three max_four min_four   -- for this text's walks alone
set_option linter.unusedVariables false
set_option linter.unusedSimpArgs false

/-! ### cashbooklaw3_LeRows: function 9 -/
mutual
def cashbooklaw3_LeRows.l0 : Nat → List Int → List Int → List Int → Int → Option (Bool)
  | 0, _, _, _, _ => none
  | k + 1, x0, x1, x5, x6 => if x6 < (x0.length : Int) then (if 0 ≤ x6 then (if x6 < (x1.length : Int) then (if (Int.tmod (rd x1 x6) 3) = 0 then ((le_Put16.f k x5 (wrap64 (Int.tmod (rd x0 x6) 65536))).bind fun bt378 => (if bt378.2 = 0 then (cashbooklaw3_LeRows.l0 k x0 x1 bt378.1 (wrap64 (x6 + 1))) else (none))) else (if (Int.tmod (rd x1 x6) 3) = 1 then ((le_Put32.f k x5 (wrap64 (rd x0 x6))).bind fun bt383 => (if bt383.2 = 0 then (cashbooklaw3_LeRows.l0 k x0 x1 bt383.1 (wrap64 (x6 + 1))) else (none))) else (if (Int.tmod (rd x1 x6) 3) = 2 then ((le_Put64.f k x5 (wrap64 (-(wrap64 (rd x0 x6))))).bind fun t388 => (cashbooklaw3_LeRows.l0 k x0 x1 t388 (wrap64 (x6 + 1)))) else (cashbooklaw3_LeRows.l0 k x0 x1 x5 (wrap64 (x6 + 1)))))) else (none)) else (none)) else (cashbooklaw3_LeRows.l1 k x0 x1 0 x5 0)
def cashbooklaw3_LeRows.l1 : Nat → List Int → List Int → Int → List Int → Int → Option (Bool)
  | 0, _, _, _, _, _ => none
  | k + 1, x0, x1, x13, x392000, x392001 => if x13 < (x0.length : Int) then (if 0 ≤ x13 then (if x13 < (x1.length : Int) then (if (Int.tmod (rd x1 x13) 3) = 0 then ((le_U16.f k x392000 x392001).bind fun bt393 => (if bt393.2.2.2 = 0 then (if bt393.1 = (wrap64 (Int.tmod (rd x0 x13) 65536)) then (if bt393.2.2.1 = (wrap64 (x392001 + 2)) then (cashbooklaw3_LeRows.l1 k x0 x1 (wrap64 (x13 + 1)) bt393.2.1 bt393.2.2.1) else (none)) else (none)) else (none))) else (if (Int.tmod (rd x1 x13) 3) = 1 then ((le_U32.f k x392000 x392001).bind fun bt401 => (if bt401.2.2.2 = 0 then (if bt401.1 = (wrap64 (rd x0 x13)) then (if bt401.2.2.1 = (wrap64 (x392001 + 4)) then (cashbooklaw3_LeRows.l1 k x0 x1 (wrap64 (x13 + 1)) bt401.2.1 bt401.2.2.1) else (none)) else (none)) else (none))) else (if (Int.tmod (rd x1 x13) 3) = 2 then ((le_I64.f k x392000 x392001).bind fun bt409 => (if bt409.2.2.2 = 0 then (if bt409.1 = (wrap64 (-(wrap64 (rd x0 x13)))) then (if bt409.2.2.1 = (wrap64 (x392001 + 8)) then (cashbooklaw3_LeRows.l1 k x0 x1 (wrap64 (x13 + 1)) bt409.2.1 bt409.2.2.1) else (none)) else (none)) else (none))) else (cashbooklaw3_LeRows.l1 k x0 x1 (wrap64 (x13 + 1)) x392000 x392001)))) else (none)) else (none)) else ((le_End.f k x392000 x392001).bind fun t417 => (some (t417 == 0)))
end
def cashbooklaw3_LeRows.f (k : Nat) (l0 : List Int) (l1 : List Int) : Option (Bool) := (cashbooklaw3_known.f k).bind fun t375 => (if t375 = true then (if (l0.length : Int) > 60 then (some true) else (if (l1.length : Int) < (l0.length : Int) then (some true) else (cashbooklaw3_LeRows.l0 k l0 l1 ([] : List Int) 0))) else (none))
theorem cashbooklaw3_LeRows.mono_l : ∀ k, (∀ y0 y1 y2 y3, LeO (cashbooklaw3_LeRows.l0 k y0 y1 y2 y3) (cashbooklaw3_LeRows.l0 (k + 1) y0 y1 y2 y3)) ∧ (∀ y0 y1 y2 y3 y4, LeO (cashbooklaw3_LeRows.l1 k y0 y1 y2 y3 y4) (cashbooklaw3_LeRows.l1 (k + 1) y0 y1 y2 y3 y4))
  | 0 => ⟨fun _ _ _ _ r h => by simp [cashbooklaw3_LeRows.l0] at h, fun _ _ _ _ _ r h => by simp [cashbooklaw3_LeRows.l1] at h⟩
  | k + 1 => by
    obtain ⟨ih0, ih1⟩ := cashbooklaw3_LeRows.mono_l k
    refine ⟨?_, ?_⟩
    · intro y0 y1 y2 y3
      unfold cashbooklaw3_LeRows.l0
      repeat' first
      | (with_reducible exact ih0 _ _ _ _)
      | (with_reducible exact ih1 _ _ _ _ _)
      | (with_reducible exact cashbooklaw3_known.mono _)
      | (with_reducible exact le_End.mono _ _ _)
      | (with_reducible exact le_I64.mono _ _ _)
      | (with_reducible exact le_Put16.mono _ _ _)
      | (with_reducible exact le_Put32.mono _ _ _)
      | (with_reducible exact le_Put64.mono _ _ _)
      | (with_reducible exact le_U16.mono _ _ _)
      | (with_reducible exact le_U32.mono _ _ _)
      | (with_reducible exact LeO.refl _)
      | (with_reducible exact LeO.none _)
      | (with_reducible refine LeO.ite ?_ ?_)
      | (with_reducible refine LeO.bind ?_ (fun _ => ?_))
      | exact ih0 _ _ _ _
      | exact ih1 _ _ _ _ _
      | exact cashbooklaw3_known.mono _
      | exact le_End.mono _ _ _
      | exact le_I64.mono _ _ _
      | exact le_Put16.mono _ _ _
      | exact le_Put32.mono _ _ _
      | exact le_Put64.mono _ _ _
      | exact le_U16.mono _ _ _
      | exact le_U32.mono _ _ _
      | exact LeO.none _
      | refine LeO.ite ?_ ?_
      | refine LeO.bind ?_ (fun _ => ?_)
    · intro y0 y1 y2 y3 y4
      unfold cashbooklaw3_LeRows.l1
      repeat' first
      | (with_reducible exact ih0 _ _ _ _)
      | (with_reducible exact ih1 _ _ _ _ _)
      | (with_reducible exact cashbooklaw3_known.mono _)
      | (with_reducible exact le_End.mono _ _ _)
      | (with_reducible exact le_I64.mono _ _ _)
      | (with_reducible exact le_Put16.mono _ _ _)
      | (with_reducible exact le_Put32.mono _ _ _)
      | (with_reducible exact le_Put64.mono _ _ _)
      | (with_reducible exact le_U16.mono _ _ _)
      | (with_reducible exact le_U32.mono _ _ _)
      | (with_reducible exact LeO.refl _)
      | (with_reducible exact LeO.none _)
      | (with_reducible refine LeO.ite ?_ ?_)
      | (with_reducible refine LeO.bind ?_ (fun _ => ?_))
      | exact ih0 _ _ _ _
      | exact ih1 _ _ _ _ _
      | exact cashbooklaw3_known.mono _
      | exact le_End.mono _ _ _
      | exact le_I64.mono _ _ _
      | exact le_Put16.mono _ _ _
      | exact le_Put32.mono _ _ _
      | exact le_Put64.mono _ _ _
      | exact le_U16.mono _ _ _
      | exact le_U32.mono _ _ _
      | exact LeO.none _
      | refine LeO.ite ?_ ?_
      | refine LeO.bind ?_ (fun _ => ?_)
theorem cashbooklaw3_LeRows.mono : ∀ a0 a1 k, LeO (cashbooklaw3_LeRows.f k a0 a1) (cashbooklaw3_LeRows.f (k + 1) a0 a1) := by
  intro a0 a1 k
  obtain ⟨ih0, ih1⟩ := cashbooklaw3_LeRows.mono_l k
  unfold cashbooklaw3_LeRows.f
  repeat' first
      | (with_reducible exact ih0 _ _ _ _)
      | (with_reducible exact ih1 _ _ _ _ _)
      | (with_reducible exact cashbooklaw3_known.mono _)
      | (with_reducible exact le_End.mono _ _ _)
      | (with_reducible exact le_I64.mono _ _ _)
      | (with_reducible exact le_Put16.mono _ _ _)
      | (with_reducible exact le_Put32.mono _ _ _)
      | (with_reducible exact le_Put64.mono _ _ _)
      | (with_reducible exact le_U16.mono _ _ _)
      | (with_reducible exact le_U32.mono _ _ _)
      | (with_reducible exact LeO.refl _)
      | (with_reducible exact LeO.none _)
      | (with_reducible refine LeO.ite ?_ ?_)
      | (with_reducible refine LeO.bind ?_ (fun _ => ?_))
      | exact ih0 _ _ _ _
      | exact ih1 _ _ _ _ _
      | exact cashbooklaw3_known.mono _
      | exact le_End.mono _ _ _
      | exact le_I64.mono _ _ _
      | exact le_Put16.mono _ _ _
      | exact le_Put32.mono _ _ _
      | exact le_Put64.mono _ _ _
      | exact le_U16.mono _ _ _
      | exact le_U32.mono _ _ _
      | exact LeO.none _
      | refine LeO.ite ?_ ?_
      | refine LeO.bind ?_ (fun _ => ?_)
set_option maxHeartbeats 8000000 in
set_option maxRecDepth 100000 in
theorem cashbooklaw3_LeRows.calls (k : Nat) (A0 : Option Addr) (c0 : Nat) (l0 : List Int) (A1 : Option Addr) (c1 : Nat) (l1 : List Int) (r : Bool) (w : World) (hr0 : Kd.C (Kd.int .u32) w A0 l0.length l0) (hc0 : l0.length ≤ c0) (hr1 : Kd.C (Kd.int .u8) w A1 l1.length l1) (hc1 : l1.length ≤ c1) (h : cashbooklaw3_LeRows.f k l0 l1 = some r) :
    Calls Try.prog 9 #[.slice A0 l0.length c0, .slice A1 l1.length c1] w fun e w' => e = .returned (.bool r) ∧ Below w.heap.size w w' := by
  have hu46 := Try.underlying46
  have HR0 := Aside0.mk hr0
  have HC0 := Aside0.mk hc0
  clear hr0 hc0
  have HR1 := Aside0.mk hr1
  have HC1 := Aside0.mk hc1
  clear hr1 hc1
  have HB := Aside0.mk (Below.refl w.heap.size w)
  have H : ((cashbooklaw3_known.f k).bind fun t375 => (if t375 = true then (if (l0.length : Int) > 60 then (some true) else (if (l1.length : Int) < (l0.length : Int) then (some true) else (cashbooklaw3_LeRows.l0 k l0 l1 ([] : List Int) 0))) else (none))) = some r := h
  clear h
  replace H := Option.bind_eq_some_iff.mp H
  obtain ⟨t375, A30, H⟩ := H
  replace H : (if t375 = true then (if (l0.length : Int) > 60 then (some true) else (if (l1.length : Int) < (l0.length : Int) then (some true) else (cashbooklaw3_LeRows.l0 k l0 l1 ([] : List Int) 0))) else (none)) = some r := H
  have A3 := Aside0.mk A30
  clear A30
  by_cases c4 : t375 = true
  · subst c4
    have H1 : (if (l0.length : Int) > 60 then (some true) else (if (l1.length : Int) < (l0.length : Int) then (some true) else (cashbooklaw3_LeRows.l0 k l0 l1 ([] : List Int) 0))) = some r := by rw [if_pos rfl] at H; exact H
    clear H
    have H := H1
    clear H1
    by_cases c5 : (l0.length : Int) > 60
    · rw [if_pos c5] at H
      have c5b0 : decide (60 < (l0.length : Int)) = true := decide_eq_true c5
      have c5b1 : decide (60 < l0.length) = true := decide_eq_true (by omega)
      clear c5
      obtain rfl := Option.some.inj H
      go_enter Try.func9, Try.ntmps9
      go_wp2_with (first | ((with_reducible refine gate_callee (f := 23) rfl ?_); refine goesL_ (some 23) rfl rfl Try.func23 (by kernel_rfl) rfl #[] rfl (by (try simp only [List.map_toArray, List.map_cons, List.map_nil]); first | done | rfl | (simp only [List.length_drop, List.length_take]; rfl)) ?_; (with_reducible refine (cashbooklaw3_known.calls k  true _ A3.out).mono ?_); rintro e w6 ⟨rfl, hb⟩; refine ⟨_, rfl, ?_⟩; have n0_ := Aside0.mk (below_step (bl7 HB) hb); clear HB; have HB := n0_; clear n0_; (try clear hb); (try clear hb2); (try clear hk); (try clear hi)))
      go_ret
      exact ⟨by first | rfl | (simp [errW_none, errW_some] <;> rfl) | (simp [*, errW_none, errW_some] <;> rfl), bl7 HB⟩
    · rw [if_neg c5] at H
      have c5b0 : decide (60 < (l0.length : Int)) = false := decide_eq_false c5
      have c5b1 : decide (60 < l0.length) = false := decide_eq_false (by omega)
      clear c5
      by_cases c7 : (l1.length : Int) < (l0.length : Int)
      · rw [if_pos c7] at H
        have c7b0 : decide ((l1.length : Int) < (l0.length : Int)) = true := decide_eq_true c7
        have c7b1 : decide (l1.length < l0.length) = true := decide_eq_true (Int.ofNat_lt.mp c7)
        clear c7
        obtain rfl := Option.some.inj H
        go_enter Try.func9, Try.ntmps9
        go_wp2_with (first | ((with_reducible refine gate_callee (f := 23) rfl ?_); refine goesL_ (some 23) rfl rfl Try.func23 (by kernel_rfl) rfl #[] rfl (by (try simp only [List.map_toArray, List.map_cons, List.map_nil]); first | done | rfl | (simp only [List.length_drop, List.length_take]; rfl)) ?_; (with_reducible refine (cashbooklaw3_known.calls k  true _ A3.out).mono ?_); rintro e w8 ⟨rfl, hb⟩; refine ⟨_, rfl, ?_⟩; have n0_ := Aside0.mk (below_step (bl7 HB) hb); clear HB; have HB := n0_; clear n0_; (try clear hb); (try clear hb2); (try clear hk); (try clear hi)))
        go_ret
        exact ⟨by first | rfl | (simp [errW_none, errW_some] <;> rfl) | (simp [*, errW_none, errW_some] <;> rfl), bl7 HB⟩
      · rw [if_neg c7] at H
        have c7b0 : decide ((l1.length : Int) < (l0.length : Int)) = false := decide_eq_false c7
        have c7b1 : decide (l1.length < l0.length) = false := decide_eq_false (fun h => c7 (Int.ofNat_lt.mpr h))
        clear c7
        have H' := Aside0.mk H
        clear H
        go_enter Try.func9, Try.ntmps9
        go_wp2_with (first | ((with_reducible refine gate_callee (f := 23) rfl ?_); refine goesL_ (some 23) rfl rfl Try.func23 (by kernel_rfl) rfl #[] rfl (by (try simp only [List.map_toArray, List.map_cons, List.map_nil]); first | done | rfl | (simp only [List.length_drop, List.length_take]; rfl)) ?_; (with_reducible refine (cashbooklaw3_known.calls k  true _ A3.out).mono ?_); rintro e w9 ⟨rfl, hb⟩; refine ⟨_, rfl, ?_⟩; have n0_ := Aside0.mk (below_step (bl7 HB) hb); clear HB; have HB := n0_; clear n0_; (try clear hb); (try clear hb2); (try clear hk); (try clear hi)))
        (try simp only [Act.put, List.setIfInBounds_toArray, List.set_cons_zero, List.set_cons_succ])
        go_loopg [5, 6] k (fun kq v5 v6 w' => ∃ (x5_1 : List Int) (x6_1 : Int), v6 = .int .i64 x6_1 ∧ Aside0 (cashbooklaw3_LeRows.l0 kq l0 l1 x5_1 x6_1 = some r) ∧ Aside0 (kq ≤ k) ∧ Aside0 (Kd.R (Kd.int .u8) 5 w' w.heap.size (fun _ => True) v5 x5_1) ∧ Aside0 (Below w.heap.size w w'))
        case atStart => exact ⟨(([] : List Int)), (0), (by first | rfl | (simp; done) | (simp [*]; done)), H', ⟨Nat.le_refl _⟩, ⟨by first | exact Kd.R_nil _ _ _ _ _ | exact Kd.N_nil _ _ _ _ _ | exact Kd.V_nil _ _ _ _ _ | exact Kd.Q_nil _ _ _ _ _ | exact Kd.S_nil _ _ _ _ _⟩, ⟨bl7 HB⟩⟩
        case round =>
          clear H'
          try clear c1
          try clear c2
          try clear p2
          try clear c4
          try clear c5
          try clear c5b0
          try clear c5b1
          try clear c7
          try clear c7b0
          try clear c7b1
          try clear c9
          obtain ⟨x5_1, x6_1, rfl, HA, HK1, HO_5, HB⟩ := hrel
          cases gk with
          | zero => exact absurd HA.out (by simp [cashbooklaw3_LeRows.l0])
          | succ k1 =>
            have H := HA.out
            clear HA
            simp only [cashbooklaw3_LeRows.l0] at H
            by_cases c10 : x6_1 < (l0.length : Int)
            · rw [if_pos c10] at H
              have c10b0 : decide (x6_1 < (l0.length : Int)) = true := decide_eq_true c10
              clear c10
              by_cases c11 : 0 ≤ x6_1
              · rw [if_pos c11] at H
                have c11b0 : decide (0 ≤ x6_1) = true := decide_eq_true c11
                clear c11
                by_cases c12 : x6_1 < (l1.length : Int)
                · rw [if_pos c12] at H
                  have c12b0 : decide (x6_1 < (l1.length : Int)) = true := decide_eq_true c12
                  clear c12
                  by_cases c13 : (Int.tmod (rd l1 x6_1) 3) = 0
                  · rw [if_pos c13] at H
                    have c13b0 : ((Int.tmod (rd l1 x6_1) 3) == 0) = true := beq_iff_eq.mpr c13
                    have c13b1 : ((Int.tmod (rd l1 x6_1) 3) != 0) = false := bne_eq_false_iff_eq.mpr c13
                    clear c13
                    replace H := Option.bind_eq_some_iff.mp H
                    obtain ⟨⟨t378, t379⟩, A140, H⟩ := H
                    replace H : (if t379 = 0 then (cashbooklaw3_LeRows.l0 k1 l0 l1 t378 (wrap64 (x6_1 + 1))) else (none)) = some r := H
                    have A14 := Aside0.mk A140
                    clear A140
                    by_cases c15 : t379 = 0
                    · rw [if_pos c15] at H
                      have c15b0 : (t379 == 0) = true := beq_iff_eq.mpr c15
                      have c15b1 : (t379 != 0) = false := bne_eq_false_iff_eq.mpr c15
                      clear c15
                      have H' := Aside0.mk H
                      clear H
                      have p376 : 0 ≤ (x6_1 : Int) := of_decide_eq_true (by first | (with_reducible assumption) | assumption)
                      have q376 : x6_1 < (l1.length : Int) := of_decide_eq_true (by first | (with_reducible assumption) | assumption)
                      obtain ⟨ad376, e376, hx376_0⟩ := Kd.at_int HR1.out x6_1 p376 q376
                      cases e376
                      replace hx376_0 := (HB.out.cell (World.block_lt_of_cell? w _ hx376_0)).trans hx376_0
                      replace p376 := eq_true p376
                      replace q376 := eq_true q376
                      have p377 : 0 ≤ (x6_1 : Int) := of_decide_eq_true (by first | (with_reducible assumption) | assumption)
                      have q377 : x6_1 < (l0.length : Int) := of_decide_eq_true (by first | (with_reducible assumption) | assumption)
                      obtain ⟨ad377, e377, hx377_0⟩ := Kd.at_int HR0.out x6_1 p377 q377
                      cases e377
                      replace hx377_0 := (HB.out.cell (World.block_lt_of_cell? w _ hx377_0)).trans hx377_0
                      replace p377 := eq_true p377
                      replace q377 := eq_true q377
                      obtain ⟨Ao16, co16, eo16⟩ := Kd.R_slice HO_5.out
                      subst eo16
                      go_wp2_with (first | ((with_reducible refine gate_callee (f := 34) rfl ?_); refine goesL_ (some 56) rfl rfl Try.func34 (by kernel_rfl) rfl #[.slice Ao16 x5_1.length co16, .int .i64 (wrap64 (Int.tmod (rd l0 x6_1) 65536))] rfl (by (try simp only [List.map_toArray, List.map_cons, List.map_nil]); first | done | rfl | (simp only [List.length_drop, List.length_take]; rfl)) ?_; (with_reducible refine (le_Put16.calls k1 _ _ x5_1 (wrap64 (Int.tmod (rd l0 x6_1) 65536)) t378 t379 _ ?side1 ?side2 A14.out).mono ?_); (case side1 => repeat (first | exact (Kd.R_reads' HO_5.out).2.2 | (with_reducible refine Kd.C_alloc ?_ _) | (with_reducible refine Kd.C_drewN ?_ _) | (with_reducible refine Kd.C_drew ?_))); (case side2 => exact (Kd.R_reads' HO_5.out).2.1); rintro e w17 ⟨v380, rfl, ho0, hb⟩; refine ⟨_, rfl, ?_⟩; have n0_ := Aside0.mk (Kd.R_elder' (rq7 HO_5) (Kd.R_base ho0) hb); have n1_ := Aside0.mk (Kd.R_lower (Kd.R_new' ho0 (Kd.R_lt (rq7 HO_5))) (below_size (bl7 HB))); have n2_ := Aside0.mk (below_step (bl7 HB) hb); clear HO_5; clear HB; have HO_5 := n0_; have HO381 := n1_; have HB := n2_; clear n0_ n1_ n2_; (try clear hb); (try clear hb2); (try clear hk); (try clear hi); (try clear ho0)))
                      go_roundg k1
                      case measure => have := HK1.out; omega
                      case rel => exact ⟨(t378), (wrap64 (x6_1 + 1)), (by first | rfl | (simp; done) | (simp [*]; done)), H', ⟨by have := HK1.out; omega⟩, ⟨by (with_reducible repeat (first | apply Kd.R_alloc | apply Kd.R_drewN | apply Kd.R_drew)); exact Kd.R_mono HO381.out (fun _ hk => trivial)⟩, ⟨bl7 HB⟩⟩
                    · rw [if_neg c15] at H
                      exact absurd H (by simp)
                  · rw [if_neg c13] at H
                    have c13b0 : ((Int.tmod (rd l1 x6_1) 3) == 0) = false := beq_eq_false_iff_ne.mpr c13
                    have c13b1 : ((Int.tmod (rd l1 x6_1) 3) != 0) = true := bne_iff_ne.mpr c13
                    by_cases c18 : (Int.tmod (rd l1 x6_1) 3) = 1
                    · rw [if_pos c18] at H
                      have c18b0 : ((Int.tmod (rd l1 x6_1) 3) == 1) = true := beq_iff_eq.mpr c18
                      have c18b1 : ((Int.tmod (rd l1 x6_1) 3) != 1) = false := bne_eq_false_iff_eq.mpr c18
                      clear c18
                      replace H := Option.bind_eq_some_iff.mp H
                      obtain ⟨⟨t383, t384⟩, A190, H⟩ := H
                      replace H : (if t384 = 0 then (cashbooklaw3_LeRows.l0 k1 l0 l1 t383 (wrap64 (x6_1 + 1))) else (none)) = some r := H
                      have A19 := Aside0.mk A190
                      clear A190
                      by_cases c20 : t384 = 0
                      · rw [if_pos c20] at H
                        have c20b0 : (t384 == 0) = true := beq_iff_eq.mpr c20
                        have c20b1 : (t384 != 0) = false := bne_eq_false_iff_eq.mpr c20
                        clear c20
                        have H' := Aside0.mk H
                        clear H
                        have p376 : 0 ≤ (x6_1 : Int) := of_decide_eq_true (by first | (with_reducible assumption) | assumption)
                        have q376 : x6_1 < (l1.length : Int) := of_decide_eq_true (by first | (with_reducible assumption) | assumption)
                        obtain ⟨ad376, e376, hx376_0⟩ := Kd.at_int HR1.out x6_1 p376 q376
                        cases e376
                        replace hx376_0 := (HB.out.cell (World.block_lt_of_cell? w _ hx376_0)).trans hx376_0
                        replace p376 := eq_true p376
                        replace q376 := eq_true q376
                        have p382 : 0 ≤ (x6_1 : Int) := of_decide_eq_true (by first | (with_reducible assumption) | assumption)
                        have q382 : x6_1 < (l0.length : Int) := of_decide_eq_true (by first | (with_reducible assumption) | assumption)
                        obtain ⟨ad382, e382, hx382_0⟩ := Kd.at_int HR0.out x6_1 p382 q382
                        cases e382
                        replace hx382_0 := (HB.out.cell (World.block_lt_of_cell? w _ hx382_0)).trans hx382_0
                        replace p382 := eq_true p382
                        replace q382 := eq_true q382
                        obtain ⟨Ao21, co21, eo21⟩ := Kd.R_slice HO_5.out
                        subst eo21
                        go_wp2_with (first | ((with_reducible refine gate_callee (f := 35) rfl ?_); refine goesL_ (some 70) rfl rfl Try.func35 (by kernel_rfl) rfl #[.slice Ao21 x5_1.length co21, .int .i64 (wrap64 (rd l0 x6_1))] rfl (by (try simp only [List.map_toArray, List.map_cons, List.map_nil]); first | done | rfl | (simp only [List.length_drop, List.length_take]; rfl)) ?_; (with_reducible refine (le_Put32.calls k1 _ _ x5_1 (wrap64 (rd l0 x6_1)) t383 t384 _ ?side1 ?side2 A19.out).mono ?_); (case side1 => repeat (first | exact (Kd.R_reads' HO_5.out).2.2 | (with_reducible refine Kd.C_alloc ?_ _) | (with_reducible refine Kd.C_drewN ?_ _) | (with_reducible refine Kd.C_drew ?_))); (case side2 => exact (Kd.R_reads' HO_5.out).2.1); rintro e w22 ⟨v385, rfl, ho0, hb⟩; refine ⟨_, rfl, ?_⟩; have n0_ := Aside0.mk (Kd.R_elder' (rq7 HO_5) (Kd.R_base ho0) hb); have n1_ := Aside0.mk (Kd.R_lower (Kd.R_new' ho0 (Kd.R_lt (rq7 HO_5))) (below_size (bl7 HB))); have n2_ := Aside0.mk (below_step (bl7 HB) hb); clear HO_5; clear HB; have HO_5 := n0_; have HO386 := n1_; have HB := n2_; clear n0_ n1_ n2_; (try clear hb); (try clear hb2); (try clear hk); (try clear hi); (try clear ho0)))
                        go_roundg k1
                        case measure => have := HK1.out; omega
                        case rel => exact ⟨(t383), (wrap64 (x6_1 + 1)), (by first | rfl | (simp; done) | (simp [*]; done)), H', ⟨by have := HK1.out; omega⟩, ⟨by (with_reducible repeat (first | apply Kd.R_alloc | apply Kd.R_drewN | apply Kd.R_drew)); exact Kd.R_mono HO386.out (fun _ hk => trivial)⟩, ⟨bl7 HB⟩⟩
                      · rw [if_neg c20] at H
                        exact absurd H (by simp)
                    · rw [if_neg c18] at H
                      have c18b0 : ((Int.tmod (rd l1 x6_1) 3) == 1) = false := beq_eq_false_iff_ne.mpr c18
                      have c18b1 : ((Int.tmod (rd l1 x6_1) 3) != 1) = true := bne_iff_ne.mpr c18
                      by_cases c23 : (Int.tmod (rd l1 x6_1) 3) = 2
                      · rw [if_pos c23] at H
                        have c23b0 : ((Int.tmod (rd l1 x6_1) 3) == 2) = true := beq_iff_eq.mpr c23
                        have c23b1 : ((Int.tmod (rd l1 x6_1) 3) != 2) = false := bne_eq_false_iff_eq.mpr c23
                        clear c23
                        replace H := Option.bind_eq_some_iff.mp H
                        obtain ⟨t388, A240, H⟩ := H
                        replace H : (cashbooklaw3_LeRows.l0 k1 l0 l1 t388 (wrap64 (x6_1 + 1))) = some r := H
                        have A24 := Aside0.mk A240
                        clear A240
                        have H' := Aside0.mk H
                        clear H
                        have p376 : 0 ≤ (x6_1 : Int) := of_decide_eq_true (by first | (with_reducible assumption) | assumption)
                        have q376 : x6_1 < (l1.length : Int) := of_decide_eq_true (by first | (with_reducible assumption) | assumption)
                        obtain ⟨ad376, e376, hx376_0⟩ := Kd.at_int HR1.out x6_1 p376 q376
                        cases e376
                        replace hx376_0 := (HB.out.cell (World.block_lt_of_cell? w _ hx376_0)).trans hx376_0
                        replace p376 := eq_true p376
                        replace q376 := eq_true q376
                        have p387 : 0 ≤ (x6_1 : Int) := of_decide_eq_true (by first | (with_reducible assumption) | assumption)
                        have q387 : x6_1 < (l0.length : Int) := of_decide_eq_true (by first | (with_reducible assumption) | assumption)
                        obtain ⟨ad387, e387, hx387_0⟩ := Kd.at_int HR0.out x6_1 p387 q387
                        cases e387
                        replace hx387_0 := (HB.out.cell (World.block_lt_of_cell? w _ hx387_0)).trans hx387_0
                        replace p387 := eq_true p387
                        replace q387 := eq_true q387
                        obtain ⟨Ao25, co25, eo25⟩ := Kd.R_slice HO_5.out
                        subst eo25
                        go_wp2_with (first | ((with_reducible refine gate_callee (f := 36) rfl ?_); refine goesL_ (some 84) rfl rfl Try.func36 (by kernel_rfl) rfl #[.slice Ao25 x5_1.length co25, .int .i64 (wrap64 (-(wrap64 (rd l0 x6_1))))] rfl (by (try simp only [List.map_toArray, List.map_cons, List.map_nil]); first | done | rfl | (simp only [List.length_drop, List.length_take]; rfl)) ?_; (with_reducible refine (le_Put64.calls k1 _ _ x5_1 (wrap64 (-(wrap64 (rd l0 x6_1)))) t388 _ ?side1 ?side2 A24.out).mono ?_); (case side1 => repeat (first | exact (Kd.R_reads' HO_5.out).2.2 | (with_reducible refine Kd.C_alloc ?_ _) | (with_reducible refine Kd.C_drewN ?_ _) | (with_reducible refine Kd.C_drew ?_))); (case side2 => exact (Kd.R_reads' HO_5.out).2.1); rintro e w26 ⟨v389, rfl, ho0, hb⟩; refine ⟨_, rfl, ?_⟩; have n0_ := Aside0.mk (Kd.R_elder' (rq7 HO_5) (Kd.R_base ho0) hb); have n1_ := Aside0.mk (Kd.R_lower (Kd.R_new' ho0 (Kd.R_lt (rq7 HO_5))) (below_size (bl7 HB))); have n2_ := Aside0.mk (below_step (bl7 HB) hb); clear HO_5; clear HB; have HO_5 := n0_; have HO390 := n1_; have HB := n2_; clear n0_ n1_ n2_; (try clear hb); (try clear hb2); (try clear hk); (try clear hi); (try clear ho0)))
                        go_roundg k1
                        case measure => have := HK1.out; omega
                        case rel => exact ⟨(t388), (wrap64 (x6_1 + 1)), (by first | rfl | (simp; done) | (simp [*]; done)), H', ⟨by have := HK1.out; omega⟩, ⟨by (with_reducible repeat (first | apply Kd.R_alloc | apply Kd.R_drewN | apply Kd.R_drew)); exact Kd.R_mono HO390.out (fun _ hk => trivial)⟩, ⟨bl7 HB⟩⟩
                      · rw [if_neg c23] at H
                        have c23b0 : ((Int.tmod (rd l1 x6_1) 3) == 2) = false := beq_eq_false_iff_ne.mpr c23
                        have c23b1 : ((Int.tmod (rd l1 x6_1) 3) != 2) = true := bne_iff_ne.mpr c23
                        have H' := Aside0.mk H
                        clear H
                        have p376 : 0 ≤ (x6_1 : Int) := of_decide_eq_true (by first | (with_reducible assumption) | assumption)
                        have q376 : x6_1 < (l1.length : Int) := of_decide_eq_true (by first | (with_reducible assumption) | assumption)
                        obtain ⟨ad376, e376, hx376_0⟩ := Kd.at_int HR1.out x6_1 p376 q376
                        cases e376
                        replace hx376_0 := (HB.out.cell (World.block_lt_of_cell? w _ hx376_0)).trans hx376_0
                        replace p376 := eq_true p376
                        replace q376 := eq_true q376
                        go_wp2
                        go_roundg k1
                        case measure => have := HK1.out; omega
                        case rel => exact ⟨(x5_1), (wrap64 (x6_1 + 1)), (by first | rfl | (simp; done) | (simp [*]; done)), H', ⟨by have := HK1.out; omega⟩, ⟨by (with_reducible repeat (first | apply Kd.R_alloc | apply Kd.R_drewN | apply Kd.R_drew)); exact HO_5.out⟩, ⟨bl7 HB⟩⟩
                · rw [if_neg c12] at H
                  exact absurd H (by simp)
              · rw [if_neg c11] at H
                exact absurd H (by simp)
            · rw [if_neg c10] at H
              have c10b0 : decide (x6_1 < (l0.length : Int)) = false := decide_eq_false c10
              clear c10
              have H' := Aside0.mk H
              clear H
              obtain ⟨Ao27, co27, eo27⟩ := Kd.R_slice HO_5.out
              subst eo27
              go_wp2_with (first | ((with_reducible refine gate_dst (N := 12) rfl ?_); (try (refine gate_guard (by rfl) ?_; dsimp only)); refine box_event ?hg (N := 12) ?hd (cs := #[.slice none 0 0, .int .i64 0]) (t := 46) ?hr ?_; (case hd => rfl); (case hg => rfl); (case hr => first | (go_simp; done) | (go_simp; rfl)); intro gb391 hg w28 hbox hb; have n0_ := rb7 HO_5 hb; have n1_ := Aside0.mk (below_step (bl7 HB) hb); have n2_ := Aside0.mk (hbox); have n3_ := Aside0.mk ((by rw [hg]; exact (below_size (bl7 HB)) : w.heap.size ≤ gb391)); have n4_ := Aside0.mk ((by rw [hg]; exact (below_size (bl7 HB)) : w.heap.size ≤ gb391)); clear HO_5; clear HB; have HO_5 := n0_; have HB := n1_; have BK391 := n2_; have GW391 := n3_; have GE391 := n4_; clear n0_ n1_ n2_ n3_ n4_; clear hb hbox hg; have hcz29_0 : w28.cell? ⟨gb391, 0, none⟩ = some (.slice none 0 0) := (blk_cell BK391.out 0).trans rfl; have hcz29_1 : w28.cell? ⟨gb391, 1, none⟩ = some (.int .i64 0) := (blk_cell BK391.out 1).trans rfl; have hfz29_0 := blk_frozen BK391.out 0; have hfz29_1 := blk_frozen BK391.out 1))
              (try simp only [Act.put, List.setIfInBounds_toArray, List.set_cons_zero, List.set_cons_succ])
              go_loopg [13] k1 (fun kq v13 w' => ∃ (x13_2 : Int) (x392000_2 : List Int) (x392001_2 : Int) (u392000 : Value), v13 = .int .i64 x13_2 ∧ Aside0 (cashbooklaw3_LeRows.l1 kq l0 l1 x13_2 x392000_2 x392001_2 = some r) ∧ Aside0 (kq ≤ k1) ∧ Aside0 (Kd.V (Kd.int .u8) 5 w' w.heap.size (fun k_ => k_ ≠ gb391) u392000 x392000_2) ∧ Aside0 (w'.heap[gb391]? = some (.cells #[u392000, .int .i64 x392001_2] 46 (0, 0))) ∧ Aside0 (Below w.heap.size w w'))
              case atStart => exact ⟨(0), (x5_1), (0), (.slice Ao27 x5_1.length co27), (by first | rfl | (simp; done) | (simp [*]; done)), H', ⟨Nat.le_refl _⟩, ⟨Kd.R_V (by (with_reducible repeat (first | apply Kd.R_alloc | apply Kd.R_drewN | apply Kd.R_drew)); exact Kd.R_mono (Kd.R_far (p := ⟨gb391, 1, none⟩) (Kd.R_far (p := ⟨gb391, 0, none⟩) (Kd.R_types (Kd.R_types HO_5.out BK391.out (by decide)) BK391.out (by decide)) (fun _ hk => hk.2) (.slice Ao27 x5_1.length co27)) (fun _ hk => hk.2) (.int .i64 0)) (fun _ hk => hk.1.2))⟩, ⟨by (with_reducible repeat (first | refine blk_drewN ?_ _ | refine blk_drew ?_ | refine blk_alloc ?_ _)); refine blk_put (cs := #[.slice Ao27 x5_1.length co27, .int .i64 0]) ?_ 1 _ rfl; (with_reducible repeat (first | refine blk_drewN ?_ _ | refine blk_drew ?_ | refine blk_alloc ?_ _)); refine blk_put (cs := #[.slice none 0 0, .int .i64 0]) ?_ 0 _ rfl; (with_reducible repeat (first | refine blk_drewN ?_ _ | refine blk_drew ?_ | refine blk_alloc ?_ _)); exact BK391.out⟩, ⟨bl7 HB⟩⟩
              case round =>
                clear H'
                try clear c1
                try clear c2
                try clear p2
                try clear c3
                try clear p3
                try clear q3
                try clear hx3
                try clear c4
                try clear c5
                try clear c5b0
                try clear c5b1
                try clear p6
                try clear c7
                try clear c7b0
                try clear c7b1
                try clear c9
                try clear c10
                try clear c10b0
                try clear c11
                try clear c11b0
                try clear c12
                try clear c12b0
                try clear c13
                try clear c13b0
                try clear c13b1
                try clear c15
                try clear c15b0
                try clear c15b1
                try clear c18
                try clear c18b0
                try clear c18b1
                try clear c20
                try clear c20b0
                try clear c20b1
                try clear c23
                try clear c23b0
                try clear c23b1
                try clear hcz29_0
                try clear hcz29_1
                try clear hfz29_0
                try clear hfz29_1
                try clear hx376_0
                try clear hx377_0
                try clear hx382_0
                try clear hx387_0
                try clear p2
                try clear p376
                try clear p377
                try clear p382
                try clear p387
                try clear q376
                try clear q377
                try clear q382
                try clear q387
                obtain ⟨x13_2, x392000_2, x392001_2, u392000, rfl, HA, HK2, HO_392000, BK391, HB⟩ := hrel
                cases gk with
                | zero => exact absurd HA.out (by simp [cashbooklaw3_LeRows.l1])
                | succ k2 =>
                  have H := HA.out
                  clear HA
                  simp only [cashbooklaw3_LeRows.l1] at H
                  by_cases c30 : x13_2 < (l0.length : Int)
                  · rw [if_pos c30] at H
                    have c30b0 : decide (x13_2 < (l0.length : Int)) = true := decide_eq_true c30
                    clear c30
                    by_cases c31 : 0 ≤ x13_2
                    · rw [if_pos c31] at H
                      have c31b0 : decide (0 ≤ x13_2) = true := decide_eq_true c31
                      clear c31
                      by_cases c32 : x13_2 < (l1.length : Int)
                      · rw [if_pos c32] at H
                        have c32b0 : decide (x13_2 < (l1.length : Int)) = true := decide_eq_true c32
                        clear c32
                        by_cases c33 : (Int.tmod (rd l1 x13_2) 3) = 0
                        · rw [if_pos c33] at H
                          have c33b0 : ((Int.tmod (rd l1 x13_2) 3) == 0) = true := beq_iff_eq.mpr c33
                          have c33b1 : ((Int.tmod (rd l1 x13_2) 3) != 0) = false := bne_eq_false_iff_eq.mpr c33
                          clear c33
                          replace H := Option.bind_eq_some_iff.mp H
                          obtain ⟨⟨t393, t394, t397, t398⟩, A340, H⟩ := H
                          replace H : (if t398 = 0 then (if t393 = (wrap64 (Int.tmod (rd l0 x13_2) 65536)) then (if t397 = (wrap64 (x392001_2 + 2)) then (cashbooklaw3_LeRows.l1 k2 l0 l1 (wrap64 (x13_2 + 1)) t394 t397) else (none)) else (none)) else (none)) = some r := H
                          have A34 := Aside0.mk A340
                          clear A340
                          by_cases c35 : t398 = 0
                          · rw [if_pos c35] at H
                            have c35b0 : (t398 == 0) = true := beq_iff_eq.mpr c35
                            have c35b1 : (t398 != 0) = false := bne_eq_false_iff_eq.mpr c35
                            clear c35
                            by_cases c36 : t393 = (wrap64 (Int.tmod (rd l0 x13_2) 65536))
                            · rw [if_pos c36] at H
                              have c36b0 : (t393 == (wrap64 (Int.tmod (rd l0 x13_2) 65536))) = true := beq_iff_eq.mpr c36
                              have c36b1 : (t393 != (wrap64 (Int.tmod (rd l0 x13_2) 65536))) = false := bne_eq_false_iff_eq.mpr c36
                              clear c36
                              by_cases c37 : t397 = (wrap64 (x392001_2 + 2))
                              · rw [if_pos c37] at H
                                have c37b0 : (t397 == (wrap64 (x392001_2 + 2))) = true := beq_iff_eq.mpr c37
                                have c37b1 : (t397 != (wrap64 (x392001_2 + 2))) = false := bne_eq_false_iff_eq.mpr c37
                                clear c37
                                have H' := Aside0.mk H
                                clear H
                                have p392 : 0 ≤ (x13_2 : Int) := of_decide_eq_true (by first | (with_reducible assumption) | assumption)
                                have q392 : x13_2 < (l1.length : Int) := of_decide_eq_true (by first | (with_reducible assumption) | assumption)
                                obtain ⟨ad392, e392, hx392_0⟩ := Kd.at_int HR1.out x13_2 p392 q392
                                cases e392
                                replace hx392_0 := (HB.out.cell (World.block_lt_of_cell? w _ hx392_0)).trans hx392_0
                                replace p392 := eq_true p392
                                replace q392 := eq_true q392
                                have hcz38_0 : wr.cell? ⟨gb391, 0, none⟩ = some (u392000) := (blk_cell BK391.out 0).trans rfl
                                have hcz38_1 : wr.cell? ⟨gb391, 1, none⟩ = some (.int .i64 x392001_2) := (blk_cell BK391.out 1).trans rfl
                                have hfz38_0 := blk_frozen BK391.out 0
                                have hfz38_1 := blk_frozen BK391.out 1
                                obtain ⟨Ao39, co39, eo39⟩ := Kd.V_slice HO_392000.out
                                subst eo39
                                go_wp2_with (first | ((with_reducible refine gate_callee (f := 26) rfl ?_); refine goesL_ (some 104) rfl rfl Try.func26 (by kernel_rfl) rfl #[.agg #[.slice Ao39 x392000_2.length co39, .int .i64 x392001_2]] rfl (by (try simp only [List.map_toArray, List.map_cons, List.map_nil]); first | done | rfl | (simp only [List.length_drop, List.length_take]; rfl)) ?_; (with_reducible refine (le_U16.calls k2 (fun k_ => k_ ≠ gb391) _ _ x392000_2 x392001_2 t393 t394 t397 t398 _ ?side1 A34.out).mono ?_); (case side1 => exact HO_392000.out); rintro e w40 ⟨v395, rfl, ho0, hb⟩; refine ⟨_, rfl, ?_⟩; have n0_ := vb7 HO_392000 hb; have n1_ := Aside0.mk (Kd.V_lower (Kd.V_mono (ok' := fun k_ => k_ ≠ gb391) ho0 (fun k_ hk_ => Or.elim hk_ (fun hs_ => hs_) (fun hn_ => (Kd.freshB (bq7 BK391) k_ hn_)))) (below_size (bl7 HB))); have n2_ := bk7 BK391 hb; have n3_ := Aside0.mk (below_step (bl7 HB) hb); clear HO_392000; clear BK391; clear HB; have HO_392000 := n0_; have HO396 := n1_; have BK391 := n2_; have HB := n3_; clear n0_ n1_ n2_ n3_; (try clear hb); (try clear hb2); (try clear hk); (try clear hi); (try clear ho0)) | ((with_reducible refine gate_dst (N := 15) rfl ?_); (try (refine gate_guard (by rfl) ?_; dsimp only)); refine box_event ?hg (N := 15) ?hd (cs := #[.slice none 0 0, .int .i64 0]) (t := 46) ?hr ?_; (case hd => rfl); (case hg => rfl); (case hr => first | (go_simp; done) | (go_simp; rfl)); intro gb399 hg w41 hbox hb; have n0_ := Aside0.mk (Kd.V_below (Kd.V_elderB (vq7 HO_392000) gb399 (Nat.le_of_eq hg.symm)) hb); have n1_ := Aside0.mk (Kd.V_below (Kd.V_elderB (vq7 HO396) gb399 (Nat.le_of_eq hg.symm)) hb); have n2_ := bk7 BK391 hb; have n3_ := Aside0.mk (below_step (bl7 HB) hb); have n4_ := Aside0.mk (hbox); have n5_ := Aside0.mk ((by rw [hg]; exact (below_size (bl7 HB)) : w.heap.size ≤ gb399)); have n6_ := Aside0.mk ((by rw [hg]; exact (below_size (bl7 HB)) : w.heap.size ≤ gb399)); have n7_ := Aside0.mk ((by rw [hg]; exact Nat.ne_of_lt (blk_lt (bq7 BK391)) : gb391 ≠ gb399)); have n8_ := Aside0.mk ((by rw [hg]; exact Nat.ne_of_gt (blk_lt (bq7 BK391)) : gb399 ≠ gb391)); clear HO_392000; clear HO396; clear BK391; clear HB; have HO_392000 := n0_; have HO396 := n1_; have BK391 := n2_; have HB := n3_; have BK399 := n4_; have GW399 := n5_; have GE399 := n6_; have NB391_399 := n7_; have NB399_391 := n8_; clear n0_ n1_ n2_ n3_ n4_ n5_ n6_ n7_ n8_; clear hb hbox hg; obtain ⟨Ao42, co42, eo42⟩ := Kd.V_slice HO396.out; subst eo42; have hnb43 := NB399_391.out; have hnc43 := NB391_399.out; have hcz44_0 : w41.cell? ⟨gb399, 0, none⟩ = some (.slice none 0 0) := (blk_cell BK399.out 0).trans rfl; have hcz44_1 : w41.cell? ⟨gb399, 1, none⟩ = some (.int .i64 0) := (blk_cell BK399.out 1).trans rfl; have hfz44_0 := blk_frozen BK399.out 0; have hfz44_1 := blk_frozen BK399.out 1; have p400 : 0 ≤ (x13_2 : Int) := of_decide_eq_true (by first | (with_reducible assumption) | assumption); have q400 : x13_2 < (l0.length : Int) := of_decide_eq_true (by first | (with_reducible assumption) | assumption); obtain ⟨ad400, e400, hx400_0⟩ := Kd.at_int HR0.out x13_2 p400 q400; cases e400; have hn400_0 : ad400.block ≠ gb399 := Nat.ne_of_lt (Nat.lt_of_lt_of_le (by have := World.block_lt_of_cell? _ _ hx400_0; first | rwa [add_block] at this | exact this) GW399.out); have hn400_1 : ad400.block ≠ gb399 := Nat.ne_of_lt (Nat.lt_of_lt_of_le (by have := World.block_lt_of_cell? _ _ hx400_0; first | rwa [add_block] at this | exact this) GW399.out); replace hx400_0 := (HB.out.cell (World.block_lt_of_cell? w _ hx400_0)).trans hx400_0; replace hx400_0 := (cell_far (p := ⟨gb399, 0, none⟩) (by first | (rw [add_block]; exact hn400_0) | (show (Addr.add _ _).block ≠ _; rw [add_block]; exact hn400_0) | exact hn400_0) (.slice Ao42 t394.length co42)).trans hx400_0; replace hx400_0 := (cell_far (p := ⟨gb399, 1, none⟩) (by first | (rw [add_block]; exact hn400_1) | (show (Addr.add _ _).block ≠ _; rw [add_block]; exact hn400_1) | exact hn400_1) (.int .i64 t397)).trans hx400_0; clear hn400_0; clear hn400_1; replace p400 := eq_true p400; replace q400 := eq_true q400; have hcz45_0 : w41.cell? ⟨gb391, 0, none⟩ = some (.slice Ao39 x392000_2.length co39) := (blk_cell BK391.out 0).trans rfl; have hcz45_1 : w41.cell? ⟨gb391, 1, none⟩ = some (.int .i64 x392001_2) := (blk_cell BK391.out 1).trans rfl; have hfz45_0 := blk_frozen BK391.out 0; have hfz45_1 := blk_frozen BK391.out 1))
                                go_roundg k2
                                case measure => have := HK1.out; have := HK2.out; omega
                                case rel => exact ⟨(wrap64 (x13_2 + 1)), (t394), (t397), (.slice Ao42 t394.length co42), (by first | rfl | (simp; done) | (simp [*]; done)), H', ⟨by have := HK1.out; have := HK2.out; omega⟩, ⟨by (with_reducible repeat (first | apply Kd.V_alloc | apply Kd.V_drewN | apply Kd.V_drew)); exact Kd.V_mono (Kd.V_far (p := ⟨gb391, 1, none⟩) (Kd.V_far (p := ⟨gb391, 0, none⟩) (Kd.V_far (p := ⟨gb399, 1, none⟩) (Kd.V_far (p := ⟨gb399, 0, none⟩) (Kd.V_mono (Kd.V_mono HO396.out (fun k_ hk => (⟨hk, hk.2⟩ : _ ∧ k_ ≠ gb399))) (fun k_ hk => (⟨hk, hk.1.1⟩ : _ ∧ k_ ≠ gb391))) (fun _ hk => hk.1.2) (.slice Ao42 t394.length co42)) (fun _ hk => hk.1.2) (.int .i64 t397)) (fun _ hk => hk.2) (.slice Ao42 t394.length co42)) (fun _ hk => hk.2) (.int .i64 t397)) (fun _ hk => hk.1.1.1)⟩, ⟨by (with_reducible repeat (first | refine blk_drewN ?_ _ | refine blk_drew ?_ | refine blk_alloc ?_ _)); refine blk_put (cs := #[.slice Ao42 t394.length co42, .int .i64 x392001_2]) ?_ 1 _ rfl; (with_reducible repeat (first | refine blk_drewN ?_ _ | refine blk_drew ?_ | refine blk_alloc ?_ _)); refine blk_put (cs := #[.slice Ao39 x392000_2.length co39, .int .i64 x392001_2]) ?_ 0 _ rfl; (with_reducible repeat (first | refine blk_drewN ?_ _ | refine blk_drew ?_ | refine blk_alloc ?_ _)); refine blk_far ?_ NB391_399.out _; (with_reducible repeat (first | refine blk_drewN ?_ _ | refine blk_drew ?_ | refine blk_alloc ?_ _)); refine blk_far ?_ NB391_399.out _; (with_reducible repeat (first | refine blk_drewN ?_ _ | refine blk_drew ?_ | refine blk_alloc ?_ _)); exact BK391.out⟩, ⟨bl7 HB⟩⟩
                              · rw [if_neg c37] at H
                                exact absurd H (by simp)
                            · rw [if_neg c36] at H
                              exact absurd H (by simp)
                          · rw [if_neg c35] at H
                            exact absurd H (by simp)
                        · rw [if_neg c33] at H
                          have c33b0 : ((Int.tmod (rd l1 x13_2) 3) == 0) = false := beq_eq_false_iff_ne.mpr c33
                          have c33b1 : ((Int.tmod (rd l1 x13_2) 3) != 0) = true := bne_iff_ne.mpr c33
                          by_cases c46 : (Int.tmod (rd l1 x13_2) 3) = 1
                          · rw [if_pos c46] at H
                            have c46b0 : ((Int.tmod (rd l1 x13_2) 3) == 1) = true := beq_iff_eq.mpr c46
                            have c46b1 : ((Int.tmod (rd l1 x13_2) 3) != 1) = false := bne_eq_false_iff_eq.mpr c46
                            clear c46
                            replace H := Option.bind_eq_some_iff.mp H
                            obtain ⟨⟨t401, t402, t405, t406⟩, A470, H⟩ := H
                            replace H : (if t406 = 0 then (if t401 = (wrap64 (rd l0 x13_2)) then (if t405 = (wrap64 (x392001_2 + 4)) then (cashbooklaw3_LeRows.l1 k2 l0 l1 (wrap64 (x13_2 + 1)) t402 t405) else (none)) else (none)) else (none)) = some r := H
                            have A47 := Aside0.mk A470
                            clear A470
                            by_cases c48 : t406 = 0
                            · rw [if_pos c48] at H
                              have c48b0 : (t406 == 0) = true := beq_iff_eq.mpr c48
                              have c48b1 : (t406 != 0) = false := bne_eq_false_iff_eq.mpr c48
                              clear c48
                              by_cases c49 : t401 = (wrap64 (rd l0 x13_2))
                              · rw [if_pos c49] at H
                                have c49b0 : (t401 == (wrap64 (rd l0 x13_2))) = true := beq_iff_eq.mpr c49
                                have c49b1 : (t401 != (wrap64 (rd l0 x13_2))) = false := bne_eq_false_iff_eq.mpr c49
                                clear c49
                                by_cases c50 : t405 = (wrap64 (x392001_2 + 4))
                                · rw [if_pos c50] at H
                                  have c50b0 : (t405 == (wrap64 (x392001_2 + 4))) = true := beq_iff_eq.mpr c50
                                  have c50b1 : (t405 != (wrap64 (x392001_2 + 4))) = false := bne_eq_false_iff_eq.mpr c50
                                  clear c50
                                  have H' := Aside0.mk H
                                  clear H
                                  have p392 : 0 ≤ (x13_2 : Int) := of_decide_eq_true (by first | (with_reducible assumption) | assumption)
                                  have q392 : x13_2 < (l1.length : Int) := of_decide_eq_true (by first | (with_reducible assumption) | assumption)
                                  obtain ⟨ad392, e392, hx392_0⟩ := Kd.at_int HR1.out x13_2 p392 q392
                                  cases e392
                                  replace hx392_0 := (HB.out.cell (World.block_lt_of_cell? w _ hx392_0)).trans hx392_0
                                  replace p392 := eq_true p392
                                  replace q392 := eq_true q392
                                  have hcz51_0 : wr.cell? ⟨gb391, 0, none⟩ = some (u392000) := (blk_cell BK391.out 0).trans rfl
                                  have hcz51_1 : wr.cell? ⟨gb391, 1, none⟩ = some (.int .i64 x392001_2) := (blk_cell BK391.out 1).trans rfl
                                  have hfz51_0 := blk_frozen BK391.out 0
                                  have hfz51_1 := blk_frozen BK391.out 1
                                  obtain ⟨Ao52, co52, eo52⟩ := Kd.V_slice HO_392000.out
                                  subst eo52
                                  go_wp2_with (first | ((with_reducible refine gate_callee (f := 27) rfl ?_); refine goesL_ (some 133) rfl rfl Try.func27 (by kernel_rfl) rfl #[.agg #[.slice Ao52 x392000_2.length co52, .int .i64 x392001_2]] rfl (by (try simp only [List.map_toArray, List.map_cons, List.map_nil]); first | done | rfl | (simp only [List.length_drop, List.length_take]; rfl)) ?_; (with_reducible refine (le_U32.calls k2 (fun k_ => k_ ≠ gb391) _ _ x392000_2 x392001_2 t401 t402 t405 t406 _ ?side1 A47.out).mono ?_); (case side1 => exact HO_392000.out); rintro e w53 ⟨v403, rfl, ho0, hb⟩; refine ⟨_, rfl, ?_⟩; have n0_ := vb7 HO_392000 hb; have n1_ := Aside0.mk (Kd.V_lower (Kd.V_mono (ok' := fun k_ => k_ ≠ gb391) ho0 (fun k_ hk_ => Or.elim hk_ (fun hs_ => hs_) (fun hn_ => (Kd.freshB (bq7 BK391) k_ hn_)))) (below_size (bl7 HB))); have n2_ := bk7 BK391 hb; have n3_ := Aside0.mk (below_step (bl7 HB) hb); clear HO_392000; clear BK391; clear HB; have HO_392000 := n0_; have HO404 := n1_; have BK391 := n2_; have HB := n3_; clear n0_ n1_ n2_ n3_; (try clear hb); (try clear hb2); (try clear hk); (try clear hi); (try clear ho0)) | ((with_reducible refine gate_dst (N := 18) rfl ?_); (try (refine gate_guard (by rfl) ?_; dsimp only)); refine box_event ?hg (N := 18) ?hd (cs := #[.slice none 0 0, .int .i64 0]) (t := 46) ?hr ?_; (case hd => rfl); (case hg => rfl); (case hr => first | (go_simp; done) | (go_simp; rfl)); intro gb407 hg w54 hbox hb; have n0_ := Aside0.mk (Kd.V_below (Kd.V_elderB (vq7 HO_392000) gb407 (Nat.le_of_eq hg.symm)) hb); have n1_ := Aside0.mk (Kd.V_below (Kd.V_elderB (vq7 HO404) gb407 (Nat.le_of_eq hg.symm)) hb); have n2_ := bk7 BK391 hb; have n3_ := Aside0.mk (below_step (bl7 HB) hb); have n4_ := Aside0.mk (hbox); have n5_ := Aside0.mk ((by rw [hg]; exact (below_size (bl7 HB)) : w.heap.size ≤ gb407)); have n6_ := Aside0.mk ((by rw [hg]; exact (below_size (bl7 HB)) : w.heap.size ≤ gb407)); have n7_ := Aside0.mk ((by rw [hg]; exact Nat.ne_of_lt (blk_lt (bq7 BK391)) : gb391 ≠ gb407)); have n8_ := Aside0.mk ((by rw [hg]; exact Nat.ne_of_gt (blk_lt (bq7 BK391)) : gb407 ≠ gb391)); clear HO_392000; clear HO404; clear BK391; clear HB; have HO_392000 := n0_; have HO404 := n1_; have BK391 := n2_; have HB := n3_; have BK407 := n4_; have GW407 := n5_; have GE407 := n6_; have NB391_407 := n7_; have NB407_391 := n8_; clear n0_ n1_ n2_ n3_ n4_ n5_ n6_ n7_ n8_; clear hb hbox hg; obtain ⟨Ao55, co55, eo55⟩ := Kd.V_slice HO404.out; subst eo55; have hnb56 := NB407_391.out; have hnc56 := NB391_407.out; have hcz57_0 : w54.cell? ⟨gb407, 0, none⟩ = some (.slice none 0 0) := (blk_cell BK407.out 0).trans rfl; have hcz57_1 : w54.cell? ⟨gb407, 1, none⟩ = some (.int .i64 0) := (blk_cell BK407.out 1).trans rfl; have hfz57_0 := blk_frozen BK407.out 0; have hfz57_1 := blk_frozen BK407.out 1; have p408 : 0 ≤ (x13_2 : Int) := of_decide_eq_true (by first | (with_reducible assumption) | assumption); have q408 : x13_2 < (l0.length : Int) := of_decide_eq_true (by first | (with_reducible assumption) | assumption); obtain ⟨ad408, e408, hx408_0⟩ := Kd.at_int HR0.out x13_2 p408 q408; cases e408; have hn408_0 : ad408.block ≠ gb407 := Nat.ne_of_lt (Nat.lt_of_lt_of_le (by have := World.block_lt_of_cell? _ _ hx408_0; first | rwa [add_block] at this | exact this) GW407.out); have hn408_1 : ad408.block ≠ gb407 := Nat.ne_of_lt (Nat.lt_of_lt_of_le (by have := World.block_lt_of_cell? _ _ hx408_0; first | rwa [add_block] at this | exact this) GW407.out); replace hx408_0 := (HB.out.cell (World.block_lt_of_cell? w _ hx408_0)).trans hx408_0; replace hx408_0 := (cell_far (p := ⟨gb407, 0, none⟩) (by first | (rw [add_block]; exact hn408_0) | (show (Addr.add _ _).block ≠ _; rw [add_block]; exact hn408_0) | exact hn408_0) (.slice Ao55 t402.length co55)).trans hx408_0; replace hx408_0 := (cell_far (p := ⟨gb407, 1, none⟩) (by first | (rw [add_block]; exact hn408_1) | (show (Addr.add _ _).block ≠ _; rw [add_block]; exact hn408_1) | exact hn408_1) (.int .i64 t405)).trans hx408_0; clear hn408_0; clear hn408_1; replace p408 := eq_true p408; replace q408 := eq_true q408; have hcz58_0 : w54.cell? ⟨gb391, 0, none⟩ = some (.slice Ao52 x392000_2.length co52) := (blk_cell BK391.out 0).trans rfl; have hcz58_1 : w54.cell? ⟨gb391, 1, none⟩ = some (.int .i64 x392001_2) := (blk_cell BK391.out 1).trans rfl; have hfz58_0 := blk_frozen BK391.out 0; have hfz58_1 := blk_frozen BK391.out 1))
                                  go_roundg k2
                                  case measure => have := HK1.out; have := HK2.out; omega
                                  case rel => exact ⟨(wrap64 (x13_2 + 1)), (t402), (t405), (.slice Ao55 t402.length co55), (by first | rfl | (simp; done) | (simp [*]; done)), H', ⟨by have := HK1.out; have := HK2.out; omega⟩, ⟨by (with_reducible repeat (first | apply Kd.V_alloc | apply Kd.V_drewN | apply Kd.V_drew)); exact Kd.V_mono (Kd.V_far (p := ⟨gb391, 1, none⟩) (Kd.V_far (p := ⟨gb391, 0, none⟩) (Kd.V_far (p := ⟨gb407, 1, none⟩) (Kd.V_far (p := ⟨gb407, 0, none⟩) (Kd.V_mono (Kd.V_mono HO404.out (fun k_ hk => (⟨hk, hk.2⟩ : _ ∧ k_ ≠ gb407))) (fun k_ hk => (⟨hk, hk.1.1⟩ : _ ∧ k_ ≠ gb391))) (fun _ hk => hk.1.2) (.slice Ao55 t402.length co55)) (fun _ hk => hk.1.2) (.int .i64 t405)) (fun _ hk => hk.2) (.slice Ao55 t402.length co55)) (fun _ hk => hk.2) (.int .i64 t405)) (fun _ hk => hk.1.1.1)⟩, ⟨by (with_reducible repeat (first | refine blk_drewN ?_ _ | refine blk_drew ?_ | refine blk_alloc ?_ _)); refine blk_put (cs := #[.slice Ao55 t402.length co55, .int .i64 x392001_2]) ?_ 1 _ rfl; (with_reducible repeat (first | refine blk_drewN ?_ _ | refine blk_drew ?_ | refine blk_alloc ?_ _)); refine blk_put (cs := #[.slice Ao52 x392000_2.length co52, .int .i64 x392001_2]) ?_ 0 _ rfl; (with_reducible repeat (first | refine blk_drewN ?_ _ | refine blk_drew ?_ | refine blk_alloc ?_ _)); refine blk_far ?_ NB391_407.out _; (with_reducible repeat (first | refine blk_drewN ?_ _ | refine blk_drew ?_ | refine blk_alloc ?_ _)); refine blk_far ?_ NB391_407.out _; (with_reducible repeat (first | refine blk_drewN ?_ _ | refine blk_drew ?_ | refine blk_alloc ?_ _)); exact BK391.out⟩, ⟨bl7 HB⟩⟩
                                · rw [if_neg c50] at H
                                  exact absurd H (by simp)
                              · rw [if_neg c49] at H
                                exact absurd H (by simp)
                            · rw [if_neg c48] at H
                              exact absurd H (by simp)
                          · rw [if_neg c46] at H
                            have c46b0 : ((Int.tmod (rd l1 x13_2) 3) == 1) = false := beq_eq_false_iff_ne.mpr c46
                            have c46b1 : ((Int.tmod (rd l1 x13_2) 3) != 1) = true := bne_iff_ne.mpr c46
                            by_cases c59 : (Int.tmod (rd l1 x13_2) 3) = 2
                            · rw [if_pos c59] at H
                              have c59b0 : ((Int.tmod (rd l1 x13_2) 3) == 2) = true := beq_iff_eq.mpr c59
                              have c59b1 : ((Int.tmod (rd l1 x13_2) 3) != 2) = false := bne_eq_false_iff_eq.mpr c59
                              clear c59
                              replace H := Option.bind_eq_some_iff.mp H
                              obtain ⟨⟨t409, t410, t413, t414⟩, A600, H⟩ := H
                              replace H : (if t414 = 0 then (if t409 = (wrap64 (-(wrap64 (rd l0 x13_2)))) then (if t413 = (wrap64 (x392001_2 + 8)) then (cashbooklaw3_LeRows.l1 k2 l0 l1 (wrap64 (x13_2 + 1)) t410 t413) else (none)) else (none)) else (none)) = some r := H
                              have A60 := Aside0.mk A600
                              clear A600
                              by_cases c61 : t414 = 0
                              · rw [if_pos c61] at H
                                have c61b0 : (t414 == 0) = true := beq_iff_eq.mpr c61
                                have c61b1 : (t414 != 0) = false := bne_eq_false_iff_eq.mpr c61
                                clear c61
                                by_cases c62 : t409 = (wrap64 (-(wrap64 (rd l0 x13_2))))
                                · rw [if_pos c62] at H
                                  have c62b0 : (t409 == (wrap64 (-(wrap64 (rd l0 x13_2))))) = true := beq_iff_eq.mpr c62
                                  have c62b1 : (t409 != (wrap64 (-(wrap64 (rd l0 x13_2))))) = false := bne_eq_false_iff_eq.mpr c62
                                  clear c62
                                  by_cases c63 : t413 = (wrap64 (x392001_2 + 8))
                                  · rw [if_pos c63] at H
                                    have c63b0 : (t413 == (wrap64 (x392001_2 + 8))) = true := beq_iff_eq.mpr c63
                                    have c63b1 : (t413 != (wrap64 (x392001_2 + 8))) = false := bne_eq_false_iff_eq.mpr c63
                                    clear c63
                                    have H' := Aside0.mk H
                                    clear H
                                    have p392 : 0 ≤ (x13_2 : Int) := of_decide_eq_true (by first | (with_reducible assumption) | assumption)
                                    have q392 : x13_2 < (l1.length : Int) := of_decide_eq_true (by first | (with_reducible assumption) | assumption)
                                    obtain ⟨ad392, e392, hx392_0⟩ := Kd.at_int HR1.out x13_2 p392 q392
                                    cases e392
                                    replace hx392_0 := (HB.out.cell (World.block_lt_of_cell? w _ hx392_0)).trans hx392_0
                                    replace p392 := eq_true p392
                                    replace q392 := eq_true q392
                                    have hcz64_0 : wr.cell? ⟨gb391, 0, none⟩ = some (u392000) := (blk_cell BK391.out 0).trans rfl
                                    have hcz64_1 : wr.cell? ⟨gb391, 1, none⟩ = some (.int .i64 x392001_2) := (blk_cell BK391.out 1).trans rfl
                                    have hfz64_0 := blk_frozen BK391.out 0
                                    have hfz64_1 := blk_frozen BK391.out 1
                                    obtain ⟨Ao65, co65, eo65⟩ := Kd.V_slice HO_392000.out
                                    subst eo65
                                    go_wp2_with (first | ((with_reducible refine gate_callee (f := 28) rfl ?_); refine goesL_ (some 161) rfl rfl Try.func28 (by kernel_rfl) rfl #[.agg #[.slice Ao65 x392000_2.length co65, .int .i64 x392001_2]] rfl (by (try simp only [List.map_toArray, List.map_cons, List.map_nil]); first | done | rfl | (simp only [List.length_drop, List.length_take]; rfl)) ?_; (with_reducible refine (le_I64.calls k2 (fun k_ => k_ ≠ gb391) _ _ x392000_2 x392001_2 t409 t410 t413 t414 _ ?side1 A60.out).mono ?_); (case side1 => exact HO_392000.out); rintro e w66 ⟨v411, rfl, ho0, hb⟩; refine ⟨_, rfl, ?_⟩; have n0_ := vb7 HO_392000 hb; have n1_ := Aside0.mk (Kd.V_lower (Kd.V_mono (ok' := fun k_ => k_ ≠ gb391) ho0 (fun k_ hk_ => Or.elim hk_ (fun hs_ => hs_) (fun hn_ => (Kd.freshB (bq7 BK391) k_ hn_)))) (below_size (bl7 HB))); have n2_ := bk7 BK391 hb; have n3_ := Aside0.mk (below_step (bl7 HB) hb); clear HO_392000; clear BK391; clear HB; have HO_392000 := n0_; have HO412 := n1_; have BK391 := n2_; have HB := n3_; clear n0_ n1_ n2_ n3_; (try clear hb); (try clear hb2); (try clear hk); (try clear hi); (try clear ho0)) | ((with_reducible refine gate_dst (N := 21) rfl ?_); (try (refine gate_guard (by rfl) ?_; dsimp only)); refine box_event ?hg (N := 21) ?hd (cs := #[.slice none 0 0, .int .i64 0]) (t := 46) ?hr ?_; (case hd => rfl); (case hg => rfl); (case hr => first | (go_simp; done) | (go_simp; rfl)); intro gb415 hg w67 hbox hb; have n0_ := Aside0.mk (Kd.V_below (Kd.V_elderB (vq7 HO_392000) gb415 (Nat.le_of_eq hg.symm)) hb); have n1_ := Aside0.mk (Kd.V_below (Kd.V_elderB (vq7 HO412) gb415 (Nat.le_of_eq hg.symm)) hb); have n2_ := bk7 BK391 hb; have n3_ := Aside0.mk (below_step (bl7 HB) hb); have n4_ := Aside0.mk (hbox); have n5_ := Aside0.mk ((by rw [hg]; exact (below_size (bl7 HB)) : w.heap.size ≤ gb415)); have n6_ := Aside0.mk ((by rw [hg]; exact (below_size (bl7 HB)) : w.heap.size ≤ gb415)); have n7_ := Aside0.mk ((by rw [hg]; exact Nat.ne_of_lt (blk_lt (bq7 BK391)) : gb391 ≠ gb415)); have n8_ := Aside0.mk ((by rw [hg]; exact Nat.ne_of_gt (blk_lt (bq7 BK391)) : gb415 ≠ gb391)); clear HO_392000; clear HO412; clear BK391; clear HB; have HO_392000 := n0_; have HO412 := n1_; have BK391 := n2_; have HB := n3_; have BK415 := n4_; have GW415 := n5_; have GE415 := n6_; have NB391_415 := n7_; have NB415_391 := n8_; clear n0_ n1_ n2_ n3_ n4_ n5_ n6_ n7_ n8_; clear hb hbox hg; obtain ⟨Ao68, co68, eo68⟩ := Kd.V_slice HO412.out; subst eo68; have hnb69 := NB415_391.out; have hnc69 := NB391_415.out; have hcz70_0 : w67.cell? ⟨gb415, 0, none⟩ = some (.slice none 0 0) := (blk_cell BK415.out 0).trans rfl; have hcz70_1 : w67.cell? ⟨gb415, 1, none⟩ = some (.int .i64 0) := (blk_cell BK415.out 1).trans rfl; have hfz70_0 := blk_frozen BK415.out 0; have hfz70_1 := blk_frozen BK415.out 1; have p416 : 0 ≤ (x13_2 : Int) := of_decide_eq_true (by first | (with_reducible assumption) | assumption); have q416 : x13_2 < (l0.length : Int) := of_decide_eq_true (by first | (with_reducible assumption) | assumption); obtain ⟨ad416, e416, hx416_0⟩ := Kd.at_int HR0.out x13_2 p416 q416; cases e416; have hn416_0 : ad416.block ≠ gb415 := Nat.ne_of_lt (Nat.lt_of_lt_of_le (by have := World.block_lt_of_cell? _ _ hx416_0; first | rwa [add_block] at this | exact this) GW415.out); have hn416_1 : ad416.block ≠ gb415 := Nat.ne_of_lt (Nat.lt_of_lt_of_le (by have := World.block_lt_of_cell? _ _ hx416_0; first | rwa [add_block] at this | exact this) GW415.out); replace hx416_0 := (HB.out.cell (World.block_lt_of_cell? w _ hx416_0)).trans hx416_0; replace hx416_0 := (cell_far (p := ⟨gb415, 0, none⟩) (by first | (rw [add_block]; exact hn416_0) | (show (Addr.add _ _).block ≠ _; rw [add_block]; exact hn416_0) | exact hn416_0) (.slice Ao68 t410.length co68)).trans hx416_0; replace hx416_0 := (cell_far (p := ⟨gb415, 1, none⟩) (by first | (rw [add_block]; exact hn416_1) | (show (Addr.add _ _).block ≠ _; rw [add_block]; exact hn416_1) | exact hn416_1) (.int .i64 t413)).trans hx416_0; clear hn416_0; clear hn416_1; replace p416 := eq_true p416; replace q416 := eq_true q416; have hcz71_0 : w67.cell? ⟨gb391, 0, none⟩ = some (.slice Ao65 x392000_2.length co65) := (blk_cell BK391.out 0).trans rfl; have hcz71_1 : w67.cell? ⟨gb391, 1, none⟩ = some (.int .i64 x392001_2) := (blk_cell BK391.out 1).trans rfl; have hfz71_0 := blk_frozen BK391.out 0; have hfz71_1 := blk_frozen BK391.out 1))
                                    go_roundg k2
                                    case measure => have := HK1.out; have := HK2.out; omega
                                    case rel => exact ⟨(wrap64 (x13_2 + 1)), (t410), (t413), (.slice Ao68 t410.length co68), (by first | rfl | (simp; done) | (simp [*]; done)), H', ⟨by have := HK1.out; have := HK2.out; omega⟩, ⟨by (with_reducible repeat (first | apply Kd.V_alloc | apply Kd.V_drewN | apply Kd.V_drew)); exact Kd.V_mono (Kd.V_far (p := ⟨gb391, 1, none⟩) (Kd.V_far (p := ⟨gb391, 0, none⟩) (Kd.V_far (p := ⟨gb415, 1, none⟩) (Kd.V_far (p := ⟨gb415, 0, none⟩) (Kd.V_mono (Kd.V_mono HO412.out (fun k_ hk => (⟨hk, hk.2⟩ : _ ∧ k_ ≠ gb415))) (fun k_ hk => (⟨hk, hk.1.1⟩ : _ ∧ k_ ≠ gb391))) (fun _ hk => hk.1.2) (.slice Ao68 t410.length co68)) (fun _ hk => hk.1.2) (.int .i64 t413)) (fun _ hk => hk.2) (.slice Ao68 t410.length co68)) (fun _ hk => hk.2) (.int .i64 t413)) (fun _ hk => hk.1.1.1)⟩, ⟨by (with_reducible repeat (first | refine blk_drewN ?_ _ | refine blk_drew ?_ | refine blk_alloc ?_ _)); refine blk_put (cs := #[.slice Ao68 t410.length co68, .int .i64 x392001_2]) ?_ 1 _ rfl; (with_reducible repeat (first | refine blk_drewN ?_ _ | refine blk_drew ?_ | refine blk_alloc ?_ _)); refine blk_put (cs := #[.slice Ao65 x392000_2.length co65, .int .i64 x392001_2]) ?_ 0 _ rfl; (with_reducible repeat (first | refine blk_drewN ?_ _ | refine blk_drew ?_ | refine blk_alloc ?_ _)); refine blk_far ?_ NB391_415.out _; (with_reducible repeat (first | refine blk_drewN ?_ _ | refine blk_drew ?_ | refine blk_alloc ?_ _)); refine blk_far ?_ NB391_415.out _; (with_reducible repeat (first | refine blk_drewN ?_ _ | refine blk_drew ?_ | refine blk_alloc ?_ _)); exact BK391.out⟩, ⟨bl7 HB⟩⟩
                                  · rw [if_neg c63] at H
                                    exact absurd H (by simp)
                                · rw [if_neg c62] at H
                                  exact absurd H (by simp)
                              · rw [if_neg c61] at H
                                exact absurd H (by simp)
                            · rw [if_neg c59] at H
                              have c59b0 : ((Int.tmod (rd l1 x13_2) 3) == 2) = false := beq_eq_false_iff_ne.mpr c59
                              have c59b1 : ((Int.tmod (rd l1 x13_2) 3) != 2) = true := bne_iff_ne.mpr c59
                              have H' := Aside0.mk H
                              clear H
                              have p392 : 0 ≤ (x13_2 : Int) := of_decide_eq_true (by first | (with_reducible assumption) | assumption)
                              have q392 : x13_2 < (l1.length : Int) := of_decide_eq_true (by first | (with_reducible assumption) | assumption)
                              obtain ⟨ad392, e392, hx392_0⟩ := Kd.at_int HR1.out x13_2 p392 q392
                              cases e392
                              replace hx392_0 := (HB.out.cell (World.block_lt_of_cell? w _ hx392_0)).trans hx392_0
                              replace p392 := eq_true p392
                              replace q392 := eq_true q392
                              go_wp2
                              go_roundg k2
                              case measure => have := HK1.out; have := HK2.out; omega
                              case rel => exact ⟨(wrap64 (x13_2 + 1)), (x392000_2), (x392001_2), (u392000), (by first | rfl | (simp; done) | (simp [*]; done)), H', ⟨by have := HK1.out; have := HK2.out; omega⟩, ⟨by (with_reducible repeat (first | apply Kd.V_alloc | apply Kd.V_drewN | apply Kd.V_drew)); exact HO_392000.out⟩, ⟨by (with_reducible repeat (first | refine blk_drewN ?_ _ | refine blk_drew ?_ | refine blk_alloc ?_ _)); exact BK391.out⟩, ⟨bl7 HB⟩⟩
                      · rw [if_neg c32] at H
                        exact absurd H (by simp)
                    · rw [if_neg c31] at H
                      exact absurd H (by simp)
                  · rw [if_neg c30] at H
                    have c30b0 : decide (x13_2 < (l0.length : Int)) = false := decide_eq_false c30
                    clear c30
                    replace H := Option.bind_eq_some_iff.mp H
                    obtain ⟨t417, A720, H⟩ := H
                    replace H : (some (t417 == 0)) = some r := H
                    have A72 := Aside0.mk A720
                    clear A720
                    obtain rfl := Option.some.inj H
                    have hcz73_0 : wr.cell? ⟨gb391, 0, none⟩ = some (u392000) := (blk_cell BK391.out 0).trans rfl
                    have hcz73_1 : wr.cell? ⟨gb391, 1, none⟩ = some (.int .i64 x392001_2) := (blk_cell BK391.out 1).trans rfl
                    have hfz73_0 := blk_frozen BK391.out 0
                    have hfz73_1 := blk_frozen BK391.out 1
                    obtain ⟨Ao74, co74, eo74⟩ := Kd.V_slice HO_392000.out
                    subst eo74
                    go_wp2_with (first | ((with_reducible refine gate_callee (f := 31) rfl ?_); refine goesL_ (some 187) rfl rfl Try.func31 (by kernel_rfl) rfl #[.agg #[.slice Ao74 x392000_2.length co74, .int .i64 x392001_2]] rfl (by (try simp only [List.map_toArray, List.map_cons, List.map_nil]); first | done | rfl | (simp only [List.length_drop, List.length_take]; rfl)) ?_; (with_reducible refine (le_End.calls k2 _ _ x392000_2 x392001_2 t417 _ ?side1 ?side2 A72.out).mono ?_); (case side1 => repeat (first | exact (Kd.V_reads' HO_392000.out).2.2 | (with_reducible refine Kd.C_alloc ?_ _) | (with_reducible refine Kd.C_drewN ?_ _) | (with_reducible refine Kd.C_drew ?_))); (case side2 => exact (Kd.V_reads' HO_392000.out).2.1); rintro e w75 ⟨rfl, hb⟩; refine ⟨_, rfl, ?_⟩; have n0_ := vb7 HO_392000 hb; have n1_ := bk7 BK391 hb; have n2_ := Aside0.mk (below_step (bl7 HB) hb); clear HO_392000; clear BK391; clear HB; have HO_392000 := n0_; have BK391 := n1_; have HB := n2_; clear n0_ n1_ n2_; (try clear hb); (try clear hb2); (try clear hk); (try clear hi)))
                    go_ret
                    exact ⟨by first | rfl | (simp [errW_none, errW_some] <;> rfl) | (simp [*, errW_none, errW_some] <;> rfl), bl7 HB⟩
  · replace c4 := Bool.eq_false_iff.mpr c4
    subst c4
    have H1 : (none) = some r := by rw [if_neg (show ¬ (false = true) by decide)] at H; exact H
    clear H
    have H := H1
    clear H1
    exact absurd H (by simp)

/-- THE ONE PURE STATEMENT of cashbooklaw3_LeRows: yours. -/
def cashbooklaw3_LeRows.Pure : Prop := ∀ (l0 : List Int) (l1 : List Int), l0.length ≤ maxLen → l0.length * 4 ≤ 140737488351232 → (∀ x ∈ l0, (Lit.int .u32 x).wf = true) → l1.length ≤ maxLen → l1.length * 1 ≤ 140737488351232 → (∀ x ∈ l1, (Lit.int .u8 x).wf = true) → ∃ k, cashbooklaw3_LeRows.f k l0 l1 = some true
theorem cashbooklaw3_LeRows.walk (P : cashbooklaw3_LeRows.Pure) (a0 : Option Addr) (len0 cap0 : Nat) (z0 : List Int) (a1 : Option Addr) (len1 cap1 : Nat) (z1 : List Int) (w : World) (w0 : (a0 = none ∧ len0 = 0 ∧ cap0 = 0 ∧ z0 = []) ∨ ∃ x, a0 = some x ∧ len0 ≤ cap0 ∧ cap0 ≤ maxLen ∧ z0.length = cap0 ∧ (∀ i, i < z0.length → w.cell? (x.add i) = some (.int .u32 (z0.getD i 0))) ∧ ∀ n ∈ z0, (Lit.int .u32 n).wf = true) (y0 : len0 * 4 ≤ 140737488351232) (w1 : (a1 = none ∧ len1 = 0 ∧ cap1 = 0 ∧ z1 = []) ∨ ∃ x, a1 = some x ∧ len1 ≤ cap1 ∧ cap1 ≤ maxLen ∧ z1.length = cap1 ∧ (∀ i, i < z1.length → w.cell? (x.add i) = some (.int .u8 (z1.getD i 0))) ∧ ∀ n ∈ z1, (Lit.int .u8 n).wf = true) (y1 : len1 * 1 ≤ 140737488351232) :
    Calls Try.prog 9 #[.slice a0 len0 cap0, .slice a1 len1 cap1] w fun e w' => e = .returned (.bool true) ∧ Below w.heap.size w w' := by
  obtain ⟨l0, rfl, hr0, hm0, hw0, hc0⟩ := ReadsInt.ofRowC w0
  obtain ⟨l1, rfl, hr1, hm1, hw1, hc1⟩ := ReadsInt.ofRowC w1
  obtain ⟨k, h⟩ := P l0 l1 hm0 y0 hw0 hm1 y1 hw1
  refine (cashbooklaw3_LeRows.calls k _ _ l0 _ _ l1 true w (Kd.C_of_reads (d := (0 : Int)) (h1 := fun _ => rfl) hr0) hc0 (Kd.C_of_reads (d := (0 : Int)) (h1 := fun _ => rfl) hr1) hc1 h).mono ?_
  rintro e w' ⟨rfl, hd⟩
  exact ⟨rfl, hd⟩

end Go.Proofs.Ytnbllonnfbejgaa.Le
