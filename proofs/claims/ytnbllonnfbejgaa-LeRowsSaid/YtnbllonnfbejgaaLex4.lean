-- written by a program of this session
import Derived.Test.YtnbllonnfbejgaaLex0
import Derived.Test.YtnbllonnfbejgaaLex3
namespace Go.Proofs.Ytnbllonnfbejgaa.Le
open Go.RowKit Go.Proofs.YtnbllonnfbejgaaW.PrintWords Go.Proofs.YtnbllonnfbejgaaW.PrintLast Go.Proofs.YtnbllonnfbejgaaW.PrintMore
attribute [local go_sem] max2_int min2_int max_two min_two max_three min_three max_four min_four   -- for this text's walks alone
set_option linter.unusedVariables false
set_option linter.unusedSimpArgs false

/-! ### cashbookref7_Low: function 25 -/
def cashbookref7_Low.l0 : Nat → Int → Int → Int → List Int → Int → Option (Int × List Int × Int × Int)
  | 0, _, _, _, _, _ => none
  | k + 1, x1, x7, x8, x271000, x271001 => if x8 ≥ 0 then (if 0 ≤ (wrap64 (x271001 + x8)) then (if (wrap64 (x271001 + x8)) < (x271000.length : Int) then (cashbookref7_Low.l0 k x1 (Go.bits .or .u64 (IntKind.u64.wrap (x7 * 256)) (IntKind.u64.wrap (rd x271000 (wrap64 (x271001 + x8))))) (wrap64 (x8 - 1)) x271000 x271001) else (none)) else (none)) else (some (x7, x271000, wrap64 (x271001 + x1), 0))
def cashbookref7_Low.f (k : Nat) (l0_0 : List Int) (a0_1 : Int) (a1 : Int) : Option (Int × List Int × Int × Int) := (cashbookref7_bad.f l0_0 a0_1).bind fun t272 => (if t272 = true then (some (0, l0_0, a0_1, 1)) else (if (wrap64 ((l0_0.length : Int) - a0_1)) < a1 then (some (0, l0_0, a0_1, 5)) else (cashbookref7_Low.l0 k a1 0 (wrap64 (a1 - 1)) l0_0 a0_1)))
theorem cashbookref7_Low.mono_l : ∀ k, (∀ y0 y1 y2 y3 y4, LeO (cashbookref7_Low.l0 k y0 y1 y2 y3 y4) (cashbookref7_Low.l0 (k + 1) y0 y1 y2 y3 y4))
  | 0 => fun _ _ _ _ _ r h => by simp [cashbookref7_Low.l0] at h
  | k + 1 => by
    have ih0 := cashbookref7_Low.mono_l k
    · intro y0 y1 y2 y3 y4
      unfold cashbookref7_Low.l0
      repeat' first
      | (with_reducible exact ih0 _ _ _ _ _)
      | (with_reducible exact LeO.refl _)
      | (with_reducible exact LeO.none _)
      | (with_reducible refine LeO.ite ?_ ?_)
      | (with_reducible refine LeO.bind ?_ (fun _ => ?_))
      | exact ih0 _ _ _ _ _
      | exact LeO.none _
      | refine LeO.ite ?_ ?_
      | refine LeO.bind ?_ (fun _ => ?_)
theorem cashbookref7_Low.mono : ∀ a0 a1 a2 k, LeO (cashbookref7_Low.f k a0 a1 a2) (cashbookref7_Low.f (k + 1) a0 a1 a2) := by
  intro a0 a1 a2 k
  have ih0 := cashbookref7_Low.mono_l k
  unfold cashbookref7_Low.f
  repeat' first
      | (with_reducible exact ih0 _ _ _ _ _)
      | (with_reducible exact LeO.refl _)
      | (with_reducible exact LeO.none _)
      | (with_reducible refine LeO.ite ?_ ?_)
      | (with_reducible refine LeO.bind ?_ (fun _ => ?_))
      | exact ih0 _ _ _ _ _
      | exact LeO.none _
      | refine LeO.ite ?_ ?_
      | refine LeO.bind ?_ (fun _ => ?_)
def cashbookref7_Low.T10 : Bool × List (List Nat × List Nat) := (true, [([], []), ([], []), ([1], [1]), ([], []), ([3], [3]), ([], []), ([4, 5], [4, 5]), ([2, 6], [2, 6]), ([0, 0], [0]), ([7, 8, 0, 1, 2, 3, 4, 5, 6, 7, 8], [7]), ([9, 0, 1, 2, 3, 4, 5, 6, 7, 8, 9], [])])
def cashbookref7_Low.B10 : List Nat := [0, 0, 2, 0, 8, 0, 56, 126, 1, 511, 1023]
theorem cashbookref7_Low.tab10 : rtab .any (opsOf Try.f25 10) = cashbookref7_Low.T10 := by kernel_rfl
theorem cashbookref7_Low.bits10 : waitsOk cashbookref7_Low.T10.2 cashbookref7_Low.B10 = true := by kernel_rfl
set_option maxHeartbeats 8000000 in
set_option maxRecDepth 100000 in
theorem cashbookref7_Low.calls (k : Nat) (P0_0_ : Nat → Prop) (A0_0 : Option Addr) (c0_0 : Nat) (l0_0 : List Int) (a0_1 : Int) (a1 : Int) (r1 : Int) (r2 : List Int) (r3 : Int) (r4 : Int) (w : World) (hs0_0 : Kd.V (Kd.int .u8) 5 w w.heap.size (fun k_ => P0_0_ k_) (.slice A0_0 l0_0.length c0_0) l0_0) (h : cashbookref7_Low.f k l0_0 a0_1 a1 = some (r1, r2, r3, r4)) :
    Calls Try.prog 25 #[.agg #[.slice A0_0 l0_0.length c0_0, .int .i64 a0_1], .int .i64 a1] w fun e w' => ∃ v1_ : Value, e = .returned (.tuple #[.int .u64 r1, .agg #[v1_, .int .i64 r3], .int .i64 r4]) ∧ Kd.V (Kd.int .u8) 5 w' w.heap.size (fun k_ => (P0_0_ k_ ∨ w.heap.size ≤ k_)) v1_ r2 ∧ Below w.heap.size w w' := by
  have hu47 := Try.underlying47
  have HO0_0 := Aside0.mk (show Kd.V (Kd.int .u8) 5 w w.heap.size (fun k_ => (P0_0_ k_ ∨ w.heap.size ≤ k_)) (.slice A0_0 l0_0.length c0_0) l0_0 from Kd.V_mono hs0_0 (fun k_ hk => .inl hk))
  have HB := Aside0.mk (Below.refl w.heap.size w)
  have H : ((cashbookref7_bad.f l0_0 a0_1).bind fun t272 => (if t272 = true then (some (0, l0_0, a0_1, 1)) else (if (wrap64 ((l0_0.length : Int) - a0_1)) < a1 then (some (0, l0_0, a0_1, 5)) else (cashbookref7_Low.l0 k a1 0 (wrap64 (a1 - 1)) l0_0 a0_1)))) = some (r1, r2, r3, r4) := h
  clear h
  replace H := Option.bind_eq_some_iff.mp H
  obtain ⟨t272, A30, H⟩ := H
  replace H : (if t272 = true then (some (0, l0_0, a0_1, 1)) else (if (wrap64 ((l0_0.length : Int) - a0_1)) < a1 then (some (0, l0_0, a0_1, 5)) else (cashbookref7_Low.l0 k a1 0 (wrap64 (a1 - 1)) l0_0 a0_1))) = some (r1, r2, r3, r4) := H
  have A3 := Aside0.mk A30
  clear A30
  by_cases c4 : t272 = true
  · subst c4
    have H1 : (some (0, l0_0, a0_1, 1)) = some (r1, r2, r3, r4) := by rw [if_pos rfl] at H; exact H
    clear H
    have H := H1
    clear H1
    simp only [Option.some.injEq, Prod.mk.injEq] at H
    obtain ⟨rfl, rfl, rfl, rfl⟩ := H
    go_enter Try.func25, Try.ntmps25
    try go_wp2_with (first | ((with_reducible refine gate_dst (N := 2) rfl ?_); refine box_event ?hg (N := 2) ?hd (cs := #[.slice A0_0 l0_0.length c0_0, .int .i64 a0_1]) (t := 47) ?hr ?_; (case hd => rfl); (case hg => rfl); (case hr => first | (go_simp; done) | (go_simp; rfl)); intro gb270 hg w5 hbox hb; have n0_ := Aside0.mk (Kd.V_below (Kd.V_elderB (vq7 HO0_0) gb270 (Nat.le_of_eq hg.symm)) hb); have n1_ := Aside0.mk (below_step (bl7 HB) hb); have n2_ := Aside0.mk (hbox); have n3_ := Aside0.mk ((by rw [hg]; exact (below_size (bl7 HB)) : w.heap.size ≤ gb270)); have n4_ := Aside0.mk ((by rw [hg]; exact (below_size (bl7 HB)) : w.heap.size ≤ gb270)); clear HO0_0; clear HB; have HO0_0 := n0_; have HB := n1_; have BK270 := n2_; have GW270 := n3_; have GE270 := n4_; clear n0_ n1_ n2_ n3_ n4_; clear hb hbox hg) | ((with_reducible refine gate_dst (N := 5) rfl ?_); refine box_event ?hg (N := 5) ?hd (cs := #[.slice none 0 0, .int .i64 0]) (t := 47) ?hr ?_; (case hd => rfl); (case hg => rfl); (case hr => first | (go_simp; done) | (go_simp; rfl)); intro gb271 hg w6 hbox hb; have n0_ := Aside0.mk (Kd.V_below (Kd.V_elderB (vq7 HO0_0) gb271 (Nat.le_of_eq hg.symm)) hb); have n1_ := bk7 BK270 hb; have n2_ := Aside0.mk (below_step (bl7 HB) hb); have n3_ := Aside0.mk (hbox); have n4_ := Aside0.mk ((by rw [hg]; exact (below_size (bl7 HB)) : w.heap.size ≤ gb271)); have n5_ := Aside0.mk ((by rw [hg]; exact (below_size (bl7 HB)) : w.heap.size ≤ gb271)); have n6_ := Aside0.mk ((by rw [hg]; exact Nat.ne_of_lt (blk_lt (bq7 BK270)) : gb270 ≠ gb271)); have n7_ := Aside0.mk ((by rw [hg]; exact Nat.ne_of_gt (blk_lt (bq7 BK270)) : gb271 ≠ gb270)); clear HO0_0; clear BK270; clear HB; have HO0_0 := n0_; have BK270 := n1_; have HB := n2_; have BK271 := n3_; have GW271 := n4_; have GE271 := n5_; have NB270_271 := n6_; have NB271_270 := n7_; clear n0_ n1_ n2_ n3_ n4_ n5_ n6_ n7_; clear hb hbox hg; have hnb7 := NB270_271.out; have hnc7 := NB271_270.out; have hcz8_0 : w6.cell? ⟨gb270, 0, none⟩ = some (.slice A0_0 l0_0.length c0_0) := (blk_cell BK270.out 0).trans rfl; have hcz8_1 : w6.cell? ⟨gb270, 1, none⟩ = some (.int .i64 a0_1) := (blk_cell BK270.out 1).trans rfl; have hfz8_0 := blk_frozen BK270.out 0; have hfz8_1 := blk_frozen BK270.out 1) | ((with_reducible refine gate_callee (f := 51) rfl ?_); refine goesL_ (some 10) rfl rfl Try.func51 (by kernel_rfl) rfl #[.agg #[.slice A0_0 l0_0.length c0_0, .int .i64 a0_1]] rfl (by (try simp only [List.map_toArray, List.map_cons, List.map_nil]); first | done | rfl | (simp only [List.length_drop, List.length_take]; rfl)) ?_; (with_reducible refine (cashbookref7_bad.calls _ _ l0_0 a0_1 true _ ?side1 ?side2 A3.out).mono ?_); (case side1 => repeat (first | exact (Kd.V_reads' HO0_0.out).2.2 | (with_reducible refine Kd.C_alloc ?_ _) | (with_reducible refine Kd.C_drewN ?_ _) | (with_reducible refine Kd.C_drew ?_))); (case side2 => exact (Kd.V_reads' HO0_0.out).2.1); rintro e w9 ⟨rfl, hb⟩; refine ⟨_, rfl, ?_⟩; have n0_ := vb7 HO0_0 hb; have n1_ := bk7 BK270 hb; have n2_ := bk7 BK271 hb; have n3_ := Aside0.mk (below_step (bl7 HB) hb); clear HO0_0; clear BK270; clear BK271; clear HB; have HO0_0 := n0_; have BK270 := n1_; have BK271 := n2_; have HB := n3_; clear n0_ n1_ n2_ n3_; (try clear hb); (try clear hb2); (try clear hk); (try clear hi)))
    have n0_ := Aside0.mk (Kd.V_drew HO0_0.out)
    have n1_ := Aside0.mk (blk_drew BK270.out)
    have n2_ := Aside0.mk (blk_drew BK271.out)
    have n3_ := Aside0.mk (below_drew1 HB.out)
    clear HO0_0
    clear BK270
    clear BK271
    clear HB
    have HO0_0 := n0_
    have BK270 := n1_
    have BK271 := n2_
    have HB := n3_
    clear n0_ n1_ n2_ n3_
    refine start_ (n := 4) (S := fun w' => w'.cell? ⟨gb270, 0, none⟩ = some (.slice A0_0 l0_0.length c0_0) ∧ w'.cell? ⟨gb270, 1, none⟩ = some (.int .i64 a0_1)) (ds := []) #[false, false, false, false] (by kernel_rfl) rfl rfl ⟨(blk_cell BK270.out 0).trans rfl, (blk_cell BK270.out 1).trans rfl⟩ (fun hHeld => ?_)
    generalize w9.drew = w10 at HO0_0 BK270 BK271 HB hHeld ⊢
    refine pure_ (i := 1) (N := some 4) (v := ?_) (a' := ?_) #[false, true, false, false] rfl rfl (by kernel_rfl) (fun _ _ _ h => h) (Or.inl ⟨by rfl, ?_⟩) ?_ ?_
    rotate_left
    · intro w'
      go_simp
      with_reducible rfl
    rotate_left
    · simp only [Act.put, List.setIfInBounds_toArray, List.set_cons_zero, List.set_cons_succ, i64_w, i32_w]
      rfl
    refine take_ (i := 0) (N := some 11) (v := ?_) (a' := ?_) #[true, true, false, false] rfl rfl (by kernel_rfl) (fun _ _ _ h => h) (Or.inl ⟨by rfl, ?_⟩) hHeld ?_ ?_
    rotate_left
    · rintro w' ⟨s0, s1⟩
      go_simp
      with_reducible rfl
    rotate_left
    · simp only [Act.put, List.setIfInBounds_toArray, List.set_cons_zero, List.set_cons_succ, i64_w, i32_w]
      rfl
    refine one_ (i := 2) (N := none) #[true, true, true, false] rfl rfl (by kernel_rfl) (by decide) (fun K hK => ?_)
    have hs11 : w10.cell? ⟨gb271, 0, none⟩ = some (.slice none 0 0) := (blk_cell BK271.out 0).trans rfl
    have hfs11 := blk_frozen BK271.out 0
    have hns11_0 := NB270_271.out
    have hms11_0 := NB271_270.out
    have hs12 : w10.cell? ⟨gb271, 1, none⟩ = some (.int .i64 0) := (blk_cell BK271.out 1).trans rfl
    have hfs12 := blk_frozen BK271.out 1
    have hns12_0 := NB270_271.out
    have hms12_0 := NB271_270.out
    refine skip_ (w1 := ?_) (by rfl) rfl ?_ ?_
    rotate_left
    · go_simp
      rfl
    refine hK.out _ _ ⟨((cell_far (p := ⟨gb271, _, none⟩) NB270_271.out _).trans (((cell_far (p := ⟨gb271, _, none⟩) NB270_271.out _).trans (hHeld.1)))), ((cell_far (p := ⟨gb271, _, none⟩) NB270_271.out _).trans (((cell_far (p := ⟨gb271, _, none⟩) NB270_271.out _).trans (hHeld.2))))⟩ (fun hHeld => ?_)
    clear hK K
    refine pure_ (i := 3) (N := some 6) (v := ?_) (a' := ?_) #[true, true, true, true] rfl rfl (by kernel_rfl) (fun _ _ _ h => h) (Or.inl ⟨by rfl, ?_⟩) ?_ ?_
    rotate_left
    · intro w'
      go_simp
      with_reducible rfl
    rotate_left
    · simp only [Act.put, List.setIfInBounds_toArray, List.set_cons_zero, List.set_cons_succ, i64_w, i32_w]
      rfl
    refine done_ (by kernel_rfl) ?_
    try go_wp2
    refine bodyPost_ret (results_list (rs := [.tmp 4, .cell 5 47, .tmp 6]) rfl (by simp) (.tmp (.cell gb271 47 #[.slice A0_0 l0_0.length c0_0, .int .i64 a0_1] (0, 0) _ rfl (by (with_reducible repeat (first | refine blk_drewN ?_ _ | refine blk_drew ?_ | refine blk_alloc ?_ _)); refine blk_put (cs := #[.slice A0_0 l0_0.length c0_0, .int .i64 0]) ?_ 1 _ rfl; (with_reducible repeat (first | refine blk_drewN ?_ _ | refine blk_drew ?_ | refine blk_alloc ?_ _)); refine blk_put (cs := #[.slice none 0 0, .int .i64 0]) ?_ 0 _ rfl; (with_reducible repeat (first | refine blk_drewN ?_ _ | refine blk_drew ?_ | refine blk_alloc ?_ _)); exact BK271.out) Try.underlying47 rfl (by kernel_rfl) (.tmp .nil)))) rfl ?_
    exact ⟨_, by first | rfl | (simp [errW_none, errW_some] <;> rfl) | (simp [*, errW_none, errW_some] <;> rfl), by (with_reducible repeat (first | apply Kd.V_alloc | apply Kd.V_drewN | apply Kd.V_drew)); exact Kd.V_mono (Kd.V_far (p := ⟨gb271, 1, none⟩) (Kd.V_far (p := ⟨gb271, 0, none⟩) (Kd.V_mono HO0_0.out (fun k_ hk => (⟨hk, hk.2⟩ : _ ∧ k_ ≠ gb271))) (fun _ hk => hk.2) (.slice A0_0 l0_0.length c0_0)) (fun _ hk => hk.2) (.int .i64 a0_1)) (fun _ hk => hk.1.1.1), bl7 HB⟩
  · replace c4 := Bool.eq_false_iff.mpr c4
    subst c4
    have H1 : (if (wrap64 ((l0_0.length : Int) - a0_1)) < a1 then (some (0, l0_0, a0_1, 5)) else (cashbookref7_Low.l0 k a1 0 (wrap64 (a1 - 1)) l0_0 a0_1)) = some (r1, r2, r3, r4) := by rw [if_neg (show ¬ (false = true) by decide)] at H; exact H
    clear H
    have H := H1
    clear H1
    by_cases c13 : (wrap64 ((l0_0.length : Int) - a0_1)) < a1
    · rw [if_pos c13] at H
      have c13b0 : decide ((wrap64 ((l0_0.length : Int) - a0_1)) < a1) = true := decide_eq_true c13
      clear c13
      simp only [Option.some.injEq, Prod.mk.injEq] at H
      obtain ⟨rfl, rfl, rfl, rfl⟩ := H
      go_enter Try.func25, Try.ntmps25
      try go_wp2_with (first | ((with_reducible refine gate_dst (N := 2) rfl ?_); refine box_event ?hg (N := 2) ?hd (cs := #[.slice A0_0 l0_0.length c0_0, .int .i64 a0_1]) (t := 47) ?hr ?_; (case hd => rfl); (case hg => rfl); (case hr => first | (go_simp; done) | (go_simp; rfl)); intro gb270 hg w14 hbox hb; have n0_ := Aside0.mk (Kd.V_below (Kd.V_elderB (vq7 HO0_0) gb270 (Nat.le_of_eq hg.symm)) hb); have n1_ := Aside0.mk (below_step (bl7 HB) hb); have n2_ := Aside0.mk (hbox); have n3_ := Aside0.mk ((by rw [hg]; exact (below_size (bl7 HB)) : w.heap.size ≤ gb270)); have n4_ := Aside0.mk ((by rw [hg]; exact (below_size (bl7 HB)) : w.heap.size ≤ gb270)); clear HO0_0; clear HB; have HO0_0 := n0_; have HB := n1_; have BK270 := n2_; have GW270 := n3_; have GE270 := n4_; clear n0_ n1_ n2_ n3_ n4_; clear hb hbox hg) | ((with_reducible refine gate_dst (N := 5) rfl ?_); refine box_event ?hg (N := 5) ?hd (cs := #[.slice none 0 0, .int .i64 0]) (t := 47) ?hr ?_; (case hd => rfl); (case hg => rfl); (case hr => first | (go_simp; done) | (go_simp; rfl)); intro gb271 hg w15 hbox hb; have n0_ := Aside0.mk (Kd.V_below (Kd.V_elderB (vq7 HO0_0) gb271 (Nat.le_of_eq hg.symm)) hb); have n1_ := bk7 BK270 hb; have n2_ := Aside0.mk (below_step (bl7 HB) hb); have n3_ := Aside0.mk (hbox); have n4_ := Aside0.mk ((by rw [hg]; exact (below_size (bl7 HB)) : w.heap.size ≤ gb271)); have n5_ := Aside0.mk ((by rw [hg]; exact (below_size (bl7 HB)) : w.heap.size ≤ gb271)); have n6_ := Aside0.mk ((by rw [hg]; exact Nat.ne_of_lt (blk_lt (bq7 BK270)) : gb270 ≠ gb271)); have n7_ := Aside0.mk ((by rw [hg]; exact Nat.ne_of_gt (blk_lt (bq7 BK270)) : gb271 ≠ gb270)); clear HO0_0; clear BK270; clear HB; have HO0_0 := n0_; have BK270 := n1_; have HB := n2_; have BK271 := n3_; have GW271 := n4_; have GE271 := n5_; have NB270_271 := n6_; have NB271_270 := n7_; clear n0_ n1_ n2_ n3_ n4_ n5_ n6_ n7_; clear hb hbox hg; have hnb16 := NB270_271.out; have hnc16 := NB271_270.out; have hcz17_0 : w15.cell? ⟨gb270, 0, none⟩ = some (.slice A0_0 l0_0.length c0_0) := (blk_cell BK270.out 0).trans rfl; have hcz17_1 : w15.cell? ⟨gb270, 1, none⟩ = some (.int .i64 a0_1) := (blk_cell BK270.out 1).trans rfl; have hfz17_0 := blk_frozen BK270.out 0; have hfz17_1 := blk_frozen BK270.out 1) | ((with_reducible refine gate_callee (f := 51) rfl ?_); refine goesL_ (some 10) rfl rfl Try.func51 (by kernel_rfl) rfl #[.agg #[.slice A0_0 l0_0.length c0_0, .int .i64 a0_1]] rfl (by (try simp only [List.map_toArray, List.map_cons, List.map_nil]); first | done | rfl | (simp only [List.length_drop, List.length_take]; rfl)) ?_; (with_reducible refine (cashbookref7_bad.calls _ _ l0_0 a0_1 false _ ?side1 ?side2 A3.out).mono ?_); (case side1 => repeat (first | exact (Kd.V_reads' HO0_0.out).2.2 | (with_reducible refine Kd.C_alloc ?_ _) | (with_reducible refine Kd.C_drewN ?_ _) | (with_reducible refine Kd.C_drew ?_))); (case side2 => exact (Kd.V_reads' HO0_0.out).2.1); rintro e w18 ⟨rfl, hb⟩; refine ⟨_, rfl, ?_⟩; have n0_ := vb7 HO0_0 hb; have n1_ := bk7 BK270 hb; have n2_ := bk7 BK271 hb; have n3_ := Aside0.mk (below_step (bl7 HB) hb); clear HO0_0; clear BK270; clear BK271; clear HB; have HO0_0 := n0_; have BK270 := n1_; have BK271 := n2_; have HB := n3_; clear n0_ n1_ n2_ n3_; (try clear hb); (try clear hb2); (try clear hk); (try clear hi); have hcz19_0 : w18.cell? ⟨gb270, 0, none⟩ = some (.slice A0_0 l0_0.length c0_0) := (blk_cell BK270.out 0).trans rfl; have hcz19_1 : w18.cell? ⟨gb270, 1, none⟩ = some (.int .i64 a0_1) := (blk_cell BK270.out 1).trans rfl; have hfz19_0 := blk_frozen BK270.out 0; have hfz19_1 := blk_frozen BK270.out 1))
      have n0_ := Aside0.mk (Kd.V_drew HO0_0.out)
      have n1_ := Aside0.mk (blk_drew BK270.out)
      have n2_ := Aside0.mk (blk_drew BK271.out)
      have n3_ := Aside0.mk (below_drew1 HB.out)
      clear HO0_0
      clear BK270
      clear BK271
      clear HB
      have HO0_0 := n0_
      have BK270 := n1_
      have BK271 := n2_
      have HB := n3_
      clear n0_ n1_ n2_ n3_
      refine start_ (n := 4) (S := fun w' => w'.cell? ⟨gb270, 0, none⟩ = some (.slice A0_0 l0_0.length c0_0) ∧ w'.cell? ⟨gb270, 1, none⟩ = some (.int .i64 a0_1)) (ds := []) #[false, false, false, false] (by kernel_rfl) rfl rfl ⟨(blk_cell BK270.out 0).trans rfl, (blk_cell BK270.out 1).trans rfl⟩ (fun hHeld => ?_)
      generalize w18.drew = w20 at HO0_0 BK270 BK271 HB hHeld ⊢
      refine pure_ (i := 1) (N := some 4) (v := ?_) (a' := ?_) #[false, true, false, false] rfl rfl (by kernel_rfl) (fun _ _ _ h => h) (Or.inl ⟨by rfl, ?_⟩) ?_ ?_
      rotate_left
      · intro w'
        go_simp
        with_reducible rfl
      rotate_left
      · simp only [Act.put, List.setIfInBounds_toArray, List.set_cons_zero, List.set_cons_succ, i64_w, i32_w]
        rfl
      refine take_ (i := 0) (N := some 20) (v := ?_) (a' := ?_) #[true, true, false, false] rfl rfl (by kernel_rfl) (fun _ _ _ h => h) (Or.inl ⟨by rfl, ?_⟩) hHeld ?_ ?_
      rotate_left
      · rintro w' ⟨s0, s1⟩
        go_simp
        with_reducible rfl
      rotate_left
      · simp only [Act.put, List.setIfInBounds_toArray, List.set_cons_zero, List.set_cons_succ, i64_w, i32_w]
        rfl
      refine one_ (i := 2) (N := none) #[true, true, true, false] rfl rfl (by kernel_rfl) (by decide) (fun K hK => ?_)
      have hs21 : w20.cell? ⟨gb271, 0, none⟩ = some (.slice none 0 0) := (blk_cell BK271.out 0).trans rfl
      have hfs21 := blk_frozen BK271.out 0
      have hns21_0 := NB270_271.out
      have hms21_0 := NB271_270.out
      have hs22 : w20.cell? ⟨gb271, 1, none⟩ = some (.int .i64 0) := (blk_cell BK271.out 1).trans rfl
      have hfs22 := blk_frozen BK271.out 1
      have hns22_0 := NB270_271.out
      have hms22_0 := NB271_270.out
      refine skip_ (w1 := ?_) (by rfl) rfl ?_ ?_
      rotate_left
      · go_simp
        rfl
      refine hK.out _ _ ⟨((cell_far (p := ⟨gb271, _, none⟩) NB270_271.out _).trans (((cell_far (p := ⟨gb271, _, none⟩) NB270_271.out _).trans (hHeld.1)))), ((cell_far (p := ⟨gb271, _, none⟩) NB270_271.out _).trans (((cell_far (p := ⟨gb271, _, none⟩) NB270_271.out _).trans (hHeld.2))))⟩ (fun hHeld => ?_)
      clear hK K
      refine pure_ (i := 3) (N := some 6) (v := ?_) (a' := ?_) #[true, true, true, true] rfl rfl (by kernel_rfl) (fun _ _ _ h => h) (Or.inl ⟨by rfl, ?_⟩) ?_ ?_
      rotate_left
      · intro w'
        go_simp
        with_reducible rfl
      rotate_left
      · simp only [Act.put, List.setIfInBounds_toArray, List.set_cons_zero, List.set_cons_succ, i64_w, i32_w]
        rfl
      refine done_ (by kernel_rfl) ?_
      try go_wp2
      refine bodyPost_ret (results_list (rs := [.tmp 4, .cell 5 47, .tmp 6]) rfl (by simp) (.tmp (.cell gb271 47 #[.slice A0_0 l0_0.length c0_0, .int .i64 a0_1] (0, 0) _ rfl (by (with_reducible repeat (first | refine blk_drewN ?_ _ | refine blk_drew ?_ | refine blk_alloc ?_ _)); refine blk_put (cs := #[.slice A0_0 l0_0.length c0_0, .int .i64 0]) ?_ 1 _ rfl; (with_reducible repeat (first | refine blk_drewN ?_ _ | refine blk_drew ?_ | refine blk_alloc ?_ _)); refine blk_put (cs := #[.slice none 0 0, .int .i64 0]) ?_ 0 _ rfl; (with_reducible repeat (first | refine blk_drewN ?_ _ | refine blk_drew ?_ | refine blk_alloc ?_ _)); exact BK271.out) Try.underlying47 rfl (by kernel_rfl) (.tmp .nil)))) rfl ?_
      exact ⟨_, by first | rfl | (simp [errW_none, errW_some] <;> rfl) | (simp [*, errW_none, errW_some] <;> rfl), by (with_reducible repeat (first | apply Kd.V_alloc | apply Kd.V_drewN | apply Kd.V_drew)); exact Kd.V_mono (Kd.V_far (p := ⟨gb271, 1, none⟩) (Kd.V_far (p := ⟨gb271, 0, none⟩) (Kd.V_mono HO0_0.out (fun k_ hk => (⟨hk, hk.2⟩ : _ ∧ k_ ≠ gb271))) (fun _ hk => hk.2) (.slice A0_0 l0_0.length c0_0)) (fun _ hk => hk.2) (.int .i64 a0_1)) (fun _ hk => hk.1.1.1), bl7 HB⟩
    · rw [if_neg c13] at H
      have c13b0 : decide ((wrap64 ((l0_0.length : Int) - a0_1)) < a1) = false := decide_eq_false c13
      clear c13
      have H' := Aside0.mk H
      clear H
      go_enter Try.func25, Try.ntmps25
      go_wp2_with (first | ((with_reducible refine gate_dst (N := 2) rfl ?_); refine box_event ?hg (N := 2) ?hd (cs := #[.slice A0_0 l0_0.length c0_0, .int .i64 a0_1]) (t := 47) ?hr ?_; (case hd => rfl); (case hg => rfl); (case hr => first | (go_simp; done) | (go_simp; rfl)); intro gb270 hg w23 hbox hb; have n0_ := Aside0.mk (Kd.V_below (Kd.V_elderB (vq7 HO0_0) gb270 (Nat.le_of_eq hg.symm)) hb); have n1_ := Aside0.mk (below_step (bl7 HB) hb); have n2_ := Aside0.mk (hbox); have n3_ := Aside0.mk ((by rw [hg]; exact (below_size (bl7 HB)) : w.heap.size ≤ gb270)); have n4_ := Aside0.mk ((by rw [hg]; exact (below_size (bl7 HB)) : w.heap.size ≤ gb270)); clear HO0_0; clear HB; have HO0_0 := n0_; have HB := n1_; have BK270 := n2_; have GW270 := n3_; have GE270 := n4_; clear n0_ n1_ n2_ n3_ n4_; clear hb hbox hg) | ((with_reducible refine gate_dst (N := 5) rfl ?_); refine box_event ?hg (N := 5) ?hd (cs := #[.slice none 0 0, .int .i64 0]) (t := 47) ?hr ?_; (case hd => rfl); (case hg => rfl); (case hr => first | (go_simp; done) | (go_simp; rfl)); intro gb271 hg w24 hbox hb; have n0_ := Aside0.mk (Kd.V_below (Kd.V_elderB (vq7 HO0_0) gb271 (Nat.le_of_eq hg.symm)) hb); have n1_ := bk7 BK270 hb; have n2_ := Aside0.mk (below_step (bl7 HB) hb); have n3_ := Aside0.mk (hbox); have n4_ := Aside0.mk ((by rw [hg]; exact (below_size (bl7 HB)) : w.heap.size ≤ gb271)); have n5_ := Aside0.mk ((by rw [hg]; exact (below_size (bl7 HB)) : w.heap.size ≤ gb271)); have n6_ := Aside0.mk ((by rw [hg]; exact Nat.ne_of_lt (blk_lt (bq7 BK270)) : gb270 ≠ gb271)); have n7_ := Aside0.mk ((by rw [hg]; exact Nat.ne_of_gt (blk_lt (bq7 BK270)) : gb271 ≠ gb270)); clear HO0_0; clear BK270; clear HB; have HO0_0 := n0_; have BK270 := n1_; have HB := n2_; have BK271 := n3_; have GW271 := n4_; have GE271 := n5_; have NB270_271 := n6_; have NB271_270 := n7_; clear n0_ n1_ n2_ n3_ n4_ n5_ n6_ n7_; clear hb hbox hg; have hnb25 := NB270_271.out; have hnc25 := NB271_270.out; have hcz26_0 : w24.cell? ⟨gb270, 0, none⟩ = some (.slice A0_0 l0_0.length c0_0) := (blk_cell BK270.out 0).trans rfl; have hcz26_1 : w24.cell? ⟨gb270, 1, none⟩ = some (.int .i64 a0_1) := (blk_cell BK270.out 1).trans rfl; have hfz26_0 := blk_frozen BK270.out 0; have hfz26_1 := blk_frozen BK270.out 1) | ((with_reducible refine gate_callee (f := 51) rfl ?_); refine goesL_ (some 10) rfl rfl Try.func51 (by kernel_rfl) rfl #[.agg #[.slice A0_0 l0_0.length c0_0, .int .i64 a0_1]] rfl (by (try simp only [List.map_toArray, List.map_cons, List.map_nil]); first | done | rfl | (simp only [List.length_drop, List.length_take]; rfl)) ?_; (with_reducible refine (cashbookref7_bad.calls _ _ l0_0 a0_1 false _ ?side1 ?side2 A3.out).mono ?_); (case side1 => repeat (first | exact (Kd.V_reads' HO0_0.out).2.2 | (with_reducible refine Kd.C_alloc ?_ _) | (with_reducible refine Kd.C_drewN ?_ _) | (with_reducible refine Kd.C_drew ?_))); (case side2 => exact (Kd.V_reads' HO0_0.out).2.1); rintro e w27 ⟨rfl, hb⟩; refine ⟨_, rfl, ?_⟩; have n0_ := vb7 HO0_0 hb; have n1_ := bk7 BK270 hb; have n2_ := bk7 BK271 hb; have n3_ := Aside0.mk (below_step (bl7 HB) hb); clear HO0_0; clear BK270; clear BK271; clear HB; have HO0_0 := n0_; have BK270 := n1_; have BK271 := n2_; have HB := n3_; clear n0_ n1_ n2_ n3_; (try clear hb); (try clear hb2); (try clear hk); (try clear hi); have hcz28_0 : w27.cell? ⟨gb270, 0, none⟩ = some (.slice A0_0 l0_0.length c0_0) := (blk_cell BK270.out 0).trans rfl; have hcz28_1 : w27.cell? ⟨gb270, 1, none⟩ = some (.int .i64 a0_1) := (blk_cell BK270.out 1).trans rfl; have hfz28_0 := blk_frozen BK270.out 0; have hfz28_1 := blk_frozen BK270.out 1))
      (try simp only [Act.put, List.setIfInBounds_toArray, List.set_cons_zero, List.set_cons_succ])
      go_loopg [7, 8] k (fun kq v7 v8 w' => ∃ (x7_1 : Int) (x8_1 : Int), v7 = .int .u64 x7_1 ∧ v8 = .int .i64 x8_1 ∧ Aside0 (cashbookref7_Low.l0 kq a1 x7_1 x8_1 l0_0 a0_1 = some (r1, r2, r3, r4)) ∧ Aside0 (kq ≤ k) ∧ Aside0 (Kd.V (Kd.int .u8) 5 w' w.heap.size (fun k_ => (P0_0_ k_ ∨ w.heap.size ≤ k_) ∧ k_ ≠ gb270 ∧ k_ ≠ gb271) (.slice A0_0 l0_0.length c0_0) l0_0) ∧ Aside0 (w'.heap[gb270]? = some (.cells #[(.slice A0_0 l0_0.length c0_0), .int .i64 a0_1] 47 (0, 0))) ∧ Aside0 (w'.heap[gb271]? = some (.cells #[(.slice none 0 0), .int .i64 0] 47 (0, 0))) ∧ Aside0 (Below w.heap.size w w'))
      case atStart => exact ⟨(0), (wrap64 (a1 - 1)), (by first | rfl | (simp; done) | (simp [*]; done)), (by first | rfl | (simp; done) | (simp [*]; done)), H', ⟨Nat.le_refl _⟩, ⟨by (with_reducible repeat (first | apply Kd.V_alloc | apply Kd.V_drewN | apply Kd.V_drew)); exact Kd.V_mono HO0_0.out (fun _ hk => ⟨hk.1.1, ⟨hk.1.2, hk.2⟩⟩)⟩, ⟨by (with_reducible repeat (first | refine blk_drewN ?_ _ | refine blk_drew ?_ | refine blk_alloc ?_ _)); exact BK270.out⟩, ⟨by (with_reducible repeat (first | refine blk_drewN ?_ _ | refine blk_drew ?_ | refine blk_alloc ?_ _)); exact BK271.out⟩, ⟨bl7 HB⟩⟩
      case round =>
        clear H'
        try clear c1
        try clear c2
        try clear p2
        try clear c4
        try clear c5
        try clear p6
        try clear c7
        try clear c13
        try clear c13b0
        try clear c16
        try clear c25
        try clear hcz17_0
        try clear hcz17_1
        try clear hcz19_0
        try clear hcz19_1
        try clear hcz26_0
        try clear hcz26_1
        try clear hcz28_0
        try clear hcz28_1
        try clear hcz8_0
        try clear hcz8_1
        try clear hfz17_0
        try clear hfz17_1
        try clear hfz19_0
        try clear hfz19_1
        try clear hfz26_0
        try clear hfz26_1
        try clear hfz28_0
        try clear hfz28_1
        try clear hfz8_0
        try clear hfz8_1
        obtain ⟨x7_1, x8_1, rfl, rfl, HA, HK1, HO_271000, BK270, BK271, HB⟩ := hrel
        cases gk with
        | zero => exact absurd HA.out (by simp [cashbookref7_Low.l0])
        | succ k1 =>
          have H := HA.out
          clear HA
          simp only [cashbookref7_Low.l0] at H
          by_cases c29 : x8_1 ≥ 0
          · rw [if_pos c29] at H
            have c29b0 : decide (0 ≤ x8_1) = true := decide_eq_true c29
            clear c29
            obtain ⟨ji30, hji30⟩ : ∃ j_ : Int, (wrap64 (a0_1 + x8_1)) = j_ := ⟨_, rfl⟩
            replace H : (if 0 ≤ (ji30) then (if (ji30) < (l0_0.length : Int) then (cashbookref7_Low.l0 k1 a1 (Go.bits .or .u64 (IntKind.u64.wrap (x7_1 * 256)) (IntKind.u64.wrap (rd l0_0 (ji30)))) (wrap64 (x8_1 - 1)) l0_0 a0_1) else (none)) else (none)) = some (r1, r2, r3, r4) := by first | (rw [hji30] at H; exact H) | (simp only [hji30] at H ⊢; exact H)
            have hji30w : (IntKind.i64.wrap (a0_1 + x8_1)) = ji30 := (i64_w _).trans hji30
            by_cases c31 : 0 ≤ (ji30)
            · rw [if_pos c31] at H
              have c31b0 : decide (0 ≤ (ji30)) = true := decide_eq_true c31
              clear c31
              by_cases c32 : (ji30) < (l0_0.length : Int)
              · rw [if_pos c32] at H
                have c32b0 : decide ((ji30) < (l0_0.length : Int)) = true := decide_eq_true c32
                clear c32
                have H' := Aside0.mk H
                clear H
                have hnb33 := NB270_271.out
                have hnc33 := NB271_270.out
                have hcz34_0 : wr.cell? ⟨gb270, 0, none⟩ = some (.slice A0_0 l0_0.length c0_0) := (blk_cell BK270.out 0).trans rfl
                have hcz34_1 : wr.cell? ⟨gb270, 1, none⟩ = some (.int .i64 a0_1) := (blk_cell BK270.out 1).trans rfl
                have hfz34_0 := blk_frozen BK270.out 0
                have hfz34_1 := blk_frozen BK270.out 1
                have p273 : 0 ≤ ((ji30) : Int) := of_decide_eq_true (by first | (with_reducible assumption) | assumption)
                have q273 : (ji30) < (l0_0.length : Int) := of_decide_eq_true (by first | (with_reducible assumption) | assumption)
                obtain ⟨ad273, e273, hx273_0⟩ := Kd.at_int (Kd.V_reads' HO_271000.out).2.2 (ji30) p273 q273
                cases e273
                replace p273 := eq_true p273
                replace q273 := eq_true q273
                go_wp2
                go_roundg k1
                case measure => have := HK1.out; omega
                case rel => exact ⟨(Go.bits .or .u64 (IntKind.u64.wrap (x7_1 * 256)) (IntKind.u64.wrap (rd l0_0 (ji30)))), (wrap64 (x8_1 - 1)), (by first | rfl | (simp; done) | (simp only [← hji30] <;> (first | rfl | simp)) | (simp [*]; done)), (by first | rfl | (simp; done) | (simp [*]; done)), H', ⟨by have := HK1.out; omega⟩, ⟨by (with_reducible repeat (first | apply Kd.V_alloc | apply Kd.V_drewN | apply Kd.V_drew)); exact HO_271000.out⟩, ⟨by (with_reducible repeat (first | refine blk_drewN ?_ _ | refine blk_drew ?_ | refine blk_alloc ?_ _)); exact BK270.out⟩, ⟨by (with_reducible repeat (first | refine blk_drewN ?_ _ | refine blk_drew ?_ | refine blk_alloc ?_ _)); exact BK271.out⟩, ⟨bl7 HB⟩⟩
              · rw [if_neg c32] at H
                exact absurd H (by simp)
            · rw [if_neg c31] at H
              exact absurd H (by simp)
          · rw [if_neg c29] at H
            have c29b0 : decide (0 ≤ x8_1) = false := decide_eq_false c29
            clear c29
            simp only [Option.some.injEq, Prod.mk.injEq] at H
            obtain ⟨rfl, rfl, rfl, rfl⟩ := H
            try go_wp2
            have n0_ := Aside0.mk (Kd.V_drew HO_271000.out)
            have n1_ := Aside0.mk (blk_drew BK270.out)
            have n2_ := Aside0.mk (blk_drew BK271.out)
            have n3_ := Aside0.mk (below_drew1 HB.out)
            clear HO_271000
            clear BK270
            clear BK271
            clear HB
            have HO_271000 := n0_
            have BK270 := n1_
            have BK271 := n2_
            have HB := n3_
            clear n0_ n1_ n2_ n3_
            refine start_ (n := 11) (S := fun w' => w'.cell? ⟨gb270, 0, none⟩ = some (.slice A0_0 l0_0.length c0_0) ∧ w'.cell? ⟨gb270, 1, none⟩ = some (.int .i64 a0_1)) (ds := []) #[false, false, false, false, false, false, false, false, false, false, false] (by kernel_rfl) rfl rfl ⟨(blk_cell BK270.out 0).trans rfl, (blk_cell BK270.out 1).trans rfl⟩ (fun hHeld => ?_); refine with_tabW cashbookref7_Low.tab10 cashbookref7_Low.bits10 (fun HT_ HW_ => ?_)
            generalize wr.drew = w35 at HO_271000 BK270 BK271 HB hHeld ⊢
            refine pure_ (i := 0) (N := some 39) (v := ?_) (a' := ?_) #[true, false, false, false, false, false, false, false, false, false, false] rfl rfl (any_of HT_.out (by kernel_rfl)) (fun _ _ _ h => h) (Or.inl ⟨by rfl, ?_⟩) ?_ ?_
            rotate_left
            · intro w'
              go_simp
              with_reducible rfl
            rotate_left
            · simp only [Act.put, List.setIfInBounds_toArray, List.set_cons_zero, List.set_cons_succ, i64_w, i32_w]
              rfl
            refine pure_ (i := 1) (N := some 40) (v := ?_) (a' := ?_) #[true, true, false, false, false, false, false, false, false, false, false] rfl rfl (any_of HT_.out (by kernel_rfl)) (fun _ _ _ h => h) (Or.inl ⟨by rfl, ?_⟩) ?_ ?_
            rotate_left
            · intro w'
              go_simp
              with_reducible rfl
            rotate_left
            · simp only [Act.put, List.setIfInBounds_toArray, List.set_cons_zero, List.set_cons_succ, i64_w, i32_w]
              rfl
            refine pure_ (i := 3) (N := some 42) (v := ?_) (a' := ?_) #[true, true, false, true, false, false, false, false, false, false, false] rfl rfl (any_of HT_.out (by kernel_rfl)) (fun _ _ _ h => h) (Or.inl ⟨by rfl, ?_⟩) ?_ ?_
            rotate_left
            · intro w'
              go_simp
              with_reducible rfl
            rotate_left
            · simp only [Act.put, List.setIfInBounds_toArray, List.set_cons_zero, List.set_cons_succ, i64_w, i32_w]
              rfl
            refine pure_ (i := 5) (N := some 44) (v := ?_) (a' := ?_) #[true, true, false, true, false, true, false, false, false, false, false] rfl rfl (any_of HT_.out (by kernel_rfl)) (fun _ _ _ h => h) (Or.inl ⟨by rfl, ?_⟩) ?_ ?_
            rotate_left
            · intro w'
              go_simp
              with_reducible rfl
            rotate_left
            · simp only [Act.put, List.setIfInBounds_toArray, List.set_cons_zero, List.set_cons_succ, i64_w, i32_w]
              rfl
            refine pure_ (i := 8) (N := some 4) (v := ?_) (a' := ?_) #[true, true, false, true, false, true, false, false, true, false, false] rfl rfl (any_of HT_.out (by kernel_rfl)) (fun _ _ _ h => h) (Or.inl ⟨by rfl, ?_⟩) ?_ ?_
            rotate_left
            · intro w'
              go_simp
              with_reducible rfl
            rotate_left
            · simp only [Act.put, List.setIfInBounds_toArray, List.set_cons_zero, List.set_cons_succ, i64_w, i32_w]
              rfl
            refine take_ (i := 2) (N := some 41) (v := ?_) (a' := ?_) #[true, true, true, true, false, true, false, false, true, false, false] rfl rfl (take_ofW HT_.out HW_.out (by kernel_rfl)) (fun _ _ _ h => h) (Or.inl ⟨by rfl, ?_⟩) hHeld ?_ ?_
            rotate_left
            · rintro w' ⟨s0, s1⟩
              go_simp
              with_reducible rfl
            rotate_left
            · simp only [Act.put, List.setIfInBounds_toArray, List.set_cons_zero, List.set_cons_succ, i64_w, i32_w]
              rfl
            refine take_ (i := 4) (N := some 43) (v := ?_) (a' := ?_) #[true, true, true, true, true, true, false, false, true, false, false] rfl rfl (take_ofW HT_.out HW_.out (by kernel_rfl)) (fun _ _ _ h => h) (Or.inl ⟨by rfl, ?_⟩) hHeld ?_ ?_
            rotate_left
            · rintro w' ⟨s0, s1⟩
              go_simp
              with_reducible rfl
            rotate_left
            · simp only [Act.put, List.setIfInBounds_toArray, List.set_cons_zero, List.set_cons_succ, i64_w, i32_w]
              rfl
            refine pure_ (i := 6) (N := some 45) (v := ?_) (a' := ?_) #[true, true, true, true, true, true, true, false, true, false, false] rfl rfl (any_of HT_.out (by kernel_rfl)) (fun _ _ _ h => h) (Or.inl ⟨by rfl, ?_⟩) ?_ ?_
            rotate_left
            · intro w'
              go_simp
              with_reducible rfl
            rotate_left
            · simp only [Act.put, List.setIfInBounds_toArray, List.set_cons_zero, List.set_cons_succ, i64_w, i32_w]
              rfl
            refine pure_ (i := 7) (N := some 46) (v := ?_) (a' := ?_) #[true, true, true, true, true, true, true, true, true, false, false] rfl rfl (any_of HT_.out (by kernel_rfl)) (fun _ _ _ h => h) (Or.inl ⟨by rfl, ?_⟩) ?_ ?_
            rotate_left
            · intro w'
              go_simp
              with_reducible rfl
            rotate_left
            · simp only [Act.put, List.setIfInBounds_toArray, List.set_cons_zero, List.set_cons_succ, i64_w, i32_w]
              rfl
            refine one_ (i := 9) (N := none) #[true, true, true, true, true, true, true, true, true, true, false] rfl rfl (one_of HT_.out (by kernel_rfl)) (by decide) (fun K hK => ?_)
            have hs36 : w35.cell? ⟨gb271, 0, none⟩ = some (.slice none 0 0) := (blk_cell BK271.out 0).trans rfl
            have hfs36 := blk_frozen BK271.out 0
            have hns36_0 := NB270_271.out
            have hms36_0 := NB271_270.out
            have hs37 : w35.cell? ⟨gb271, 1, none⟩ = some (.int .i64 0) := (blk_cell BK271.out 1).trans rfl
            have hfs37 := blk_frozen BK271.out 1
            have hns37_0 := NB270_271.out
            have hms37_0 := NB271_270.out
            refine skip_ (w1 := ?_) (by rfl) rfl ?_ ?_
            rotate_left
            · go_simp
              rfl
            refine hK.out _ _ ⟨((cell_far (p := ⟨gb271, _, none⟩) NB270_271.out _).trans (((cell_far (p := ⟨gb271, _, none⟩) NB270_271.out _).trans (hHeld.1)))), ((cell_far (p := ⟨gb271, _, none⟩) NB270_271.out _).trans (((cell_far (p := ⟨gb271, _, none⟩) NB270_271.out _).trans (hHeld.2))))⟩ (fun hHeld => ?_)
            clear hK K
            refine pure_ (i := 10) (N := some 6) (v := ?_) (a' := ?_) #[true, true, true, true, true, true, true, true, true, true, true] rfl rfl (any_of HT_.out (by kernel_rfl)) (fun _ _ _ h => h) (Or.inl ⟨by rfl, ?_⟩) ?_ ?_
            rotate_left
            · intro w'
              go_simp
              with_reducible rfl
            rotate_left
            · simp only [Act.put, List.setIfInBounds_toArray, List.set_cons_zero, List.set_cons_succ, i64_w, i32_w]
              rfl
            refine done_ (done_of HT_.out (by kernel_rfl)) ?_
            try go_wp2
            refine bodyPost_ret (results_list (rs := [.tmp 4, .cell 5 47, .tmp 6]) rfl (by simp) (.tmp (.cell gb271 47 #[.slice A0_0 l0_0.length c0_0, .int .i64 (wrap64 (a0_1 + a1))] (0, 0) _ rfl (by (with_reducible repeat (first | refine blk_drewN ?_ _ | refine blk_drew ?_ | refine blk_alloc ?_ _)); refine blk_put (cs := #[.slice A0_0 l0_0.length c0_0, .int .i64 0]) ?_ 1 _ rfl; (with_reducible repeat (first | refine blk_drewN ?_ _ | refine blk_drew ?_ | refine blk_alloc ?_ _)); refine blk_put (cs := #[.slice none 0 0, .int .i64 0]) ?_ 0 _ rfl; (with_reducible repeat (first | refine blk_drewN ?_ _ | refine blk_drew ?_ | refine blk_alloc ?_ _)); exact BK271.out) Try.underlying47 rfl (by kernel_rfl) (.tmp .nil)))) rfl ?_
            exact ⟨_, by first | rfl | (simp [errW_none, errW_some] <;> rfl) | (simp [*, errW_none, errW_some] <;> rfl), by (with_reducible repeat (first | apply Kd.V_alloc | apply Kd.V_drewN | apply Kd.V_drew)); exact Kd.V_mono (Kd.V_far (p := ⟨gb271, 1, none⟩) (Kd.V_far (p := ⟨gb271, 0, none⟩) (Kd.V_mono HO_271000.out (fun k_ hk => (⟨hk, hk.2.2⟩ : _ ∧ k_ ≠ gb271))) (fun _ hk => hk.2) (.slice A0_0 l0_0.length c0_0)) (fun _ hk => hk.2) (.int .i64 (wrap64 (a0_1 + a1)))) (fun _ hk => hk.1.1), bl7 HB⟩

end Go.Proofs.Ytnbllonnfbejgaa.Le
