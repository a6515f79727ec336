/- What the functions that RecFronts reaches compute: a part. -/
import Derived.Test.YtcghkmihbfibkaaRec2
set_option linter.all false
namespace Go.Pv.Cb
open Go.Pv
set_option maxRecDepth 10000
set_option maxHeartbeats 4000000
set_option linter.unusedSimpArgs false
def hd (k n : Int) : List UInt8 := [by8 k, by8 (k / 256), by8 n, by8 (n / 256)]
/-- A record's bytes, from one place on. -/
def encP (d : List UInt8) : Int → Nat → List Int → List UInt8
  | k, at_, [] => hd k (d.drop at_).length ++ d.drop at_
  | k, at_, c :: cs => hd k ((d.take c.toNat).drop at_).length ++ (d.take c.toNat).drop at_ ++ encP d 60 c.toNat cs
/-- Records in bytes, or why not. -/
def wr (b : List UInt8) : List R → List UInt8 × Int
  | [] => (b, 0)
  | r :: t => if chk r.ty r.data r.cuts = 0 then wr (b ++ encP r.data r.ty 0 r.cuts) t else ([], chk r.ty r.data r.cuts)
theorem chk_cuts {ty : Int} {d : List UInt8} {c : List Int} (h : chk ty d c = 0) : okCuts d.length 0 c = true ∧ okGaps d.length 0 c = true ∧ 0 ≤ ty ∧ ty ≤ 65535 ∧ ty ≠ 60 := by
  unfold chk at h
  split at h
  · simp at h
  · split at h
    · simp at h
    · split at h
      · rename_i h3
        split at h
        · rename_i h4
          exact ⟨h3, h4, by omega, by omega, by omega⟩
        · simp at h
      · simp at h
theorem encP_len (d : List UInt8) : ∀ (cs : List Int) (k : Int) (at_ : Nat), (encP d k at_ cs).length ≤ (cs.length + 1) * (d.length + 4)
  | [], k, at_ => by simp [encP, hd]
  | c :: cs, k, at_ => by
    have := encP_len d cs 60 c.toNat
    simp only [encP, hd, List.length_append, List.length_cons, List.length_nil, List.length_drop, List.length_take]
    rw [Nat.add_mul (cs.length + 1) 1]
    omega
theorem okCuts_len {n : Int} : ∀ {l : List Int} {last : Int}, okCuts n last l = true → last ≤ n → (l.length : Int) ≤ n - last
  | [], last, _, h2 => by simpa using (by omega : (0 : Int) ≤ n - last)
  | d :: l, last, h, _ => by
    simp only [okCuts, Bool.and_eq_true, decide_eq_true_eq] at h
    have := okCuts_len h.2 (by omega)
    simp only [List.length_cons]
    omega
theorem chk_len {ty : Int} {d : List UInt8} {c : List Int} (h : chk ty d c = 0) : d.length ≤ 65536 ∧ c.length ≤ 65536 := by
  have h2 : d.length ≤ 65536 := by
    unfold chk at h
    split at h
    · simp at h
    · split at h
      · simp at h
      · omega
  have := okCuts_len (chk_cuts h).1 (by omega)
  exact ⟨h2, by omega⟩
theorem put_spec (b : List UInt8) (k : Int) (d : List UInt8) (h : b.length ≤ 1000000000000) (h2 : d.length ≤ 1000000) :
    ansOf E F_rec_put [.w (.own 1 (plains (ofBytes b))), .w (.p (.int .i64 k)), .w (.p (.sl 1 (ofBytes d)))] = some ([(false, [.own 1 (plains (ofBytes (b ++ (hd k d.length ++ d))))])], []) := by
  refine rec_put_ans rfl rfl ?_
  repeat' (first
      | ((first | apply wpS_stepT | apply wpS_stepDT); intro rr hrr; (simp -implicitDefEqProofs +contextual (maxSteps := 10000000) (disch := first | assumption | with_unfolding_all exact id rfl | omega | decide) only [go_sem, Int.reduceToNat, Int.reduceAdd, Int.reduceSub, Int.reduceMul, Int.reduceNeg, Int.reducePow, Int.reduceLT, Int.reduceLE, Int.reduceEq, Int.reduceNe, Int.reduceBEq, Int.reduceBNe, Int.reduceDiv, Int.reduceMod, Nat.reducePow, ↓reduceIte, reduceCtorEq, Nat.reduceEqDiff, Nat.reduceLT, Nat.reduceLeDiff, Nat.reduceAdd, Nat.reduceSub, Nat.reduceMul, Nat.reduceBEq, Nat.reduceBNe]); (first | (apply oThen_intro; (first | (refine hrr _ _ (by kernel_rfl) ?_) | (refine hrr _ ?_ ?_) | (refine hrr _ ?_)) <;> clear hrr rr) | (apply oThen_gcond)))
      | (apply wpS_label1)
      | (apply wpS_skip1)
      | (apply wpS_block)
      | ((first | apply wpS_seq_goto | apply wpS_seq_exit | apply wpS_seq_ret); (try simp only [thenS, blockS, ↓reduceIte, Nat.reduceEqDiff]))
      | (apply wpS_seq_cond)
      | (apply wpS_seq_block)
      | (apply wpS_seq_loop)
      | (apply wpS_seq_scope)
      | (apply wpS_seq_seq)
      | ((first | refine wpS_regL rfl ?_ | refine wpS_drawL rfl ?_ | apply wpS_condT); intro rr hrr; (simp -implicitDefEqProofs +contextual (maxSteps := 10000000) (disch := first | assumption | with_unfolding_all exact id rfl | omega | decide) only [go_sem, Int.reduceToNat, Int.reduceAdd, Int.reduceSub, Int.reduceMul, Int.reduceNeg, Int.reducePow, Int.reduceLT, Int.reduceLE, Int.reduceEq, Int.reduceNe, Int.reduceBEq, Int.reduceBNe, Int.reduceDiv, Int.reduceMod, Nat.reducePow, ↓reduceIte, reduceCtorEq, Nat.reduceEqDiff, Nat.reduceLT, Nat.reduceLeDiff, Nat.reduceAdd, Nat.reduceSub, Nat.reduceMul, Nat.reduceBEq, Nat.reduceBNe]); (first | ((apply oThen_intro; (first | (refine hrr _ _ (by kernel_rfl) ?_) | (refine hrr _ ?_ ?_) | (refine hrr _ ?_)) <;> clear hrr rr); (try dsimp only [thenS, blockS])) | (apply oThen_gcond)))
      | ((first | apply wpS_skip | apply wpS_exit | apply wpS_goto | apply wpS_ret); (try simp only [thenS, blockS, ↓reduceIte, Nat.reduceEqDiff]))
      | (apply oThen_intro; (first | (refine hrr _ _ (by kernel_rfl) ?_) | (refine hrr _ ?_ ?_) | (refine hrr _ ?_)) <;> clear hrr rr)
      | (apply oThen_gcond)
      | (intro hb; first | (exact absurd hb (by decide)) | (simp only [decide_eq_true_eq, decide_eq_false_iff_not, beq_iff_eq, bne_iff_ne, ne_eq, beq_eq_false_iff_ne, bne_eq_false_iff_eq, Bool.not_eq_true', Bool.not_eq_false', Bool.not_eq_eq_eq_not, Bool.not_true, Bool.not_false, Int.not_lt, Int.not_le, gt_iff_lt, ge_iff_le, Bool.or_eq_true, Bool.and_eq_true, Bool.or_eq_false_iff, Decidable.not_not] at hb) | skip))
  (refine ⟨by simp, ?_⟩; (simp -implicitDefEqProofs +contextual (maxSteps := 10000000) (disch := first | assumption | with_unfolding_all exact id rfl | omega | decide) only [go_sem, Int.reduceToNat, Int.reduceAdd, Int.reduceSub, Int.reduceMul, Int.reduceNeg, Int.reducePow, Int.reduceLT, Int.reduceLE, Int.reduceEq, Int.reduceNe, Int.reduceBEq, Int.reduceBNe, Int.reduceDiv, Int.reduceMod, Nat.reducePow, ↓reduceIte, reduceCtorEq, Nat.reduceEqDiff, Nat.reduceLT, Nat.reduceLeDiff, Nat.reduceAdd, Nat.reduceSub, Nat.reduceMul, Nat.reduceBEq, Nat.reduceBNe, rec_put]))
  rfl
theorem Write_spec (l : List R) (h : ∀ r ∈ l, r.data.length ≤ 140737488351232 ∧ r.cuts.length ≤ 140737488351232) (hl : l.length ≤ 100) :
    ansOf E F_rec_Write [.w (.p (.sl 4 (l.map eR)))] = some ([(false, [.own 1 (plains (ofBytes (wr [] l).1))]), (false, [.p (.int .i64 (wr [] l).2)])], []) := by
  refine rec_Write_ans rfl rfl ?_
  repeat' (first
      | ((first | apply wpS_stepT | apply wpS_stepDT); intro rr hrr; (simp -implicitDefEqProofs +contextual (maxSteps := 10000000) (disch := first | assumption | with_unfolding_all exact id rfl | omega | decide) only [go_sem, Int.reduceToNat, Int.reduceAdd, Int.reduceSub, Int.reduceMul, Int.reduceNeg, Int.reducePow, Int.reduceLT, Int.reduceLE, Int.reduceEq, Int.reduceNe, Int.reduceBEq, Int.reduceBNe, Int.reduceDiv, Int.reduceMod, Nat.reducePow, ↓reduceIte, reduceCtorEq, Nat.reduceEqDiff, Nat.reduceLT, Nat.reduceLeDiff, Nat.reduceAdd, Nat.reduceSub, Nat.reduceMul, Nat.reduceBEq, Nat.reduceBNe]); (first | (apply oThen_intro; (first | (refine hrr _ _ (by kernel_rfl) ?_) | (refine hrr _ ?_ ?_) | (refine hrr _ ?_)) <;> clear hrr rr) | (apply oThen_gcond)))
      | (apply wpS_label1)
      | (apply wpS_skip1)
      | (apply wpS_block)
      | ((first | apply wpS_seq_goto | apply wpS_seq_exit | apply wpS_seq_ret); (try simp only [thenS, blockS, ↓reduceIte, Nat.reduceEqDiff]))
      | (apply wpS_seq_cond)
      | (apply wpS_seq_block)
      | (apply wpS_seq_loop)
      | (apply wpS_seq_scope)
      | (apply wpS_seq_seq)
      | ((first | refine wpS_regL rfl ?_ | refine wpS_drawL rfl ?_ | apply wpS_condT); intro rr hrr; (simp -implicitDefEqProofs +contextual (maxSteps := 10000000) (disch := first | assumption | with_unfolding_all exact id rfl | omega | decide) only [go_sem, Int.reduceToNat, Int.reduceAdd, Int.reduceSub, Int.reduceMul, Int.reduceNeg, Int.reducePow, Int.reduceLT, Int.reduceLE, Int.reduceEq, Int.reduceNe, Int.reduceBEq, Int.reduceBNe, Int.reduceDiv, Int.reduceMod, Nat.reducePow, ↓reduceIte, reduceCtorEq, Nat.reduceEqDiff, Nat.reduceLT, Nat.reduceLeDiff, Nat.reduceAdd, Nat.reduceSub, Nat.reduceMul, Nat.reduceBEq, Nat.reduceBNe]); (first | ((apply oThen_intro; (first | (refine hrr _ _ (by kernel_rfl) ?_) | (refine hrr _ ?_ ?_) | (refine hrr _ ?_)) <;> clear hrr rr); (try dsimp only [thenS, blockS])) | (apply oThen_gcond)))
      | ((first | apply wpS_skip | apply wpS_exit | apply wpS_goto | apply wpS_ret); (try simp only [thenS, blockS, ↓reduceIte, Nat.reduceEqDiff]))
      | (apply oThen_intro; (first | (refine hrr _ _ (by kernel_rfl) ?_) | (refine hrr _ ?_ ?_) | (refine hrr _ ?_)) <;> clear hrr rr)
      | (apply oThen_gcond)
      | (intro hb; first | (exact absurd hb (by decide)) | (simp only [decide_eq_true_eq, decide_eq_false_iff_not, beq_iff_eq, bne_iff_ne, ne_eq, beq_eq_false_iff_ne, bne_eq_false_iff_eq, Bool.not_eq_true', Bool.not_eq_false', Bool.not_eq_eq_eq_not, Bool.not_true, Bool.not_false, Int.not_lt, Int.not_le, gt_iff_lt, ge_iff_le, Bool.or_eq_true, Bool.and_eq_true, Bool.or_eq_false_iff, Decidable.not_not] at hb) | skip))
  apply wpS_scope
  repeat' (first
      | ((first | apply wpS_stepT | apply wpS_stepDT); intro rr hrr; (simp -implicitDefEqProofs +contextual (maxSteps := 10000000) (disch := first | assumption | with_unfolding_all exact id rfl | omega | decide) only [go_sem, Int.reduceToNat, Int.reduceAdd, Int.reduceSub, Int.reduceMul, Int.reduceNeg, Int.reducePow, Int.reduceLT, Int.reduceLE, Int.reduceEq, Int.reduceNe, Int.reduceBEq, Int.reduceBNe, Int.reduceDiv, Int.reduceMod, Nat.reducePow, ↓reduceIte, reduceCtorEq, Nat.reduceEqDiff, Nat.reduceLT, Nat.reduceLeDiff, Nat.reduceAdd, Nat.reduceSub, Nat.reduceMul, Nat.reduceBEq, Nat.reduceBNe]); (first | (apply oThen_intro; (first | (refine hrr _ _ (by kernel_rfl) ?_) | (refine hrr _ ?_ ?_) | (refine hrr _ ?_)) <;> clear hrr rr) | (apply oThen_gcond)))
      | (apply wpS_label1)
      | (apply wpS_skip1)
      | (apply wpS_block)
      | ((first | apply wpS_seq_goto | apply wpS_seq_exit | apply wpS_seq_ret); (try simp only [thenS, blockS, ↓reduceIte, Nat.reduceEqDiff]))
      | (apply wpS_seq_cond)
      | (apply wpS_seq_block)
      | (apply wpS_seq_loop)
      | (apply wpS_seq_scope)
      | (apply wpS_seq_seq)
      | ((first | refine wpS_regL rfl ?_ | refine wpS_drawL rfl ?_ | apply wpS_condT); intro rr hrr; (simp -implicitDefEqProofs +contextual (maxSteps := 10000000) (disch := first | assumption | with_unfolding_all exact id rfl | omega | decide) only [go_sem, Int.reduceToNat, Int.reduceAdd, Int.reduceSub, Int.reduceMul, Int.reduceNeg, Int.reducePow, Int.reduceLT, Int.reduceLE, Int.reduceEq, Int.reduceNe, Int.reduceBEq, Int.reduceBNe, Int.reduceDiv, Int.reduceMod, Nat.reducePow, ↓reduceIte, reduceCtorEq, Nat.reduceEqDiff, Nat.reduceLT, Nat.reduceLeDiff, Nat.reduceAdd, Nat.reduceSub, Nat.reduceMul, Nat.reduceBEq, Nat.reduceBNe]); (first | ((apply oThen_intro; (first | (refine hrr _ _ (by kernel_rfl) ?_) | (refine hrr _ ?_ ?_) | (refine hrr _ ?_)) <;> clear hrr rr); (try dsimp only [thenS, blockS])) | (apply oThen_gcond)))
      | ((first | apply wpS_skip | apply wpS_exit | apply wpS_goto | apply wpS_ret); (try simp only [thenS, blockS, ↓reduceIte, Nat.reduceEqDiff]))
      | (apply oThen_intro; (first | (refine hrr _ _ (by kernel_rfl) ?_) | (refine hrr _ ?_ ?_) | (refine hrr _ ?_)) <;> clear hrr rr)
      | (apply oThen_gcond)
      | (intro hb; first | (exact absurd hb (by decide)) | (simp only [decide_eq_true_eq, decide_eq_false_iff_not, beq_iff_eq, bne_iff_ne, ne_eq, beq_eq_false_iff_ne, bne_eq_false_iff_eq, Bool.not_eq_true', Bool.not_eq_false', Bool.not_eq_eq_eq_not, Bool.not_true, Bool.not_false, Int.not_lt, Int.not_le, gt_iff_lt, ge_iff_le, Bool.or_eq_true, Bool.and_eq_true, Bool.or_eq_false_iff, Decidable.not_not] at hb) | skip))
  refine wpS_loop_inv (fun x : Nat × List UInt8 => [(0, .w (.p (.sl 4 (l.map eR)))), (2, .w (.own 1 (plains (ofBytes x.2)))), (10, .w (.p (.sl 4 (l.map eR)))), (11, .w (.p (.int .i64 l.length))), (12, .w (.p (.int .i64 x.1)))]) (fun x => x.1 ≤ l.length ∧ x.2.length ≤ x.1 * 5000000000 ∧ wr x.2 (l.drop x.1) = wr [] l) (fun x => l.length - x.1) (0, []) rfl ⟨by omega, by simp, rfl⟩ ?_
  rintro ⟨i, b⟩ ⟨hi, hbl, hinv⟩ ih
  dsimp only at hi hbl hinv ih ⊢
  rcases Nat.lt_or_ge i l.length with hlt | hge
  · obtain ⟨r, hr⟩ := get_lt hlt
    have hlt' : (i : Int) < l.length := by omega
    obtain ⟨hr1, hr2⟩ := h r (mem_get hr)
    rw [drop_get hr, wr] at hinv
    by_cases hc : chk r.ty r.data r.cuts = 0
    · rw [if_pos hc] at hinv
      obtain ⟨hok, hgp, ht0, ht1, ht2⟩ := chk_cuts hc
      have hm := okCuts_mem hok
      have hel := encP_len r.data r.cuts r.ty 0
      obtain ⟨hq1, hq2⟩ := chk_len hc
      have hmul : (r.cuts.length + 1) * (r.data.length + 4) ≤ 65537 * 65540 := Nat.mul_le_mul (by omega) (by omega)
      repeat' (first
          | ((first | apply wpS_stepT | apply wpS_stepDT); intro rr hrr; (simp -implicitDefEqProofs +contextual (maxSteps := 10000000) (disch := first | assumption | with_unfolding_all exact id rfl | omega | decide) only [go_sem, Int.reduceToNat, Int.reduceAdd, Int.reduceSub, Int.reduceMul, Int.reduceNeg, Int.reducePow, Int.reduceLT, Int.reduceLE, Int.reduceEq, Int.reduceNe, Int.reduceBEq, Int.reduceBNe, Int.reduceDiv, Int.reduceMod, Nat.reducePow, ↓reduceIte, reduceCtorEq, Nat.reduceEqDiff, Nat.reduceLT, Nat.reduceLeDiff, Nat.reduceAdd, Nat.reduceSub, Nat.reduceMul, Nat.reduceBEq, Nat.reduceBNe, hr, hlt', eR, Check_spec, hc]); (first | (apply oThen_intro; (first | (refine hrr _ _ (by kernel_rfl) ?_) | (refine hrr _ ?_ ?_) | (refine hrr _ ?_)) <;> clear hrr rr) | (apply oThen_gcond)))
          | (apply wpS_label1)
          | (apply wpS_skip1)
          | (apply wpS_block)
          | ((first | apply wpS_seq_goto | apply wpS_seq_exit | apply wpS_seq_ret); (try simp only [thenS, blockS, ↓reduceIte, Nat.reduceEqDiff]))
          | (apply wpS_seq_cond)
          | (apply wpS_seq_block)
          | (apply wpS_seq_loop)
          | (apply wpS_seq_scope)
          | (apply wpS_seq_seq)
          | ((first | refine wpS_regL rfl ?_ | refine wpS_drawL rfl ?_ | apply wpS_condT); intro rr hrr; (simp -implicitDefEqProofs +contextual (maxSteps := 10000000) (disch := first | assumption | with_unfolding_all exact id rfl | omega | decide) only [go_sem, Int.reduceToNat, Int.reduceAdd, Int.reduceSub, Int.reduceMul, Int.reduceNeg, Int.reducePow, Int.reduceLT, Int.reduceLE, Int.reduceEq, Int.reduceNe, Int.reduceBEq, Int.reduceBNe, Int.reduceDiv, Int.reduceMod, Nat.reducePow, ↓reduceIte, reduceCtorEq, Nat.reduceEqDiff, Nat.reduceLT, Nat.reduceLeDiff, Nat.reduceAdd, Nat.reduceSub, Nat.reduceMul, Nat.reduceBEq, Nat.reduceBNe, hr, hlt', eR, Check_spec, hc]); (first | ((apply oThen_intro; (first | (refine hrr _ _ (by kernel_rfl) ?_) | (refine hrr _ ?_ ?_) | (refine hrr _ ?_)) <;> clear hrr rr); (try dsimp only [thenS, blockS])) | (apply oThen_gcond)))
          | ((first | apply wpS_skip | apply wpS_exit | apply wpS_goto | apply wpS_ret); (try simp only [thenS, blockS, ↓reduceIte, Nat.reduceEqDiff]))
          | (apply oThen_intro; (first | (refine hrr _ _ (by kernel_rfl) ?_) | (refine hrr _ ?_ ?_) | (refine hrr _ ?_)) <;> clear hrr rr)
          | (apply oThen_gcond)
          | (intro hb; first | (exact absurd hb (by decide)) | (simp only [decide_eq_true_eq, decide_eq_false_iff_not, beq_iff_eq, bne_iff_ne, ne_eq, beq_eq_false_iff_ne, bne_eq_false_iff_eq, Bool.not_eq_true', Bool.not_eq_false', Bool.not_eq_eq_eq_not, Bool.not_true, Bool.not_false, Int.not_lt, Int.not_le, gt_iff_lt, ge_iff_le, Bool.or_eq_true, Bool.and_eq_true, Bool.or_eq_false_iff, Decidable.not_not] at hb) | skip))
      refine wpS_loop_inv (fun x : Nat × Int × Nat × List UInt8 => [(0, .w (.p (.sl 4 (l.map eR)))), (2, .w (.own 1 (plains (ofBytes x.2.2.2)))), (5, .box [.p (.int .i64 r.ty), .p (.sl 1 (ofBytes r.data)), .p (.sl 1 (eI r.cuts)), .p (.int .i64 r.at_)]), (6, .w (.p (.int .i64 x.2.1))), (7, .w (.p (.int .i64 x.2.2.1))), (10, .w (.p (.sl 4 (l.map eR)))), (11, .w (.p (.int .i64 l.length))), (12, .w (.p (.int .i64 i))), (22, .ptr (.b 5 2)), (23, .w (.p (.sl 1 (eI r.cuts)))), (24, .w (.p (.int .i64 r.cuts.length))), (25, .w (.p (.int .i64 x.1)))])
        (fun x => x.1 ≤ r.cuts.length ∧ x.2.2.1 ≤ r.data.length ∧ okCuts r.data.length x.2.2.1 (r.cuts.drop x.1) = true ∧ x.2.2.2 ++ encP r.data x.2.1 x.2.2.1 (r.cuts.drop x.1) = b ++ encP r.data r.ty 0 r.cuts) (fun x => r.cuts.length - x.1) (0, r.ty, 0, b) rfl ⟨by dsimp only; omega, by dsimp only; omega, hok, rfl⟩ ?_
      rintro ⟨j, kd, p, b'⟩ ⟨hj, hp, hkc, hinv2⟩ ih2
      dsimp only at hj hp hkc hinv2 ih2 ⊢
      have hbl2 : b'.length ≤ 1000000000000 := by
        have := congrArg List.length hinv2
        simp only [List.length_append] at this
        omega
      rcases Nat.lt_or_ge j r.cuts.length with hlt2 | hge2
      · obtain ⟨c, hcr⟩ := get_lt hlt2
        have hlt2' : (j : Int) < r.cuts.length := by omega
        rw [drop_get hcr] at hkc hinv2
        have hcm := okCuts_mem hkc c (by simp)
        obtain ⟨cn, rfl⟩ := Int.eq_ofNat_of_zero_le (show 0 ≤ c by omega)
        rw [okCuts_good hcm.1 hcm.2] at hkc
        have hdl : ((r.data.take cn).drop p).length ≤ 1000000 := by simp; omega
        have hcond : 0 ≤ (p : Int) ∧ (p : Int) ≤ cn ∧ (cn : Int) ≤ r.data.length := by omega
        repeat' (first
            | ((first | apply wpS_stepT | apply wpS_stepDT); intro rr hrr; (simp -implicitDefEqProofs +contextual (maxSteps := 10000000) (disch := first | assumption | with_unfolding_all exact id rfl | omega | decide) only [go_sem, Int.reduceToNat, Int.reduceAdd, Int.reduceSub, Int.reduceMul, Int.reduceNeg, Int.reducePow, Int.reduceLT, Int.reduceLE, Int.reduceEq, Int.reduceNe, Int.reduceBEq, Int.reduceBNe, Int.reduceDiv, Int.reduceMod, Nat.reducePow, ↓reduceIte, reduceCtorEq, Nat.reduceEqDiff, Nat.reduceLT, Nat.reduceLeDiff, Nat.reduceAdd, Nat.reduceSub, Nat.reduceMul, Nat.reduceBEq, Nat.reduceBNe, hcr, hlt2', put_spec]); (first | (apply oThen_intro; (first | (refine hrr _ _ (by kernel_rfl) ?_) | (refine hrr _ ?_ ?_) | (refine hrr _ ?_)) <;> clear hrr rr) | (apply oThen_gcond)))
            | (apply wpS_label1)
            | (apply wpS_skip1)
            | (apply wpS_block)
            | ((first | apply wpS_seq_goto | apply wpS_seq_exit | apply wpS_seq_ret); (try simp only [thenS, blockS, ↓reduceIte, Nat.reduceEqDiff]))
            | (apply wpS_seq_cond)
            | (apply wpS_seq_block)
            | (apply wpS_seq_loop)
            | (apply wpS_seq_scope)
            | (apply wpS_seq_seq)
            | ((first | refine wpS_regL rfl ?_ | refine wpS_drawL rfl ?_ | apply wpS_condT); intro rr hrr; (simp -implicitDefEqProofs +contextual (maxSteps := 10000000) (disch := first | assumption | with_unfolding_all exact id rfl | omega | decide) only [go_sem, Int.reduceToNat, Int.reduceAdd, Int.reduceSub, Int.reduceMul, Int.reduceNeg, Int.reducePow, Int.reduceLT, Int.reduceLE, Int.reduceEq, Int.reduceNe, Int.reduceBEq, Int.reduceBNe, Int.reduceDiv, Int.reduceMod, Nat.reducePow, ↓reduceIte, reduceCtorEq, Nat.reduceEqDiff, Nat.reduceLT, Nat.reduceLeDiff, Nat.reduceAdd, Nat.reduceSub, Nat.reduceMul, Nat.reduceBEq, Nat.reduceBNe, hcr, hlt2', put_spec]); (first | ((apply oThen_intro; (first | (refine hrr _ _ (by kernel_rfl) ?_) | (refine hrr _ ?_ ?_) | (refine hrr _ ?_)) <;> clear hrr rr); (try dsimp only [thenS, blockS])) | (apply oThen_gcond)))
            | ((first | apply wpS_skip | apply wpS_exit | apply wpS_goto | apply wpS_ret); (try simp only [thenS, blockS, ↓reduceIte, Nat.reduceEqDiff]))
            | (apply oThen_intro; (first | (refine hrr _ _ (by kernel_rfl) ?_) | (refine hrr _ ?_ ?_) | (refine hrr _ ?_)) <;> clear hrr rr)
            | (apply oThen_gcond)
            | (intro hb; first | (exact absurd hb (by decide)) | (simp only [decide_eq_true_eq, decide_eq_false_iff_not, beq_iff_eq, bne_iff_ne, ne_eq, beq_eq_false_iff_ne, bne_eq_false_iff_eq, Bool.not_eq_true', Bool.not_eq_false', Bool.not_eq_eq_eq_not, Bool.not_true, Bool.not_false, Int.not_lt, Int.not_le, gt_iff_lt, ge_iff_le, Bool.or_eq_true, Bool.and_eq_true, Bool.or_eq_false_iff, Decidable.not_not] at hb) | skip))
        exact ih2 (j + 1, 60, cn, b' ++ (hd kd ((r.data.take cn).drop p).length ++ (r.data.take cn).drop p)) (by dsimp only; omega) ⟨by dsimp only; omega, by dsimp only; omega, hkc, by
          dsimp only
          rw [← hinv2, encP, Int.toNat_natCast]
          simp only [List.append_assoc]⟩
      · have hge2' : ¬ (j : Int) < r.cuts.length := by omega
        rw [List.drop_eq_nil_of_le hge2, encP] at hinv2
        have hdl : (r.data.drop p).length ≤ 1000000 := by simp; omega
        have hcond : 0 ≤ (p : Int) ∧ (p : Int) ≤ r.data.length := by omega
        have htk : (ofBytes r.data).take r.data.length = ofBytes r.data := by rw [List.take_of_length_le (by rw [ofBytes_length]; omega)]
        repeat' (first
            | ((first | apply wpS_stepT | apply wpS_stepDT); intro rr hrr; (simp -implicitDefEqProofs +contextual (maxSteps := 10000000) (disch := first | assumption | with_unfolding_all exact id rfl | omega | decide) only [go_sem, Int.reduceToNat, Int.reduceAdd, Int.reduceSub, Int.reduceMul, Int.reduceNeg, Int.reducePow, Int.reduceLT, Int.reduceLE, Int.reduceEq, Int.reduceNe, Int.reduceBEq, Int.reduceBNe, Int.reduceDiv, Int.reduceMod, Nat.reducePow, ↓reduceIte, reduceCtorEq, Nat.reduceEqDiff, Nat.reduceLT, Nat.reduceLeDiff, Nat.reduceAdd, Nat.reduceSub, Nat.reduceMul, Nat.reduceBEq, Nat.reduceBNe, hge2', put_spec, List.take_length]); (first | (apply oThen_intro; (first | (refine hrr _ _ (by kernel_rfl) ?_) | (refine hrr _ ?_ ?_) | (refine hrr _ ?_)) <;> clear hrr rr) | (apply oThen_gcond)))
            | (apply wpS_label1)
            | (apply wpS_skip1)
            | (apply wpS_block)
            | ((first | apply wpS_seq_goto | apply wpS_seq_exit | apply wpS_seq_ret); (try simp only [thenS, blockS, ↓reduceIte, Nat.reduceEqDiff]))
            | (apply wpS_seq_cond)
            | (apply wpS_seq_block)
            | (apply wpS_seq_loop)
            | (apply wpS_seq_scope)
            | (apply wpS_seq_seq)
            | ((first | refine wpS_regL rfl ?_ | refine wpS_drawL rfl ?_ | apply wpS_condT); intro rr hrr; (simp -implicitDefEqProofs +contextual (maxSteps := 10000000) (disch := first | assumption | with_unfolding_all exact id rfl | omega | decide) only [go_sem, Int.reduceToNat, Int.reduceAdd, Int.reduceSub, Int.reduceMul, Int.reduceNeg, Int.reducePow, Int.reduceLT, Int.reduceLE, Int.reduceEq, Int.reduceNe, Int.reduceBEq, Int.reduceBNe, Int.reduceDiv, Int.reduceMod, Nat.reducePow, ↓reduceIte, reduceCtorEq, Nat.reduceEqDiff, Nat.reduceLT, Nat.reduceLeDiff, Nat.reduceAdd, Nat.reduceSub, Nat.reduceMul, Nat.reduceBEq, Nat.reduceBNe, hge2', put_spec, List.take_length]); (first | ((apply oThen_intro; (first | (refine hrr _ _ (by kernel_rfl) ?_) | (refine hrr _ ?_ ?_) | (refine hrr _ ?_)) <;> clear hrr rr); (try dsimp only [thenS, blockS])) | (apply oThen_gcond)))
            | ((first | apply wpS_skip | apply wpS_exit | apply wpS_goto | apply wpS_ret); (try simp only [thenS, blockS, ↓reduceIte, Nat.reduceEqDiff]))
            | (apply oThen_intro; (first | (refine hrr _ _ (by kernel_rfl) ?_) | (refine hrr _ ?_ ?_) | (refine hrr _ ?_)) <;> clear hrr rr)
            | (apply oThen_gcond)
            | (intro hb; first | (exact absurd hb (by decide)) | (simp only [decide_eq_true_eq, decide_eq_false_iff_not, beq_iff_eq, bne_iff_ne, ne_eq, beq_eq_false_iff_ne, bne_eq_false_iff_eq, Bool.not_eq_true', Bool.not_eq_false', Bool.not_eq_eq_eq_not, Bool.not_true, Bool.not_false, Int.not_lt, Int.not_le, gt_iff_lt, ge_iff_le, Bool.or_eq_true, Bool.and_eq_true, Bool.or_eq_false_iff, Decidable.not_not] at hb) | skip))
        rw [hinv2]
        exact ih (i + 1, b ++ encP r.data r.ty 0 r.cuts) (by dsimp only; omega) ⟨by dsimp only; omega, by dsimp only; rw [List.length_append]; omega, hinv⟩
    · rw [if_neg hc] at hinv
      repeat' (first
          | ((first | apply wpS_stepT | apply wpS_stepDT); intro rr hrr; (simp -implicitDefEqProofs +contextual (maxSteps := 10000000) (disch := first | assumption | with_unfolding_all exact id rfl | omega | decide) only [go_sem, Int.reduceToNat, Int.reduceAdd, Int.reduceSub, Int.reduceMul, Int.reduceNeg, Int.reducePow, Int.reduceLT, Int.reduceLE, Int.reduceEq, Int.reduceNe, Int.reduceBEq, Int.reduceBNe, Int.reduceDiv, Int.reduceMod, Nat.reducePow, ↓reduceIte, reduceCtorEq, Nat.reduceEqDiff, Nat.reduceLT, Nat.reduceLeDiff, Nat.reduceAdd, Nat.reduceSub, Nat.reduceMul, Nat.reduceBEq, Nat.reduceBNe, hr, hlt', eR, Check_spec, hc]); (first | (apply oThen_intro; (first | (refine hrr _ _ (by kernel_rfl) ?_) | (refine hrr _ ?_ ?_) | (refine hrr _ ?_)) <;> clear hrr rr) | (apply oThen_gcond)))
          | (apply wpS_label1)
          | (apply wpS_skip1)
          | (apply wpS_block)
          | ((first | apply wpS_seq_goto | apply wpS_seq_exit | apply wpS_seq_ret); (try simp only [thenS, blockS, ↓reduceIte, Nat.reduceEqDiff]))
          | (apply wpS_seq_cond)
          | (apply wpS_seq_block)
          | (apply wpS_seq_loop)
          | (apply wpS_seq_scope)
          | (apply wpS_seq_seq)
          | ((first | refine wpS_regL rfl ?_ | refine wpS_drawL rfl ?_ | apply wpS_condT); intro rr hrr; (simp -implicitDefEqProofs +contextual (maxSteps := 10000000) (disch := first | assumption | with_unfolding_all exact id rfl | omega | decide) only [go_sem, Int.reduceToNat, Int.reduceAdd, Int.reduceSub, Int.reduceMul, Int.reduceNeg, Int.reducePow, Int.reduceLT, Int.reduceLE, Int.reduceEq, Int.reduceNe, Int.reduceBEq, Int.reduceBNe, Int.reduceDiv, Int.reduceMod, Nat.reducePow, ↓reduceIte, reduceCtorEq, Nat.reduceEqDiff, Nat.reduceLT, Nat.reduceLeDiff, Nat.reduceAdd, Nat.reduceSub, Nat.reduceMul, Nat.reduceBEq, Nat.reduceBNe, hr, hlt', eR, Check_spec, hc]); (first | ((apply oThen_intro; (first | (refine hrr _ _ (by kernel_rfl) ?_) | (refine hrr _ ?_ ?_) | (refine hrr _ ?_)) <;> clear hrr rr); (try dsimp only [thenS, blockS])) | (apply oThen_gcond)))
          | ((first | apply wpS_skip | apply wpS_exit | apply wpS_goto | apply wpS_ret); (try simp only [thenS, blockS, ↓reduceIte, Nat.reduceEqDiff]))
          | (apply oThen_intro; (first | (refine hrr _ _ (by kernel_rfl) ?_) | (refine hrr _ ?_ ?_) | (refine hrr _ ?_)) <;> clear hrr rr)
          | (apply oThen_gcond)
          | (intro hb; first | (exact absurd hb (by decide)) | (simp only [decide_eq_true_eq, decide_eq_false_iff_not, beq_iff_eq, bne_iff_ne, ne_eq, beq_eq_false_iff_ne, bne_eq_false_iff_eq, Bool.not_eq_true', Bool.not_eq_false', Bool.not_eq_eq_eq_not, Bool.not_true, Bool.not_false, Int.not_lt, Int.not_le, gt_iff_lt, ge_iff_le, Bool.or_eq_true, Bool.and_eq_true, Bool.or_eq_false_iff, Decidable.not_not] at hb) | skip))
      refine lpS_goto rfl ?_
      repeat' (first
          | ((first | apply wpS_stepT | apply wpS_stepDT); intro rr hrr; (simp -implicitDefEqProofs +contextual (maxSteps := 10000000) (disch := first | assumption | with_unfolding_all exact id rfl | omega | decide) only [go_sem, Int.reduceToNat, Int.reduceAdd, Int.reduceSub, Int.reduceMul, Int.reduceNeg, Int.reducePow, Int.reduceLT, Int.reduceLE, Int.reduceEq, Int.reduceNe, Int.reduceBEq, Int.reduceBNe, Int.reduceDiv, Int.reduceMod, Nat.reducePow, ↓reduceIte, reduceCtorEq, Nat.reduceEqDiff, Nat.reduceLT, Nat.reduceLeDiff, Nat.reduceAdd, Nat.reduceSub, Nat.reduceMul, Nat.reduceBEq, Nat.reduceBNe]); (first | (apply oThen_intro; (first | (refine hrr _ _ (by kernel_rfl) ?_) | (refine hrr _ ?_ ?_) | (refine hrr _ ?_)) <;> clear hrr rr) | (apply oThen_gcond)))
          | (apply wpS_label1)
          | (apply wpS_skip1)
          | (apply wpS_block)
          | ((first | apply wpS_seq_goto | apply wpS_seq_exit | apply wpS_seq_ret); (try simp only [thenS, blockS, ↓reduceIte, Nat.reduceEqDiff]))
          | (apply wpS_seq_cond)
          | (apply wpS_seq_block)
          | (apply wpS_seq_loop)
          | (apply wpS_seq_scope)
          | (apply wpS_seq_seq)
          | ((first | refine wpS_regL rfl ?_ | refine wpS_drawL rfl ?_ | apply wpS_condT); intro rr hrr; (simp -implicitDefEqProofs +contextual (maxSteps := 10000000) (disch := first | assumption | with_unfolding_all exact id rfl | omega | decide) only [go_sem, Int.reduceToNat, Int.reduceAdd, Int.reduceSub, Int.reduceMul, Int.reduceNeg, Int.reducePow, Int.reduceLT, Int.reduceLE, Int.reduceEq, Int.reduceNe, Int.reduceBEq, Int.reduceBNe, Int.reduceDiv, Int.reduceMod, Nat.reducePow, ↓reduceIte, reduceCtorEq, Nat.reduceEqDiff, Nat.reduceLT, Nat.reduceLeDiff, Nat.reduceAdd, Nat.reduceSub, Nat.reduceMul, Nat.reduceBEq, Nat.reduceBNe]); (first | ((apply oThen_intro; (first | (refine hrr _ _ (by kernel_rfl) ?_) | (refine hrr _ ?_ ?_) | (refine hrr _ ?_)) <;> clear hrr rr); (try dsimp only [thenS, blockS])) | (apply oThen_gcond)))
          | ((first | apply wpS_skip | apply wpS_exit | apply wpS_goto | apply wpS_ret); (try simp only [thenS, blockS, ↓reduceIte, Nat.reduceEqDiff]))
          | (apply oThen_intro; (first | (refine hrr _ _ (by kernel_rfl) ?_) | (refine hrr _ ?_ ?_) | (refine hrr _ ?_)) <;> clear hrr rr)
          | (apply oThen_gcond)
          | (intro hb; first | (exact absurd hb (by decide)) | (simp only [decide_eq_true_eq, decide_eq_false_iff_not, beq_iff_eq, bne_iff_ne, ne_eq, beq_eq_false_iff_ne, bne_eq_false_iff_eq, Bool.not_eq_true', Bool.not_eq_false', Bool.not_eq_eq_eq_not, Bool.not_true, Bool.not_false, Int.not_lt, Int.not_le, gt_iff_lt, ge_iff_le, Bool.or_eq_true, Bool.and_eq_true, Bool.or_eq_false_iff, Decidable.not_not] at hb) | skip))
      apply lpS_ret
      (refine ⟨by simp, ?_⟩; (simp -implicitDefEqProofs +contextual (maxSteps := 10000000) (disch := first | assumption | with_unfolding_all exact id rfl | omega | decide) only [go_sem, Int.reduceToNat, Int.reduceAdd, Int.reduceSub, Int.reduceMul, Int.reduceNeg, Int.reducePow, Int.reduceLT, Int.reduceLE, Int.reduceEq, Int.reduceNe, Int.reduceBEq, Int.reduceBNe, Int.reduceDiv, Int.reduceMod, Nat.reducePow, ↓reduceIte, reduceCtorEq, Nat.reduceEqDiff, Nat.reduceLT, Nat.reduceLeDiff, Nat.reduceAdd, Nat.reduceSub, Nat.reduceMul, Nat.reduceBEq, Nat.reduceBNe, rec_Write]))
      rw [← hinv]; rfl
  · have hge' : ¬ (i : Int) < l.length := by omega
    rw [List.drop_eq_nil_of_le hge, wr] at hinv
    repeat' (first
        | ((first | apply wpS_stepT | apply wpS_stepDT); intro rr hrr; (simp -implicitDefEqProofs +contextual (maxSteps := 10000000) (disch := first | assumption | with_unfolding_all exact id rfl | omega | decide) only [go_sem, Int.reduceToNat, Int.reduceAdd, Int.reduceSub, Int.reduceMul, Int.reduceNeg, Int.reducePow, Int.reduceLT, Int.reduceLE, Int.reduceEq, Int.reduceNe, Int.reduceBEq, Int.reduceBNe, Int.reduceDiv, Int.reduceMod, Nat.reducePow, ↓reduceIte, reduceCtorEq, Nat.reduceEqDiff, Nat.reduceLT, Nat.reduceLeDiff, Nat.reduceAdd, Nat.reduceSub, Nat.reduceMul, Nat.reduceBEq, Nat.reduceBNe, hge']); (first | (apply oThen_intro; (first | (refine hrr _ _ (by kernel_rfl) ?_) | (refine hrr _ ?_ ?_) | (refine hrr _ ?_)) <;> clear hrr rr) | (apply oThen_gcond)))
        | (apply wpS_label1)
        | (apply wpS_skip1)
        | (apply wpS_block)
        | ((first | apply wpS_seq_goto | apply wpS_seq_exit | apply wpS_seq_ret); (try simp only [thenS, blockS, ↓reduceIte, Nat.reduceEqDiff]))
        | (apply wpS_seq_cond)
        | (apply wpS_seq_block)
        | (apply wpS_seq_loop)
        | (apply wpS_seq_scope)
        | (apply wpS_seq_seq)
        | ((first | refine wpS_regL rfl ?_ | refine wpS_drawL rfl ?_ | apply wpS_condT); intro rr hrr; (simp -implicitDefEqProofs +contextual (maxSteps := 10000000) (disch := first | assumption | with_unfolding_all exact id rfl | omega | decide) only [go_sem, Int.reduceToNat, Int.reduceAdd, Int.reduceSub, Int.reduceMul, Int.reduceNeg, Int.reducePow, Int.reduceLT, Int.reduceLE, Int.reduceEq, Int.reduceNe, Int.reduceBEq, Int.reduceBNe, Int.reduceDiv, Int.reduceMod, Nat.reducePow, ↓reduceIte, reduceCtorEq, Nat.reduceEqDiff, Nat.reduceLT, Nat.reduceLeDiff, Nat.reduceAdd, Nat.reduceSub, Nat.reduceMul, Nat.reduceBEq, Nat.reduceBNe, hge']); (first | ((apply oThen_intro; (first | (refine hrr _ _ (by kernel_rfl) ?_) | (refine hrr _ ?_ ?_) | (refine hrr _ ?_)) <;> clear hrr rr); (try dsimp only [thenS, blockS])) | (apply oThen_gcond)))
        | ((first | apply wpS_skip | apply wpS_exit | apply wpS_goto | apply wpS_ret); (try simp only [thenS, blockS, ↓reduceIte, Nat.reduceEqDiff]))
        | (apply oThen_intro; (first | (refine hrr _ _ (by kernel_rfl) ?_) | (refine hrr _ ?_ ?_) | (refine hrr _ ?_)) <;> clear hrr rr)
        | (apply oThen_gcond)
        | (intro hb; first | (exact absurd hb (by decide)) | (simp only [decide_eq_true_eq, decide_eq_false_iff_not, beq_iff_eq, bne_iff_ne, ne_eq, beq_eq_false_iff_ne, bne_eq_false_iff_eq, Bool.not_eq_true', Bool.not_eq_false', Bool.not_eq_eq_eq_not, Bool.not_true, Bool.not_false, Int.not_lt, Int.not_le, gt_iff_lt, ge_iff_le, Bool.or_eq_true, Bool.and_eq_true, Bool.or_eq_false_iff, Decidable.not_not] at hb) | skip))
    apply lpS_ret
    (refine ⟨by simp, ?_⟩; (simp -implicitDefEqProofs +contextual (maxSteps := 10000000) (disch := first | assumption | with_unfolding_all exact id rfl | omega | decide) only [go_sem, Int.reduceToNat, Int.reduceAdd, Int.reduceSub, Int.reduceMul, Int.reduceNeg, Int.reducePow, Int.reduceLT, Int.reduceLE, Int.reduceEq, Int.reduceNe, Int.reduceBEq, Int.reduceBNe, Int.reduceDiv, Int.reduceMod, Nat.reducePow, ↓reduceIte, reduceCtorEq, Nat.reduceEqDiff, Nat.reduceLT, Nat.reduceLeDiff, Nat.reduceAdd, Nat.reduceSub, Nat.reduceMul, Nat.reduceBEq, Nat.reduceBNe, rec_Write]))
    rw [← hinv]
end Go.Pv.Cb
