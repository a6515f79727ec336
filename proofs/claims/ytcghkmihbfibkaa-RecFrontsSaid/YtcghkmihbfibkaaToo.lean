/- What the functions that RecFronts reaches compute: a part. -/
import Derived.Test.YtcghkmihbfibkaaSet
import Derived.Test.YtcghkmihbfibkaaFns
import Derived.KernelRfl
set_option linter.all false
namespace Go.Pv.Cb
open Go.Pv
set_option maxRecDepth 10000
set_option maxHeartbeats 4000000
set_option linter.unusedSimpArgs false
theorem To_spec (ty at_ : Int) (data : List UInt8) (cuts : List Int) (h1 : data.length ≤ 140737488351232) (h2 : cuts.length * 8 ≤ 140737488351232) :
    ansOf E F_law1_To [.a [.p (.int .i64 ty), .p (.sl 1 (ofBytes data)), .p (.sl 1 (eI cuts)), .p (.int .i64 at_)]] = some ([(true, oR ⟨ty, data, cuts, at_⟩)], []) := by
  refine law1_To_ans rfl rfl ?_
  repeat' (first
      | ((first | apply wpS_stepT | apply wpS_stepDT); intro rr hrr; (simp -implicitDefEqProofs +contextual (maxSteps := 10000000) (disch := first | assumption | with_unfolding_all exact id rfl | omega | decide) only [go_sem, Int.reduceToNat, Int.reduceAdd, Int.reduceSub, Int.reduceMul, Int.reduceNeg, Int.reducePow, Int.reduceLT, Int.reduceLE, Int.reduceEq, Int.reduceNe, Int.reduceBEq, Int.reduceBNe, Int.reduceDiv, Int.reduceMod, Nat.reducePow, ↓reduceIte, reduceCtorEq, Nat.reduceEqDiff, Nat.reduceLT, Nat.reduceLeDiff, Nat.reduceAdd, Nat.reduceSub, Nat.reduceMul, Nat.reduceBEq, Nat.reduceBNe]); (first | (apply oThen_intro; (first | (refine hrr _ _ (by kernel_rfl) ?_) | (refine hrr _ ?_ ?_) | (refine hrr _ ?_)) <;> clear hrr rr) | (apply oThen_gcond)))
      | (apply wpS_label1)
      | (apply wpS_skip1)
      | (apply wpS_block)
      | ((first | apply wpS_seq_goto | apply wpS_seq_exit | apply wpS_seq_ret); (try simp only [thenS, blockS, ↓reduceIte, Nat.reduceEqDiff]))
      | (apply wpS_seq_cond)
      | (apply wpS_seq_block)
      | (apply wpS_seq_loop)
      | (apply wpS_seq_scope)
      | (apply wpS_seq_seq)
      | ((first | refine wpS_regL rfl ?_ | refine wpS_drawL rfl ?_ | apply wpS_condT); intro rr hrr; (simp -implicitDefEqProofs +contextual (maxSteps := 10000000) (disch := first | assumption | with_unfolding_all exact id rfl | omega | decide) only [go_sem, Int.reduceToNat, Int.reduceAdd, Int.reduceSub, Int.reduceMul, Int.reduceNeg, Int.reducePow, Int.reduceLT, Int.reduceLE, Int.reduceEq, Int.reduceNe, Int.reduceBEq, Int.reduceBNe, Int.reduceDiv, Int.reduceMod, Nat.reducePow, ↓reduceIte, reduceCtorEq, Nat.reduceEqDiff, Nat.reduceLT, Nat.reduceLeDiff, Nat.reduceAdd, Nat.reduceSub, Nat.reduceMul, Nat.reduceBEq, Nat.reduceBNe]); (first | ((apply oThen_intro; (first | (refine hrr _ _ (by kernel_rfl) ?_) | (refine hrr _ ?_ ?_) | (refine hrr _ ?_)) <;> clear hrr rr); (try dsimp only [thenS, blockS])) | (apply oThen_gcond)))
      | ((first | apply wpS_skip | apply wpS_exit | apply wpS_goto | apply wpS_ret); (try simp only [thenS, blockS, ↓reduceIte, Nat.reduceEqDiff]))
      | (apply oThen_intro; (first | (refine hrr _ _ (by kernel_rfl) ?_) | (refine hrr _ ?_ ?_) | (refine hrr _ ?_)) <;> clear hrr rr)
      | (apply oThen_gcond)
      | (intro hb; first | (exact absurd hb (by decide)) | (simp only [decide_eq_true_eq, decide_eq_false_iff_not, beq_iff_eq, bne_iff_ne, ne_eq, beq_eq_false_iff_ne, bne_eq_false_iff_eq, Bool.not_eq_true', Bool.not_eq_false', Bool.not_eq_eq_eq_not, Bool.not_true, Bool.not_false, Int.not_lt, Int.not_le, gt_iff_lt, ge_iff_le, Bool.or_eq_true, Bool.and_eq_true, Bool.or_eq_false_iff, Decidable.not_not] at hb) | skip))
  (refine ⟨by simp, ?_⟩; (simp -implicitDefEqProofs +contextual (maxSteps := 10000000) (disch := first | assumption | with_unfolding_all exact id rfl | omega | decide) only [go_sem, Int.reduceToNat, Int.reduceAdd, Int.reduceSub, Int.reduceMul, Int.reduceNeg, Int.reducePow, Int.reduceLT, Int.reduceLE, Int.reduceEq, Int.reduceNe, Int.reduceBEq, Int.reduceBNe, Int.reduceDiv, Int.reduceMod, Nat.reducePow, ↓reduceIte, reduceCtorEq, Nat.reduceEqDiff, Nat.reduceLT, Nat.reduceLeDiff, Nat.reduceAdd, Nat.reduceSub, Nat.reduceMul, Nat.reduceBEq, Nat.reduceBNe, law1_To]))
  rfl
theorem ToAll_spec (l : List R) (h1 : l.length ≤ 1000000) (h : ∀ r ∈ l, r.data.length ≤ 140737488351232 ∧ r.cuts.length * 8 ≤ 140737488351232) :
    ansOf E F_law1_ToAll [.w (.p (.sl 4 (l.map eR)))] = some ([(false, [.own 4 (l.map oR)])], []) := by
  refine law1_ToAll_ans rfl rfl ?_
  repeat' (first
      | ((first | apply wpS_stepT | apply wpS_stepDT); intro rr hrr; (simp -implicitDefEqProofs +contextual (maxSteps := 10000000) (disch := first | assumption | with_unfolding_all exact id rfl | omega | decide) only [go_sem, Int.reduceToNat, Int.reduceAdd, Int.reduceSub, Int.reduceMul, Int.reduceNeg, Int.reducePow, Int.reduceLT, Int.reduceLE, Int.reduceEq, Int.reduceNe, Int.reduceBEq, Int.reduceBNe, Int.reduceDiv, Int.reduceMod, Nat.reducePow, ↓reduceIte, reduceCtorEq, Nat.reduceEqDiff, Nat.reduceLT, Nat.reduceLeDiff, Nat.reduceAdd, Nat.reduceSub, Nat.reduceMul, Nat.reduceBEq, Nat.reduceBNe]); (first | (apply oThen_intro; (first | (refine hrr _ _ (by kernel_rfl) ?_) | (refine hrr _ ?_ ?_) | (refine hrr _ ?_)) <;> clear hrr rr) | (apply oThen_gcond)))
      | (apply wpS_label1)
      | (apply wpS_skip1)
      | (apply wpS_block)
      | ((first | apply wpS_seq_goto | apply wpS_seq_exit | apply wpS_seq_ret); (try simp only [thenS, blockS, ↓reduceIte, Nat.reduceEqDiff]))
      | (apply wpS_seq_cond)
      | (apply wpS_seq_block)
      | (apply wpS_seq_loop)
      | (apply wpS_seq_scope)
      | (apply wpS_seq_seq)
      | ((first | refine wpS_regL rfl ?_ | refine wpS_drawL rfl ?_ | apply wpS_condT); intro rr hrr; (simp -implicitDefEqProofs +contextual (maxSteps := 10000000) (disch := first | assumption | with_unfolding_all exact id rfl | omega | decide) only [go_sem, Int.reduceToNat, Int.reduceAdd, Int.reduceSub, Int.reduceMul, Int.reduceNeg, Int.reducePow, Int.reduceLT, Int.reduceLE, Int.reduceEq, Int.reduceNe, Int.reduceBEq, Int.reduceBNe, Int.reduceDiv, Int.reduceMod, Nat.reducePow, ↓reduceIte, reduceCtorEq, Nat.reduceEqDiff, Nat.reduceLT, Nat.reduceLeDiff, Nat.reduceAdd, Nat.reduceSub, Nat.reduceMul, Nat.reduceBEq, Nat.reduceBNe]); (first | ((apply oThen_intro; (first | (refine hrr _ _ (by kernel_rfl) ?_) | (refine hrr _ ?_ ?_) | (refine hrr _ ?_)) <;> clear hrr rr); (try dsimp only [thenS, blockS])) | (apply oThen_gcond)))
      | ((first | apply wpS_skip | apply wpS_exit | apply wpS_goto | apply wpS_ret); (try simp only [thenS, blockS, ↓reduceIte, Nat.reduceEqDiff]))
      | (apply oThen_intro; (first | (refine hrr _ _ (by kernel_rfl) ?_) | (refine hrr _ ?_ ?_) | (refine hrr _ ?_)) <;> clear hrr rr)
      | (apply oThen_gcond)
      | (intro hb; first | (exact absurd hb (by decide)) | (simp only [decide_eq_true_eq, decide_eq_false_iff_not, beq_iff_eq, bne_iff_ne, ne_eq, beq_eq_false_iff_ne, bne_eq_false_iff_eq, Bool.not_eq_true', Bool.not_eq_false', Bool.not_eq_eq_eq_not, Bool.not_true, Bool.not_false, Int.not_lt, Int.not_le, gt_iff_lt, ge_iff_le, Bool.or_eq_true, Bool.and_eq_true, Bool.or_eq_false_iff, Decidable.not_not] at hb) | skip))
  refine wpS_loop_inv (fun i : Nat => [(0, .w (.p (.sl 4 (l.map eR)))), (3, .w (.own 4 ((l.take i).map oR))), (4, .w (.p (.int .i64 i)))]) (fun i => i ≤ l.length) (fun i => l.length - i) 0 rfl (by omega) ?_
  rintro i hi ih
  rcases Nat.lt_or_ge i l.length with hlt | hge
  · obtain ⟨r, hr⟩ := get_lt hlt
    have hlt' : (i : Int) < l.length := by omega
    obtain ⟨hr1, hr2⟩ := h r (mem_get hr)
    have hz : ((l.take i).map oR).length = i := by simp; omega
    repeat' (first
        | ((first | apply wpS_stepT | apply wpS_stepDT); intro rr hrr; (simp -implicitDefEqProofs +contextual (maxSteps := 10000000) (disch := first | assumption | with_unfolding_all exact id rfl | omega | decide) only [go_sem, Int.reduceToNat, Int.reduceAdd, Int.reduceSub, Int.reduceMul, Int.reduceNeg, Int.reducePow, Int.reduceLT, Int.reduceLE, Int.reduceEq, Int.reduceNe, Int.reduceBEq, Int.reduceBNe, Int.reduceDiv, Int.reduceMod, Nat.reducePow, ↓reduceIte, reduceCtorEq, Nat.reduceEqDiff, Nat.reduceLT, Nat.reduceLeDiff, Nat.reduceAdd, Nat.reduceSub, Nat.reduceMul, Nat.reduceBEq, Nat.reduceBNe, hr, eR, oR, hlt', To_spec, hz]); (first | (apply oThen_intro; (first | (refine hrr _ _ (by kernel_rfl) ?_) | (refine hrr _ ?_ ?_) | (refine hrr _ ?_)) <;> clear hrr rr) | (apply oThen_gcond)))
        | (apply wpS_label1)
        | (apply wpS_skip1)
        | (apply wpS_block)
        | ((first | apply wpS_seq_goto | apply wpS_seq_exit | apply wpS_seq_ret); (try simp only [thenS, blockS, ↓reduceIte, Nat.reduceEqDiff]))
        | (apply wpS_seq_cond)
        | (apply wpS_seq_block)
        | (apply wpS_seq_loop)
        | (apply wpS_seq_scope)
        | (apply wpS_seq_seq)
        | ((first | refine wpS_regL rfl ?_ | refine wpS_drawL rfl ?_ | apply wpS_condT); intro rr hrr; (simp -implicitDefEqProofs +contextual (maxSteps := 10000000) (disch := first | assumption | with_unfolding_all exact id rfl | omega | decide) only [go_sem, Int.reduceToNat, Int.reduceAdd, Int.reduceSub, Int.reduceMul, Int.reduceNeg, Int.reducePow, Int.reduceLT, Int.reduceLE, Int.reduceEq, Int.reduceNe, Int.reduceBEq, Int.reduceBNe, Int.reduceDiv, Int.reduceMod, Nat.reducePow, ↓reduceIte, reduceCtorEq, Nat.reduceEqDiff, Nat.reduceLT, Nat.reduceLeDiff, Nat.reduceAdd, Nat.reduceSub, Nat.reduceMul, Nat.reduceBEq, Nat.reduceBNe, hr, eR, oR, hlt', To_spec, hz]); (first | ((apply oThen_intro; (first | (refine hrr _ _ (by kernel_rfl) ?_) | (refine hrr _ ?_ ?_) | (refine hrr _ ?_)) <;> clear hrr rr); (try dsimp only [thenS, blockS])) | (apply oThen_gcond)))
        | ((first | apply wpS_skip | apply wpS_exit | apply wpS_goto | apply wpS_ret); (try simp only [thenS, blockS, ↓reduceIte, Nat.reduceEqDiff]))
        | (apply oThen_intro; (first | (refine hrr _ _ (by kernel_rfl) ?_) | (refine hrr _ ?_ ?_) | (refine hrr _ ?_)) <;> clear hrr rr)
        | (apply oThen_gcond)
        | (intro hb; first | (exact absurd hb (by decide)) | (simp only [decide_eq_true_eq, decide_eq_false_iff_not, beq_iff_eq, bne_iff_ne, ne_eq, beq_eq_false_iff_ne, bne_eq_false_iff_eq, Bool.not_eq_true', Bool.not_eq_false', Bool.not_eq_eq_eq_not, Bool.not_true, Bool.not_false, Int.not_lt, Int.not_le, gt_iff_lt, ge_iff_le, Bool.or_eq_true, Bool.and_eq_true, Bool.or_eq_false_iff, Decidable.not_not] at hb) | skip))
    have := ih (i + 1) (by omega) (by omega)
    rw [take_map1 oR hr] at this
    exact this
  · have hge' : ¬ (i : Int) < l.length := by omega
    repeat' (first
        | ((first | apply wpS_stepT | apply wpS_stepDT); intro rr hrr; (simp -implicitDefEqProofs +contextual (maxSteps := 10000000) (disch := first | assumption | with_unfolding_all exact id rfl | omega | decide) only [go_sem, Int.reduceToNat, Int.reduceAdd, Int.reduceSub, Int.reduceMul, Int.reduceNeg, Int.reducePow, Int.reduceLT, Int.reduceLE, Int.reduceEq, Int.reduceNe, Int.reduceBEq, Int.reduceBNe, Int.reduceDiv, Int.reduceMod, Nat.reducePow, ↓reduceIte, reduceCtorEq, Nat.reduceEqDiff, Nat.reduceLT, Nat.reduceLeDiff, Nat.reduceAdd, Nat.reduceSub, Nat.reduceMul, Nat.reduceBEq, Nat.reduceBNe, hge']); (first | (apply oThen_intro; (first | (refine hrr _ _ (by kernel_rfl) ?_) | (refine hrr _ ?_ ?_) | (refine hrr _ ?_)) <;> clear hrr rr) | (apply oThen_gcond)))
        | (apply wpS_label1)
        | (apply wpS_skip1)
        | (apply wpS_block)
        | ((first | apply wpS_seq_goto | apply wpS_seq_exit | apply wpS_seq_ret); (try simp only [thenS, blockS, ↓reduceIte, Nat.reduceEqDiff]))
        | (apply wpS_seq_cond)
        | (apply wpS_seq_block)
        | (apply wpS_seq_loop)
        | (apply wpS_seq_scope)
        | (apply wpS_seq_seq)
        | ((first | refine wpS_regL rfl ?_ | refine wpS_drawL rfl ?_ | apply wpS_condT); intro rr hrr; (simp -implicitDefEqProofs +contextual (maxSteps := 10000000) (disch := first | assumption | with_unfolding_all exact id rfl | omega | decide) only [go_sem, Int.reduceToNat, Int.reduceAdd, Int.reduceSub, Int.reduceMul, Int.reduceNeg, Int.reducePow, Int.reduceLT, Int.reduceLE, Int.reduceEq, Int.reduceNe, Int.reduceBEq, Int.reduceBNe, Int.reduceDiv, Int.reduceMod, Nat.reducePow, ↓reduceIte, reduceCtorEq, Nat.reduceEqDiff, Nat.reduceLT, Nat.reduceLeDiff, Nat.reduceAdd, Nat.reduceSub, Nat.reduceMul, Nat.reduceBEq, Nat.reduceBNe, hge']); (first | ((apply oThen_intro; (first | (refine hrr _ _ (by kernel_rfl) ?_) | (refine hrr _ ?_ ?_) | (refine hrr _ ?_)) <;> clear hrr rr); (try dsimp only [thenS, blockS])) | (apply oThen_gcond)))
        | ((first | apply wpS_skip | apply wpS_exit | apply wpS_goto | apply wpS_ret); (try simp only [thenS, blockS, ↓reduceIte, Nat.reduceEqDiff]))
        | (apply oThen_intro; (first | (refine hrr _ _ (by kernel_rfl) ?_) | (refine hrr _ ?_ ?_) | (refine hrr _ ?_)) <;> clear hrr rr)
        | (apply oThen_gcond)
        | (intro hb; first | (exact absurd hb (by decide)) | (simp only [decide_eq_true_eq, decide_eq_false_iff_not, beq_iff_eq, bne_iff_ne, ne_eq, beq_eq_false_iff_ne, bne_eq_false_iff_eq, Bool.not_eq_true', Bool.not_eq_false', Bool.not_eq_eq_eq_not, Bool.not_true, Bool.not_false, Int.not_lt, Int.not_le, gt_iff_lt, ge_iff_le, Bool.or_eq_true, Bool.and_eq_true, Bool.or_eq_false_iff, Decidable.not_not] at hb) | skip))
    (refine ⟨by simp, ?_⟩; (simp -implicitDefEqProofs +contextual (maxSteps := 10000000) (disch := first | assumption | with_unfolding_all exact id rfl | omega | decide) only [go_sem, Int.reduceToNat, Int.reduceAdd, Int.reduceSub, Int.reduceMul, Int.reduceNeg, Int.reducePow, Int.reduceLT, Int.reduceLE, Int.reduceEq, Int.reduceNe, Int.reduceBEq, Int.reduceBNe, Int.reduceDiv, Int.reduceMod, Nat.reducePow, ↓reduceIte, reduceCtorEq, Nat.reduceEqDiff, Nat.reduceLT, Nat.reduceLeDiff, Nat.reduceAdd, Nat.reduceSub, Nat.reduceMul, Nat.reduceBEq, Nat.reduceBNe, law1_ToAll]))
    rw [List.take_of_length_le (by omega)]
end Go.Pv.Cb
