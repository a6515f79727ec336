/- What the functions that StrCuts reaches compute: a part. -/
import Derived.Test.YtcghkmihbfibkaaDoorStrE1
import Derived.Test.YtcghkmihbfibkaaDoorStrE2
import Derived.Test.YtcghkmihbfibkaaDoorStrE3
import Derived.Test.YtcghkmihbfibkaaDoorStrE4
set_option linter.all false
namespace Go.Pv.Cb
open Go.Pv
set_option maxRecDepth 10000
set_option maxHeartbeats 4000000
set_option linter.unusedSimpArgs false
theorem Runes_spec (l : List Nat) (t : List UInt8) (hg : goodR l) (ht : t = [] ∨ (t ≠ [] ∧ Go.Lib.decodeL t = (65533, 1))) (hs : (encs l ++ t).length ≤ 1000000) :
    ansOf E F_ref7_Runes [.w (.p (.str (encs l ++ t)))] = some ([(false, [.own 1 (plains (eI (if t = [] then ofN l else [])))]), (false, [.p (.bool (decide (t = [])))])], []) := by
  obtain ⟨s, hse⟩ : ∃ s, s = encs l ++ t := ⟨_, rfl⟩
  rw [← hse] at hs ⊢
  refine ref7_Runes_ans rfl rfl ?_
  repeat' (first | (apply wpS_label1) | (apply wpS_skip1) | (apply wpS_block) | ((first | apply wpS_seq_goto | apply wpS_seq_exit | apply wpS_seq_ret); (try simp only [thenS, blockS, ↓reduceIte, Nat.reduceEqDiff])) | (apply wpS_seq_cond) | (apply wpS_seq_block) | (apply wpS_seq_loop) | (apply wpS_seq_scope) | (apply wpS_seq_seq) | ((first | apply wpS_stepT | apply wpS_stepDT | refine wpS_regL rfl ?_ | refine wpS_drawL rfl ?_ | apply wpS_condT); intro rr hrr; (simp -implicitDefEqProofs +contextual (maxSteps := 10000000) (disch := first | assumption | with_unfolding_all exact id rfl | omega | decide) only [go_sem, Int.reduceToNat, Int.reduceAdd, Int.reduceSub, Int.reduceMul, Int.reduceNeg, Int.reducePow, Int.reduceLT, Int.reduceLE, Int.reduceEq, Int.reduceNe, Int.reduceBEq, Int.reduceBNe, Int.reduceDiv, Int.reduceMod, Nat.reducePow, ↓reduceIte, reduceCtorEq, Nat.reduceEqDiff, Nat.reduceLT, Nat.reduceLeDiff, Nat.reduceAdd, Nat.reduceSub, Nat.reduceMul, Nat.reduceBEq, Nat.reduceBNe]); (first | ((with_reducible apply oThen_intro; (first | (refine hrr _ _ (by kernel_rfl) ?_) | (refine hrr _ ?_ ?_) | (refine hrr _ ?_)) <;> clear hrr rr); (try dsimp only [thenS, blockS])) | (with_reducible apply oThen_gcond))) | ((first | apply wpS_skip | apply wpS_exit | apply wpS_goto | apply wpS_ret); (try simp only [thenS, blockS, ↓reduceIte, Nat.reduceEqDiff])) | (with_reducible apply oThen_intro; (first | (refine hrr _ _ (by kernel_rfl) ?_) | (refine hrr _ ?_ ?_) | (refine hrr _ ?_)) <;> clear hrr rr) | (with_reducible apply oThen_gcond) | (intro hb; first | (exact absurd hb (by decide)) | (simp only [decide_eq_true_eq, decide_eq_false_iff_not, beq_iff_eq, bne_iff_ne, ne_eq, beq_eq_false_iff_ne, bne_eq_false_iff_eq, Bool.not_eq_true', Bool.not_eq_false', Bool.not_eq_eq_eq_not, Bool.not_true, Bool.not_false, Int.not_lt, Int.not_le, gt_iff_lt, ge_iff_le, Bool.or_eq_true, Bool.and_eq_true, Bool.or_eq_false_iff, Decidable.not_not] at hb) | skip))
  refine wpS_loop_inv (fun x : List Nat × List Nat => [(0, .w (.p (.str s))), (4, .w (.own 1 (plains (eI (ofN x.1))))), (5, .w (.p (.int .i64 (encs x.1).length)))]) (fun x => l = x.1 ++ x.2) (fun x => x.2.length) ([], l) rfl rfl ?_
  rintro ⟨a, b⟩ hl ih
  dsimp only at hl ih ⊢
  have hsl := congrArg List.length hse
  rw [List.length_append] at hsl
  have hol := ofN_len a
  have hae := encs_len_ge a
  cases b with
  | nil =>
    rw [List.append_nil] at hl
    subst hl
    rcases ht with rfl | ⟨hne, hd⟩
    · have hlt : ¬ ((encs l).length : Int) < s.length := by simp at hsl; omega
      repeat' (first | (apply wpS_label1) | (apply wpS_skip1) | (apply wpS_block) | ((first | apply wpS_seq_goto | apply wpS_seq_exit | apply wpS_seq_ret); (try simp only [thenS, blockS, ↓reduceIte, Nat.reduceEqDiff])) | (apply wpS_seq_cond) | (apply wpS_seq_block) | (apply wpS_seq_loop) | (apply wpS_seq_scope) | (apply wpS_seq_seq) | ((first | apply wpS_stepT | apply wpS_stepDT | refine wpS_regL rfl ?_ | refine wpS_drawL rfl ?_ | apply wpS_condT); intro rr hrr; (simp -implicitDefEqProofs +contextual (maxSteps := 10000000) (disch := first | assumption | with_unfolding_all exact id rfl | omega | decide) only [go_sem, Int.reduceToNat, Int.reduceAdd, Int.reduceSub, Int.reduceMul, Int.reduceNeg, Int.reducePow, Int.reduceLT, Int.reduceLE, Int.reduceEq, Int.reduceNe, Int.reduceBEq, Int.reduceBNe, Int.reduceDiv, Int.reduceMod, Nat.reducePow, ↓reduceIte, reduceCtorEq, Nat.reduceEqDiff, Nat.reduceLT, Nat.reduceLeDiff, Nat.reduceAdd, Nat.reduceSub, Nat.reduceMul, Nat.reduceBEq, Nat.reduceBNe, hlt]); (first | ((with_reducible apply oThen_intro; (first | (refine hrr _ _ (by kernel_rfl) ?_) | (refine hrr _ ?_ ?_) | (refine hrr _ ?_)) <;> clear hrr rr); (try dsimp only [thenS, blockS])) | (with_reducible apply oThen_gcond))) | ((first | apply wpS_skip | apply wpS_exit | apply wpS_goto | apply wpS_ret); (try simp only [thenS, blockS, ↓reduceIte, Nat.reduceEqDiff])) | (with_reducible apply oThen_intro; (first | (refine hrr _ _ (by kernel_rfl) ?_) | (refine hrr _ ?_ ?_) | (refine hrr _ ?_)) <;> clear hrr rr) | (with_reducible apply oThen_gcond) | (intro hb; first | (exact absurd hb (by decide)) | (simp only [decide_eq_true_eq, decide_eq_false_iff_not, beq_iff_eq, bne_iff_ne, ne_eq, beq_eq_false_iff_ne, bne_eq_false_iff_eq, Bool.not_eq_true', Bool.not_eq_false', Bool.not_eq_eq_eq_not, Bool.not_true, Bool.not_false, Int.not_lt, Int.not_le, gt_iff_lt, ge_iff_le, Bool.or_eq_true, Bool.and_eq_true, Bool.or_eq_false_iff, Decidable.not_not] at hb) | skip))
      (refine ⟨by simp, ?_⟩; (simp -implicitDefEqProofs +contextual (maxSteps := 10000000) (disch := first | assumption | with_unfolding_all exact id rfl | omega | decide) only [go_sem, Int.reduceToNat, Int.reduceAdd, Int.reduceSub, Int.reduceMul, Int.reduceNeg, Int.reducePow, Int.reduceLT, Int.reduceLE, Int.reduceEq, Int.reduceNe, Int.reduceBEq, Int.reduceBNe, Int.reduceDiv, Int.reduceMod, Nat.reducePow, ↓reduceIte, reduceCtorEq, Nat.reduceEqDiff, Nat.reduceLT, Nat.reduceLeDiff, Nat.reduceAdd, Nat.reduceSub, Nat.reduceMul, Nat.reduceBEq, Nat.reduceBNe, ref7_Runes]))
      all_goals simp
    · rw [if_neg hne, decide_eq_false hne]
      refine Runes_cb s (encs l) t (ofN l) hse hs hne hd (by omega) _ _ _ ?_ ?_
      · (refine ⟨by simp, ?_⟩; (simp -implicitDefEqProofs +contextual (maxSteps := 10000000) (disch := first | assumption | with_unfolding_all exact id rfl | omega | decide) only [go_sem, Int.reduceToNat, Int.reduceAdd, Int.reduceSub, Int.reduceMul, Int.reduceNeg, Int.reducePow, Int.reduceLT, Int.reduceLE, Int.reduceEq, Int.reduceNe, Int.reduceBEq, Int.reduceBNe, Int.reduceDiv, Int.reduceMod, Nat.reducePow, ↓reduceIte, reduceCtorEq, Nat.reduceEqDiff, Nat.reduceLT, Nat.reduceLeDiff, Nat.reduceAdd, Nat.reduceSub, Nat.reduceMul, Nat.reduceBEq, Nat.reduceBNe, ref7_Runes]))
        rfl
      · (refine ⟨by simp, ?_⟩; (simp -implicitDefEqProofs +contextual (maxSteps := 10000000) (disch := first | assumption | with_unfolding_all exact id rfl | omega | decide) only [go_sem, Int.reduceToNat, Int.reduceAdd, Int.reduceSub, Int.reduceMul, Int.reduceNeg, Int.reducePow, Int.reduceLT, Int.reduceLE, Int.reduceEq, Int.reduceNe, Int.reduceBEq, Int.reduceBNe, Int.reduceDiv, Int.reduceMod, Nat.reducePow, ↓reduceIte, reduceCtorEq, Nat.reduceEqDiff, Nat.reduceLT, Nat.reduceLeDiff, Nat.reduceAdd, Nat.reduceSub, Nat.reduceMul, Nat.reduceBEq, Nat.reduceBNe, ref7_Runes]))
        rfl
  | cons v b =>
    have hv : okR v := goodR_mid (hl ▸ hg)
    have hm : s = encs a ++ (enc1 v ++ (encs b ++ t)) := by rw [hse, hl, encs_mid, List.append_assoc, List.append_assoc]
    have hml := congrArg List.length hm
    rw [List.length_append, List.length_append] at hml
    have hnx := encs_snoc a v
    have hnl := congrArg List.length hnx
    rw [List.length_append] at hnl
    have hih := ih (a ++ [v], b) (by simp) (by simp [hl])
    dsimp only at hih
    rw [hnl, ofN_snoc] at hih
    clear ih
    by_cases h1 : v < 128
    · exact Runes_c1 s _ _ _ v hv h1 hm hs (by omega) _ _ hih
    by_cases h2 : v < 2048
    · exact Runes_c2 s _ _ _ v hv h1 h2 hm hs (by omega) _ _ hih
    by_cases h3 : v < 65536
    · exact Runes_c3 s _ _ _ v hv h1 h2 h3 hm hs (by omega) _ _ hih
    · exact Runes_c4 s _ _ _ v hv h1 h2 h3 hm hs (by omega) _ _ hih
end Go.Pv.Cb
