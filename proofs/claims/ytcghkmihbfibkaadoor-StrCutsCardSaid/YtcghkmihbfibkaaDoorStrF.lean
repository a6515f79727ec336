/- What the functions that StrCuts reaches compute: a part. -/
import Derived.Test.YtcghkmihbfibkaaDoorStrD
set_option linter.all false
namespace Go.Pv.Cb
open Go.Pv
set_option maxRecDepth 10000
set_option maxHeartbeats 4000000
set_option linter.unusedSimpArgs false
theorem text_good (l : List Nat) (hg : goodR l) (hs : (encs l).length ≤ 1000000) :
    ansOf E F_str_text [.w (.p (.sl 1 (eI (units l))))] = some ([(false, [.p (.str (encs l))]), (false, [.p (.bool true)])], []) := by
  refine str_text_ans rfl rfl ?_
  repeat' (first | (apply wpS_label1) | (apply wpS_skip1) | (apply wpS_block) | ((first | apply wpS_seq_goto | apply wpS_seq_exit | apply wpS_seq_ret); (try simp only [thenS, blockS, ↓reduceIte, Nat.reduceEqDiff])) | (apply wpS_seq_cond) | (apply wpS_seq_block) | (apply wpS_seq_loop) | (apply wpS_seq_scope) | (apply wpS_seq_seq) | ((first | apply wpS_stepT | apply wpS_stepDT | refine wpS_regL rfl ?_ | refine wpS_drawL rfl ?_ | apply wpS_condT); intro rr hrr; (simp -implicitDefEqProofs +contextual (maxSteps := 10000000) (disch := first | assumption | with_unfolding_all exact id rfl | omega | decide) only [go_sem, Int.reduceToNat, Int.reduceAdd, Int.reduceSub, Int.reduceMul, Int.reduceNeg, Int.reducePow, Int.reduceLT, Int.reduceLE, Int.reduceEq, Int.reduceNe, Int.reduceBEq, Int.reduceBNe, Int.reduceDiv, Int.reduceMod, Nat.reducePow, ↓reduceIte, reduceCtorEq, Nat.reduceEqDiff, Nat.reduceLT, Nat.reduceLeDiff, Nat.reduceAdd, Nat.reduceSub, Nat.reduceMul, Nat.reduceBEq, Nat.reduceBNe]); (first | ((with_reducible apply oThen_intro; (first | (refine hrr _ _ (by kernel_rfl) ?_) | (refine hrr _ ?_ ?_) | (refine hrr _ ?_)) <;> clear hrr rr); (try dsimp only [thenS, blockS])) | (with_reducible apply oThen_gcond))) | ((first | apply wpS_skip | apply wpS_exit | apply wpS_goto | apply wpS_ret); (try simp only [thenS, blockS, ↓reduceIte, Nat.reduceEqDiff])) | (with_reducible apply oThen_intro; (first | (refine hrr _ _ (by kernel_rfl) ?_) | (refine hrr _ ?_ ?_) | (refine hrr _ ?_)) <;> clear hrr rr) | (with_reducible apply oThen_gcond) | (intro hb; first | (exact absurd hb (by decide)) | (simp only [decide_eq_true_eq, decide_eq_false_iff_not, beq_iff_eq, bne_iff_ne, ne_eq, beq_eq_false_iff_ne, bne_eq_false_iff_eq, Bool.not_eq_true', Bool.not_eq_false', Bool.not_eq_eq_eq_not, Bool.not_true, Bool.not_false, Int.not_lt, Int.not_le, gt_iff_lt, ge_iff_le, Bool.or_eq_true, Bool.and_eq_true, Bool.or_eq_false_iff, Decidable.not_not] at hb) | skip))
  refine wpS_loop_inv (fun x : List Nat × List Nat => [(0, .w (.p (.sl 1 (eI (units l))))), (2, .w (.p (.str (encs x.1)))), (4, .w (.p (.int .i64 (units x.1).length)))]) (fun x => l = x.1 ++ x.2) (fun x => x.2.length) ([], l) rfl rfl ?_
  rintro ⟨a, b⟩ hl ih
  dsimp only at hl ih ⊢
  cases b with
  | nil =>
    rw [List.append_nil] at hl
    subst hl
    have hge : ¬ ((units l).length : Int) < (units l).length := by omega
    repeat' (first | (apply wpS_label1) | (apply wpS_skip1) | (apply wpS_block) | ((first | apply wpS_seq_goto | apply wpS_seq_exit | apply wpS_seq_ret); (try simp only [thenS, blockS, ↓reduceIte, Nat.reduceEqDiff])) | (apply wpS_seq_cond) | (apply wpS_seq_block) | (apply wpS_seq_loop) | (apply wpS_seq_scope) | (apply wpS_seq_seq) | ((first | apply wpS_stepT | apply wpS_stepDT | refine wpS_regL rfl ?_ | refine wpS_drawL rfl ?_ | apply wpS_condT); intro rr hrr; (simp -implicitDefEqProofs +contextual (maxSteps := 10000000) (disch := first | assumption | with_unfolding_all exact id rfl | omega | decide) only [go_sem, Int.reduceToNat, Int.reduceAdd, Int.reduceSub, Int.reduceMul, Int.reduceNeg, Int.reducePow, Int.reduceLT, Int.reduceLE, Int.reduceEq, Int.reduceNe, Int.reduceBEq, Int.reduceBNe, Int.reduceDiv, Int.reduceMod, Nat.reducePow, ↓reduceIte, reduceCtorEq, Nat.reduceEqDiff, Nat.reduceLT, Nat.reduceLeDiff, Nat.reduceAdd, Nat.reduceSub, Nat.reduceMul, Nat.reduceBEq, Nat.reduceBNe, hge]); (first | ((with_reducible apply oThen_intro; (first | (refine hrr _ _ (by kernel_rfl) ?_) | (refine hrr _ ?_ ?_) | (refine hrr _ ?_)) <;> clear hrr rr); (try dsimp only [thenS, blockS])) | (with_reducible apply oThen_gcond))) | ((first | apply wpS_skip | apply wpS_exit | apply wpS_goto | apply wpS_ret); (try simp only [thenS, blockS, ↓reduceIte, Nat.reduceEqDiff])) | (with_reducible apply oThen_intro; (first | (refine hrr _ _ (by kernel_rfl) ?_) | (refine hrr _ ?_ ?_) | (refine hrr _ ?_)) <;> clear hrr rr) | (with_reducible apply oThen_gcond) | (intro hb; first | (exact absurd hb (by decide)) | (simp only [decide_eq_true_eq, decide_eq_false_iff_not, beq_iff_eq, bne_iff_ne, ne_eq, beq_eq_false_iff_ne, bne_eq_false_iff_eq, Bool.not_eq_true', Bool.not_eq_false', Bool.not_eq_eq_eq_not, Bool.not_true, Bool.not_false, Int.not_lt, Int.not_le, gt_iff_lt, ge_iff_le, Bool.or_eq_true, Bool.and_eq_true, Bool.or_eq_false_iff, Decidable.not_not] at hb) | skip))
    (refine ⟨by simp, ?_⟩; (simp -implicitDefEqProofs +contextual (maxSteps := 10000000) (disch := first | assumption | with_unfolding_all exact id rfl | omega | decide) only [go_sem, Int.reduceToNat, Int.reduceAdd, Int.reduceSub, Int.reduceMul, Int.reduceNeg, Int.reducePow, Int.reduceLT, Int.reduceLE, Int.reduceEq, Int.reduceNe, Int.reduceBEq, Int.reduceBNe, Int.reduceDiv, Int.reduceMod, Nat.reducePow, ↓reduceIte, reduceCtorEq, Nat.reduceEqDiff, Nat.reduceLT, Nat.reduceLeDiff, Nat.reduceAdd, Nat.reduceSub, Nat.reduceMul, Nat.reduceBEq, Nat.reduceBNe, str_text]))
  | cons v b =>
    obtain ⟨hv, _, _, hp, hle⟩ := at_mid hl hg
    have hE := enc1_eq hv
    have hih := ih (a ++ [v], b) (by simp) (by simp [hl])
    dsimp only at hih
    rw [encs_snoc, units_snoc, List.length_append] at hih
    clear ih
    have hm := units_mid a b v
    rw [← hl] at hm
    have hml := congrArg List.length hm
    rw [List.length_append, List.length_append] at hml
    have hul := units_enc (a ++ [v])
    rw [units_snoc, List.length_append] at hul
    unfold okR at hv
    have hcap : (encs a).length + (enc1 v).length ≤ 140737488351232 := by omega
    by_cases h1 : v < 65536
    · have e : u16 v = [(v : Int)] := by rw [u16, if_pos h1]
      rw [e] at hm hml hul hih
      have U0 : (units l)[(units a).length]? = some (v : Int) := by rw [hm]; simp
      have hlt : ((units a).length : Int) < (units l).length := by rw [List.length_singleton] at hml; omega
      repeat' (first | (apply wpS_label1) | (apply wpS_skip1) | (apply wpS_block) | ((first | apply wpS_seq_goto | apply wpS_seq_exit | apply wpS_seq_ret); (try simp only [thenS, blockS, ↓reduceIte, Nat.reduceEqDiff])) | (apply wpS_seq_cond) | (apply wpS_seq_block) | (apply wpS_seq_loop) | (apply wpS_seq_scope) | (apply wpS_seq_seq) | ((first | apply wpS_stepT | apply wpS_stepDT | refine wpS_regL rfl ?_ | refine wpS_drawL rfl ?_ | apply wpS_condT); intro rr hrr; (simp -implicitDefEqProofs +contextual (maxSteps := 10000000) (disch := first | assumption | with_unfolding_all exact id rfl | omega | decide) only [go_sem, Int.reduceToNat, Int.reduceAdd, Int.reduceSub, Int.reduceMul, Int.reduceNeg, Int.reducePow, Int.reduceLT, Int.reduceLE, Int.reduceEq, Int.reduceNe, Int.reduceBEq, Int.reduceBNe, Int.reduceDiv, Int.reduceMod, Nat.reducePow, ↓reduceIte, reduceCtorEq, Nat.reduceEqDiff, Nat.reduceLT, Nat.reduceLeDiff, Nat.reduceAdd, Nat.reduceSub, Nat.reduceMul, Nat.reduceBEq, Nat.reduceBNe, hcap, hlt, U0, hE]); (first | ((with_reducible apply oThen_intro; (first | (refine hrr _ _ (by kernel_rfl) ?_) | (refine hrr _ ?_ ?_) | (refine hrr _ ?_)) <;> clear hrr rr); (try dsimp only [thenS, blockS])) | (with_reducible apply oThen_gcond))) | ((first | apply wpS_skip | apply wpS_exit | apply wpS_goto | apply wpS_ret); (try simp only [thenS, blockS, ↓reduceIte, Nat.reduceEqDiff])) | (with_reducible apply oThen_intro; (first | (refine hrr _ _ (by kernel_rfl) ?_) | (refine hrr _ ?_ ?_) | (refine hrr _ ?_)) <;> clear hrr rr) | (with_reducible apply oThen_gcond) | (intro hb; first | (exact absurd hb (by decide)) | (simp only [decide_eq_true_eq, decide_eq_false_iff_not, beq_iff_eq, bne_iff_ne, ne_eq, beq_eq_false_iff_ne, bne_eq_false_iff_eq, Bool.not_eq_true', Bool.not_eq_false', Bool.not_eq_eq_eq_not, Bool.not_true, Bool.not_false, Int.not_lt, Int.not_le, gt_iff_lt, ge_iff_le, Bool.or_eq_true, Bool.and_eq_true, Bool.or_eq_false_iff, Decidable.not_not] at hb) | skip))
      all_goals first | (exfalso; omega) | skip
      all_goals exact WpS.keepE [0, 2, 4] hih rfl
    · have e : u16 v = [55296 + ((v : Int) - 65536) / 1024, 56320 + ((v : Int) - 65536) % 1024] := by rw [u16, if_neg h1]
      obtain ⟨u0, hu0⟩ : ∃ u : Int, 55296 + ((v : Int) - 65536) / 1024 = u := ⟨_, rfl⟩
      obtain ⟨u1, hu1⟩ : ∃ u : Int, 56320 + ((v : Int) - 65536) % 1024 = u := ⟨_, rfl⟩
      rw [hu0, hu1] at e
      rw [e] at hm hml hul hih
      have U0 : (units l)[(units a).length]? = some u0 := by rw [hm]; simp
      have U1 : (units l)[(units a).length + 1]? = some u1 := by rw [hm, List.getElem?_append_right (by omega), Nat.add_sub_cancel_left]; rfl
      simp only [List.length_cons, List.length_nil, Nat.zero_add] at hml hul hih
      have hlt : ((units a).length : Int) < (units l).length := by omega
      have c1 : ¬ u0 < 55296 := by omega
      have c2 : ¬ 57343 < u0 := by omega
      have c3 : ¬ 56320 ≤ u0 := by omega
      have c4 : ¬ ((units a).length : Int) + 1 = (units l).length := by omega
      have c4' : ¬ (units a).length + 1 = (units l).length := by omega
      have c5 : ¬ u1 < 56320 := by omega
      have c6 : ¬ 57343 < u1 := by omega
      have hV : 65536 + (u0 - 55296) * 1024 + u1 - 56320 = (v : Int) := by omega
      repeat' (first | (apply wpS_label1) | (apply wpS_skip1) | (apply wpS_block) | ((first | apply wpS_seq_goto | apply wpS_seq_exit | apply wpS_seq_ret); (try simp only [thenS, blockS, ↓reduceIte, Nat.reduceEqDiff])) | (apply wpS_seq_cond) | (apply wpS_seq_block) | (apply wpS_seq_loop) | (apply wpS_seq_scope) | (apply wpS_seq_seq) | ((first | apply wpS_stepT | apply wpS_stepDT | refine wpS_regL rfl ?_ | refine wpS_drawL rfl ?_ | apply wpS_condT); intro rr hrr; (simp -implicitDefEqProofs +contextual (maxSteps := 10000000) (disch := first | assumption | with_unfolding_all exact id rfl | omega | decide) only [go_sem, Int.reduceToNat, Int.reduceAdd, Int.reduceSub, Int.reduceMul, Int.reduceNeg, Int.reducePow, Int.reduceLT, Int.reduceLE, Int.reduceEq, Int.reduceNe, Int.reduceBEq, Int.reduceBNe, Int.reduceDiv, Int.reduceMod, Nat.reducePow, ↓reduceIte, reduceCtorEq, Nat.reduceEqDiff, Nat.reduceLT, Nat.reduceLeDiff, Nat.reduceAdd, Nat.reduceSub, Nat.reduceMul, Nat.reduceBEq, Nat.reduceBNe, hcap, hlt, U0, U1, hE, c1, c2, c3, c4, c4', c5, c6, hV]); (first | ((with_reducible apply oThen_intro; (first | (refine hrr _ _ (by kernel_rfl) ?_) | (refine hrr _ ?_ ?_) | (refine hrr _ ?_)) <;> clear hrr rr); (try dsimp only [thenS, blockS])) | (with_reducible apply oThen_gcond))) | ((first | apply wpS_skip | apply wpS_exit | apply wpS_goto | apply wpS_ret); (try simp only [thenS, blockS, ↓reduceIte, Nat.reduceEqDiff])) | (with_reducible apply oThen_intro; (first | (refine hrr _ _ (by kernel_rfl) ?_) | (refine hrr _ ?_ ?_) | (refine hrr _ ?_)) <;> clear hrr rr) | (with_reducible apply oThen_gcond) | (intro hb; first | (exact absurd hb (by decide)) | (simp only [decide_eq_true_eq, decide_eq_false_iff_not, beq_iff_eq, bne_iff_ne, ne_eq, beq_eq_false_iff_ne, bne_eq_false_iff_eq, Bool.not_eq_true', Bool.not_eq_false', Bool.not_eq_eq_eq_not, Bool.not_true, Bool.not_false, Int.not_lt, Int.not_le, gt_iff_lt, ge_iff_le, Bool.or_eq_true, Bool.and_eq_true, Bool.or_eq_false_iff, Decidable.not_not] at hb) | skip))
      all_goals first | (exfalso; omega) | skip
      all_goals exact WpS.keepE [0, 2, 4] hih rfl
end Go.Pv.Cb
