/- What the functions that SubSplits reaches compute: a part. -/
import Derived.Test.YtcghkmihbfibkaaSub4
set_option linter.all false
namespace Go.Pv.Cb
open Go.Pv
set_option maxRecDepth 10000
set_option maxHeartbeats 4000000
set_option linter.unusedSimpArgs false
def pR (r : R) : List OV := [.p (.int .i64 r.ty), .p (.sl 1 (ofBytes r.data)), .p (.sl 1 (eI r.cuts)), .p (.int .i64 0)]
/-- As join, where records' rows are not copied. -/
def jx (b : List (List OV)) : List S → List (List OV) × Int
  | [] => (b, 0)
  | s :: t => if s.kind < 0 ∨ 65535 < s.kind then ([], 1) else if s.recs.any badR then ([], 6) else jx (b ++ (oR (bofR s.kind) :: s.recs.map pR ++ [oR eofR])) t
def jxR (l : List S) : List (List OV) × Int := if 9 < l.length then ([], 4) else jx [] l
theorem frzss_app : ∀ (a b : List (List OV)), OV.frzss (a ++ b) = OV.frzss a ++ OV.frzss b
  | [], b => rfl
  | x :: a, b => by simp only [List.cons_append, OV.frzss, frzss_app a b]
theorem pRs_frz : ∀ (l : List R), OV.frzss (l.map pR) = (l.map flatR).map eR
  | [] => rfl
  | r :: l => by simp only [List.map_cons, OV.frzss, pRs_frz l]; rfl
theorem pRs_whole : ∀ (l : List R), OV.wholess (l.map pR) = true
  | [] => rfl
  | r :: l => by simp only [List.map_cons, OV.wholess, pRs_whole l]; rfl
theorem wholess_app2 : ∀ (a b : List (List OV)), OV.wholess (a ++ b) = (OV.wholess a && OV.wholess b)
  | [], b => by simp [OV.wholess]
  | x :: a, b => by simp only [List.cons_append, OV.wholess, wholess_app2 a b, Bool.and_assoc]
theorem jx_join : ∀ (l : List S) (b : List (List OV)) (b' : List R), OV.frzss b = b'.map eR → OV.wholess b = true → OV.frzss (jx b l).1 = (join b' l).1.map eR ∧ (jx b l).2 = (join b' l).2 ∧ OV.wholess (jx b l).1 = true
  | [], b, b', h1, h2 => ⟨h1, rfl, h2⟩
  | s :: t, b, b', h1, h2 => by
    rw [jx, join]
    split
    · exact ⟨rfl, rfl, rfl⟩
    · split
      · exact ⟨rfl, rfl, rfl⟩
      · refine jx_join t _ _ ?_ ?_
        · rw [frzss_app, List.cons_append, OV.frzss, frzss_app, pRs_frz, h1, oR_frz]
          simp only [OV.frzss, oR_frz, List.map_append, List.map_cons, List.map_nil, List.cons_append]
        · rw [wholess_app2, h2, List.cons_append, OV.wholess, wholess_app2, pRs_whole]; rfl
theorem jxR_joinR (l : List S) : OV.frzss (jxR l).1 = (joinR l).1.map eR ∧ (jxR l).2 = (joinR l).2 ∧ OV.wholess (jxR l).1 = true := by
  unfold jxR joinR
  split
  · exact ⟨rfl, rfl, rfl⟩
  · exact jx_join l [] [] rfl rfl
theorem oS_frz (s : S) : OV.frzs (oS s) = eS s := by simp only [oS, eS, OV.frzs, OV.frz, frzss_plains]
theorem oSs_frz : ∀ (l : List S), OV.frzss (l.map oS) = l.map eS
  | [] => rfl
  | r :: l => by simp only [List.map_cons, OV.frzss, oS_frz, oSs_frz l]
theorem oSs_whole : ∀ (l : List S), OV.wholess (l.map oS) = true
  | [] => rfl
  | r :: l => by simp only [List.map_cons, OV.wholess, oSs_whole l, Bool.and_true, oS, OV.wholes, OV.whole, wholess_plains, Bool.and_self]
theorem SameAll2_true (a b : List S) (hl : a.length = b.length) (ha : a.length ≤ 1000000) (hk : ∀ (i : Nat) (x y : S), a[i]? = some x → b[i]? = some y → x.kind = y.kind ∧ ansOf E F_law1_SameAll [.w (.p (.sl 4 (x.recs.map eR))), .w (.p (.sl 4 (y.recs.map eR))), .w (.p (.bool true))] = some ([(false, [.p (.bool true)])], [])) :
    ansOf E F_law2_SameAll [.w (.p (.sl 2 (a.map eS))), .w (.p (.sl 2 (b.map eS)))] = some ([(false, [.p (.bool true)])], []) := by
  refine law2_SameAll_ans rfl rfl ?_
  have hl' : (a.length : Int) = b.length := by omega
  repeat' (first
      | ((first | apply wpS_stepT | apply wpS_stepDT); intro rr hrr; (simp -implicitDefEqProofs +contextual (maxSteps := 10000000) (disch := first | assumption | with_unfolding_all exact id rfl | omega | decide) only [go_sem, Int.reduceToNat, Int.reduceAdd, Int.reduceSub, Int.reduceMul, Int.reduceNeg, Int.reducePow, Int.reduceLT, Int.reduceLE, Int.reduceEq, Int.reduceNe, Int.reduceBEq, Int.reduceBNe, Int.reduceDiv, Int.reduceMod, Nat.reducePow, ↓reduceIte, reduceCtorEq, Nat.reduceEqDiff, Nat.reduceLT, Nat.reduceLeDiff, Nat.reduceAdd, Nat.reduceSub, Nat.reduceMul, Nat.reduceBEq, Nat.reduceBNe, hl']); (first | (apply oThen_intro; (first | (refine hrr _ _ (by kernel_rfl) ?_) | (refine hrr _ ?_ ?_) | (refine hrr _ ?_)) <;> clear hrr rr) | (apply oThen_gcond)))
      | (apply wpS_label1)
      | (apply wpS_skip1)
      | (apply wpS_block)
      | ((first | apply wpS_seq_goto | apply wpS_seq_exit | apply wpS_seq_ret); (try simp only [thenS, blockS, ↓reduceIte, Nat.reduceEqDiff]))
      | (apply wpS_seq_cond)
      | (apply wpS_seq_block)
      | (apply wpS_seq_loop)
      | (apply wpS_seq_scope)
      | (apply wpS_seq_seq)
      | ((first | refine wpS_regL rfl ?_ | refine wpS_drawL rfl ?_ | apply wpS_condT); intro rr hrr; (simp -implicitDefEqProofs +contextual (maxSteps := 10000000) (disch := first | assumption | with_unfolding_all exact id rfl | omega | decide) only [go_sem, Int.reduceToNat, Int.reduceAdd, Int.reduceSub, Int.reduceMul, Int.reduceNeg, Int.reducePow, Int.reduceLT, Int.reduceLE, Int.reduceEq, Int.reduceNe, Int.reduceBEq, Int.reduceBNe, Int.reduceDiv, Int.reduceMod, Nat.reducePow, ↓reduceIte, reduceCtorEq, Nat.reduceEqDiff, Nat.reduceLT, Nat.reduceLeDiff, Nat.reduceAdd, Nat.reduceSub, Nat.reduceMul, Nat.reduceBEq, Nat.reduceBNe, hl']); (first | ((apply oThen_intro; (first | (refine hrr _ _ (by kernel_rfl) ?_) | (refine hrr _ ?_ ?_) | (refine hrr _ ?_)) <;> clear hrr rr); (try dsimp only [thenS, blockS])) | (apply oThen_gcond)))
      | ((first | apply wpS_skip | apply wpS_exit | apply wpS_goto | apply wpS_ret); (try simp only [thenS, blockS, ↓reduceIte, Nat.reduceEqDiff]))
      | (apply oThen_intro; (first | (refine hrr _ _ (by kernel_rfl) ?_) | (refine hrr _ ?_ ?_) | (refine hrr _ ?_)) <;> clear hrr rr)
      | (apply oThen_gcond)
      | (intro hb; first | (exact absurd hb (by decide)) | (simp only [decide_eq_true_eq, decide_eq_false_iff_not, beq_iff_eq, bne_iff_ne, ne_eq, beq_eq_false_iff_ne, bne_eq_false_iff_eq, Bool.not_eq_true', Bool.not_eq_false', Bool.not_eq_eq_eq_not, Bool.not_true, Bool.not_false, Int.not_lt, Int.not_le, gt_iff_lt, ge_iff_le, Bool.or_eq_true, Bool.and_eq_true, Bool.or_eq_false_iff, Decidable.not_not] at hb) | skip))
  refine wpS_loop_inv (fun i : Nat => [(0, .w (.p (.sl 2 (a.map eS)))), (1, .w (.p (.sl 2 (b.map eS)))), (5, .w (.p (.int .i64 i)))]) (fun i => i ≤ a.length) (fun i => a.length - i) 0 rfl (by omega) ?_
  rintro i hi ih
  rcases Nat.lt_or_ge i a.length with hlt | hge
  · obtain ⟨x, hx⟩ := get_lt hlt
    obtain ⟨y, hy⟩ := get_lt (l := b) (i := i) (by omega)
    have hlt' : (i : Int) < b.length := by omega
    obtain ⟨e1, e2⟩ := hk i x y hx hy
    repeat' (first
        | ((first | apply wpS_stepT | apply wpS_stepDT); intro rr hrr; (simp -implicitDefEqProofs +contextual (maxSteps := 10000000) (disch := first | assumption | with_unfolding_all exact id rfl | omega | decide) only [go_sem, Int.reduceToNat, Int.reduceAdd, Int.reduceSub, Int.reduceMul, Int.reduceNeg, Int.reducePow, Int.reduceLT, Int.reduceLE, Int.reduceEq, Int.reduceNe, Int.reduceBEq, Int.reduceBNe, Int.reduceDiv, Int.reduceMod, Nat.reducePow, ↓reduceIte, reduceCtorEq, Nat.reduceEqDiff, Nat.reduceLT, Nat.reduceLeDiff, Nat.reduceAdd, Nat.reduceSub, Nat.reduceMul, Nat.reduceBEq, Nat.reduceBNe, hx, hy, eS, hlt', hl', e1, e2]); (first | (apply oThen_intro; (first | (refine hrr _ _ (by kernel_rfl) ?_) | (refine hrr _ ?_ ?_) | (refine hrr _ ?_)) <;> clear hrr rr) | (apply oThen_gcond)))
        | (apply wpS_label1)
        | (apply wpS_skip1)
        | (apply wpS_block)
        | ((first | apply wpS_seq_goto | apply wpS_seq_exit | apply wpS_seq_ret); (try simp only [thenS, blockS, ↓reduceIte, Nat.reduceEqDiff]))
        | (apply wpS_seq_cond)
        | (apply wpS_seq_block)
        | (apply wpS_seq_loop)
        | (apply wpS_seq_scope)
        | (apply wpS_seq_seq)
        | ((first | refine wpS_regL rfl ?_ | refine wpS_drawL rfl ?_ | apply wpS_condT); intro rr hrr; (simp -implicitDefEqProofs +contextual (maxSteps := 10000000) (disch := first | assumption | with_unfolding_all exact id rfl | omega | decide) only [go_sem, Int.reduceToNat, Int.reduceAdd, Int.reduceSub, Int.reduceMul, Int.reduceNeg, Int.reducePow, Int.reduceLT, Int.reduceLE, Int.reduceEq, Int.reduceNe, Int.reduceBEq, Int.reduceBNe, Int.reduceDiv, Int.reduceMod, Nat.reducePow, ↓reduceIte, reduceCtorEq, Nat.reduceEqDiff, Nat.reduceLT, Nat.reduceLeDiff, Nat.reduceAdd, Nat.reduceSub, Nat.reduceMul, Nat.reduceBEq, Nat.reduceBNe, hx, hy, eS, hlt', hl', e1, e2]); (first | ((apply oThen_intro; (first | (refine hrr _ _ (by kernel_rfl) ?_) | (refine hrr _ ?_ ?_) | (refine hrr _ ?_)) <;> clear hrr rr); (try dsimp only [thenS, blockS])) | (apply oThen_gcond)))
        | ((first | apply wpS_skip | apply wpS_exit | apply wpS_goto | apply wpS_ret); (try simp only [thenS, blockS, ↓reduceIte, Nat.reduceEqDiff]))
        | (apply oThen_intro; (first | (refine hrr _ _ (by kernel_rfl) ?_) | (refine hrr _ ?_ ?_) | (refine hrr _ ?_)) <;> clear hrr rr)
        | (apply oThen_gcond)
        | (intro hb; first | (exact absurd hb (by decide)) | (simp only [decide_eq_true_eq, decide_eq_false_iff_not, beq_iff_eq, bne_iff_ne, ne_eq, beq_eq_false_iff_ne, bne_eq_false_iff_eq, Bool.not_eq_true', Bool.not_eq_false', Bool.not_eq_eq_eq_not, Bool.not_true, Bool.not_false, Int.not_lt, Int.not_le, gt_iff_lt, ge_iff_le, Bool.or_eq_true, Bool.and_eq_true, Bool.or_eq_false_iff, Decidable.not_not] at hb) | skip))
    exact ih (i + 1) (by omega) (by omega)
  · have hge' : ¬ (i : Int) < b.length := by omega
    repeat' (first
        | ((first | apply wpS_stepT | apply wpS_stepDT); intro rr hrr; (simp -implicitDefEqProofs +contextual (maxSteps := 10000000) (disch := first | assumption | with_unfolding_all exact id rfl | omega | decide) only [go_sem, Int.reduceToNat, Int.reduceAdd, Int.reduceSub, Int.reduceMul, Int.reduceNeg, Int.reducePow, Int.reduceLT, Int.reduceLE, Int.reduceEq, Int.reduceNe, Int.reduceBEq, Int.reduceBNe, Int.reduceDiv, Int.reduceMod, Nat.reducePow, ↓reduceIte, reduceCtorEq, Nat.reduceEqDiff, Nat.reduceLT, Nat.reduceLeDiff, Nat.reduceAdd, Nat.reduceSub, Nat.reduceMul, Nat.reduceBEq, Nat.reduceBNe, hge', hl']); (first | (apply oThen_intro; (first | (refine hrr _ _ (by kernel_rfl) ?_) | (refine hrr _ ?_ ?_) | (refine hrr _ ?_)) <;> clear hrr rr) | (apply oThen_gcond)))
        | (apply wpS_label1)
        | (apply wpS_skip1)
        | (apply wpS_block)
        | ((first | apply wpS_seq_goto | apply wpS_seq_exit | apply wpS_seq_ret); (try simp only [thenS, blockS, ↓reduceIte, Nat.reduceEqDiff]))
        | (apply wpS_seq_cond)
        | (apply wpS_seq_block)
        | (apply wpS_seq_loop)
        | (apply wpS_seq_scope)
        | (apply wpS_seq_seq)
        | ((first | refine wpS_regL rfl ?_ | refine wpS_drawL rfl ?_ | apply wpS_condT); intro rr hrr; (simp -implicitDefEqProofs +contextual (maxSteps := 10000000) (disch := first | assumption | with_unfolding_all exact id rfl | omega | decide) only [go_sem, Int.reduceToNat, Int.reduceAdd, Int.reduceSub, Int.reduceMul, Int.reduceNeg, Int.reducePow, Int.reduceLT, Int.reduceLE, Int.reduceEq, Int.reduceNe, Int.reduceBEq, Int.reduceBNe, Int.reduceDiv, Int.reduceMod, Nat.reducePow, ↓reduceIte, reduceCtorEq, Nat.reduceEqDiff, Nat.reduceLT, Nat.reduceLeDiff, Nat.reduceAdd, Nat.reduceSub, Nat.reduceMul, Nat.reduceBEq, Nat.reduceBNe, hge', hl']); (first | ((apply oThen_intro; (first | (refine hrr _ _ (by kernel_rfl) ?_) | (refine hrr _ ?_ ?_) | (refine hrr _ ?_)) <;> clear hrr rr); (try dsimp only [thenS, blockS])) | (apply oThen_gcond)))
        | ((first | apply wpS_skip | apply wpS_exit | apply wpS_goto | apply wpS_ret); (try simp only [thenS, blockS, ↓reduceIte, Nat.reduceEqDiff]))
        | (apply oThen_intro; (first | (refine hrr _ _ (by kernel_rfl) ?_) | (refine hrr _ ?_ ?_) | (refine hrr _ ?_)) <;> clear hrr rr)
        | (apply oThen_gcond)
        | (intro hb; first | (exact absurd hb (by decide)) | (simp only [decide_eq_true_eq, decide_eq_false_iff_not, beq_iff_eq, bne_iff_ne, ne_eq, beq_eq_false_iff_ne, bne_eq_false_iff_eq, Bool.not_eq_true', Bool.not_eq_false', Bool.not_eq_eq_eq_not, Bool.not_true, Bool.not_false, Int.not_lt, Int.not_le, gt_iff_lt, ge_iff_le, Bool.or_eq_true, Bool.and_eq_true, Bool.or_eq_false_iff, Decidable.not_not] at hb) | skip))
    (refine ⟨by simp, ?_⟩; (simp -implicitDefEqProofs +contextual (maxSteps := 10000000) (disch := first | assumption | with_unfolding_all exact id rfl | omega | decide) only [go_sem, Int.reduceToNat, Int.reduceAdd, Int.reduceSub, Int.reduceMul, Int.reduceNeg, Int.reducePow, Int.reduceLT, Int.reduceLE, Int.reduceEq, Int.reduceNe, Int.reduceBEq, Int.reduceBNe, Int.reduceDiv, Int.reduceMod, Nat.reducePow, ↓reduceIte, reduceCtorEq, Nat.reduceEqDiff, Nat.reduceLT, Nat.reduceLeDiff, Nat.reduceAdd, Nat.reduceSub, Nat.reduceMul, Nat.reduceBEq, Nat.reduceBNe, law2_SameAll]))
end Go.Pv.Cb
