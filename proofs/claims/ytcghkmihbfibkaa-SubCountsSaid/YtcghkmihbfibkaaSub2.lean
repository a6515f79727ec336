/- What the functions that SubCounts reaches compute: a part. -/
import Derived.Test.YtcghkmihbfibkaaSub1
set_option linter.all false
namespace Go.Pv.Cb
open Go.Pv
set_option maxRecDepth 10000
set_option maxHeartbeats 4000000
set_option linter.unusedSimpArgs false
structure S where
  kind : Int
  recs : List R
def eS (s : S) : List PV := [.int .i64 s.kind, .sl 4 (s.recs.map eR)]
def oS (s : S) : List OV := [.p (.int .i64 s.kind), .own 4 (plains (s.recs.map eR))]
def kindOf (d : List UInt8) : Int := match d with
  | [a, b] => (a.toNat : Int) + 256 * (b.toNat : Int)
  | _ => 0
/-- Substreams, or what is wrong and where: those that are whole; the open one's kind, records, place. -/
def split (acc : List S) : Option (Int × List R × Int) → List R → List S × Int × Int
  | none, [] => (acc, 0, 0)
  | some (_, _, p), [] => ([], p, 5)
  | none, r :: t => if r.ty ≠ 2057 then ([], r.at_, 6) else if acc.length = 9 then ([], r.at_, 4) else if r.data.length ≠ 2 ∨ 0 < r.cuts.length then ([], r.at_, 2) else split acc (some (kindOf r.data, [], r.at_)) t
  | some (k, rs, p), r :: t => if r.ty = 2057 then ([], r.at_, 6) else if r.ty = 10 then (if 0 < r.data.length + r.cuts.length then ([], r.at_, 2) else split (acc ++ [⟨k, rs⟩]) none t) else split acc (some (k, rs ++ [r], p)) t
def splitC (x : List S × Int × Int) : CRes := ([(false, [.own 2 (x.1.map oS)]), (false, [.p (.int .i64 x.2.1)]), (false, [.p (.int .i64 x.2.2)])], [])
theorem split_bof {acc : List S} {r : R} {t : List R} (h1 : r.ty = 2057) (h2 : acc.length ≠ 9) (h3 : r.data.length = 2) (h4 : r.cuts.length = 0) : split acc none (r :: t) = split acc (some (kindOf r.data, [], r.at_)) t := by
  rw [split, if_neg (by omega), if_neg h2, if_neg (by omega)]
theorem split_eof {acc : List S} {r : R} {t rs : List R} {k p : Int} (h1 : r.ty = 10) (h3 : r.data.length + r.cuts.length = 0) : split acc (some (k, rs, p)) (r :: t) = split (acc ++ [⟨k, rs⟩]) none t := by
  rw [split, if_neg (by omega), if_pos h1, if_neg (by omega)]
theorem split_rec {acc : List S} {r : R} {t rs : List R} {k p : Int} (h1 : r.ty ≠ 2057) (h2 : r.ty ≠ 10) : split acc (some (k, rs, p)) (r :: t) = split acc (some (k, rs ++ [r], p)) t := by
  rw [split, if_neg (by omega), if_neg h2]
theorem Split_spec (l : List R) (h1 : l.length ≤ 1000000) (h : ∀ r ∈ l, r.data.length ≤ 3000 ∧ r.cuts.length ≤ 40) :
    ansOf E F_sub_Split [.w (.p (.sl 4 (l.map eR)))] = some (splitC (split [] none l)) := by
  refine sub_Split_ans rfl rfl ?_
  first
    | ((first | apply wpS_stepT | apply wpS_stepDT); intro rr hrr; (simp -implicitDefEqProofs +contextual (maxSteps := 10000000) (disch := first | assumption | with_unfolding_all exact id rfl | omega | decide) only [go_sem, Int.reduceToNat, Int.reduceAdd, Int.reduceSub, Int.reduceMul, Int.reduceNeg, Int.reducePow, Int.reduceLT, Int.reduceLE, Int.reduceEq, Int.reduceNe, Int.reduceBEq, Int.reduceBNe, Int.reduceDiv, Int.reduceMod, Nat.reducePow, ↓reduceIte, reduceCtorEq, Nat.reduceEqDiff, Nat.reduceLT, Nat.reduceLeDiff, Nat.reduceAdd, Nat.reduceSub, Nat.reduceMul, Nat.reduceBEq, Nat.reduceBNe]); (first | (apply oThen_intro; (first | (refine hrr _ _ (by kernel_rfl) ?_) | (refine hrr _ ?_ ?_) | (refine hrr _ ?_)) <;> clear hrr rr) | (apply oThen_gcond)))
    | (apply wpS_label1)
    | (apply wpS_skip1)
    | (apply wpS_block)
    | ((first | apply wpS_seq_goto | apply wpS_seq_exit | apply wpS_seq_ret); (try simp only [thenS, blockS, ↓reduceIte, Nat.reduceEqDiff]))
    | (apply wpS_seq_cond)
    | (apply wpS_seq_block)
    | (apply wpS_seq_loop)
    | (apply wpS_seq_scope)
    | (apply wpS_seq_seq)
    | ((first | refine wpS_regL rfl ?_ | refine wpS_drawL rfl ?_ | apply wpS_condT); intro rr hrr; (simp -implicitDefEqProofs +contextual (maxSteps := 10000000) (disch := first | assumption | with_unfolding_all exact id rfl | omega | decide) only [go_sem, Int.reduceToNat, Int.reduceAdd, Int.reduceSub, Int.reduceMul, Int.reduceNeg, Int.reducePow, Int.reduceLT, Int.reduceLE, Int.reduceEq, Int.reduceNe, Int.reduceBEq, Int.reduceBNe, Int.reduceDiv, Int.reduceMod, Nat.reducePow, ↓reduceIte, reduceCtorEq, Nat.reduceEqDiff, Nat.reduceLT, Nat.reduceLeDiff, Nat.reduceAdd, Nat.reduceSub, Nat.reduceMul, Nat.reduceBEq, Nat.reduceBNe]); (first | ((apply oThen_intro; (first | (refine hrr _ _ (by kernel_rfl) ?_) | (refine hrr _ ?_ ?_) | (refine hrr _ ?_)) <;> clear hrr rr); (try dsimp only [thenS, blockS])) | (apply oThen_gcond)))
    | ((first | apply wpS_skip | apply wpS_exit | apply wpS_goto | apply wpS_ret); (try simp only [thenS, blockS, ↓reduceIte, Nat.reduceEqDiff]))
    | (apply oThen_intro; (first | (refine hrr _ _ (by kernel_rfl) ?_) | (refine hrr _ ?_ ?_) | (refine hrr _ ?_)) <;> clear hrr rr)
    | (apply oThen_gcond)
    | (intro hb; first | (exact absurd hb (by decide)) | (simp only [decide_eq_true_eq, decide_eq_false_iff_not, beq_iff_eq, bne_iff_ne, ne_eq, beq_eq_false_iff_ne, bne_eq_false_iff_eq, Bool.not_eq_true', Bool.not_eq_false', Bool.not_eq_eq_eq_not, Bool.not_true, Bool.not_false, Int.not_lt, Int.not_le, gt_iff_lt, ge_iff_le, Bool.or_eq_true, Bool.and_eq_true, Bool.or_eq_false_iff, Decidable.not_not] at hb) | skip)
  apply wpS_scope
  first
    | ((first | apply wpS_stepT | apply wpS_stepDT); intro rr hrr; (simp -implicitDefEqProofs +contextual (maxSteps := 10000000) (disch := first | assumption | with_unfolding_all exact id rfl | omega | decide) only [go_sem, Int.reduceToNat, Int.reduceAdd, Int.reduceSub, Int.reduceMul, Int.reduceNeg, Int.reducePow, Int.reduceLT, Int.reduceLE, Int.reduceEq, Int.reduceNe, Int.reduceBEq, Int.reduceBNe, Int.reduceDiv, Int.reduceMod, Nat.reducePow, ↓reduceIte, reduceCtorEq, Nat.reduceEqDiff, Nat.reduceLT, Nat.reduceLeDiff, Nat.reduceAdd, Nat.reduceSub, Nat.reduceMul, Nat.reduceBEq, Nat.reduceBNe]); (first | (apply oThen_intro; (first | (refine hrr _ _ (by kernel_rfl) ?_) | (refine hrr _ ?_ ?_) | (refine hrr _ ?_)) <;> clear hrr rr) | (apply oThen_gcond)))
    | (apply wpS_label1)
    | (apply wpS_skip1)
    | (apply wpS_block)
    | ((first | apply wpS_seq_goto | apply wpS_seq_exit | apply wpS_seq_ret); (try simp only [thenS, blockS, ↓reduceIte, Nat.reduceEqDiff]))
    | (apply wpS_seq_cond)
    | (apply wpS_seq_block)
    | (apply wpS_seq_loop)
    | (apply wpS_seq_scope)
    | (apply wpS_seq_seq)
    | ((first | refine wpS_regL rfl ?_ | refine wpS_drawL rfl ?_ | apply wpS_condT); intro rr hrr; (simp -implicitDefEqProofs +contextual (maxSteps := 10000000) (disch := first | assumption | with_unfolding_all exact id rfl | omega | decide) only [go_sem, Int.reduceToNat, Int.reduceAdd, Int.reduceSub, Int.reduceMul, Int.reduceNeg, Int.reducePow, Int.reduceLT, Int.reduceLE, Int.reduceEq, Int.reduceNe, Int.reduceBEq, Int.reduceBNe, Int.reduceDiv, Int.reduceMod, Nat.reducePow, ↓reduceIte, reduceCtorEq, Nat.reduceEqDiff, Nat.reduceLT, Nat.reduceLeDiff, Nat.reduceAdd, Nat.reduceSub, Nat.reduceMul, Nat.reduceBEq, Nat.reduceBNe]); (first | ((apply oThen_intro; (first | (refine hrr _ _ (by kernel_rfl) ?_) | (refine hrr _ ?_ ?_) | (refine hrr _ ?_)) <;> clear hrr rr); (try dsimp only [thenS, blockS])) | (apply oThen_gcond)))
    | ((first | apply wpS_skip | apply wpS_exit | apply wpS_goto | apply wpS_ret); (try simp only [thenS, blockS, ↓reduceIte, Nat.reduceEqDiff]))
    | (apply oThen_intro; (first | (refine hrr _ _ (by kernel_rfl) ?_) | (refine hrr _ ?_ ?_) | (refine hrr _ ?_)) <;> clear hrr rr)
    | (apply oThen_gcond)
    | (intro hb; first | (exact absurd hb (by decide)) | (simp only [decide_eq_true_eq, decide_eq_false_iff_not, beq_iff_eq, bne_iff_ne, ne_eq, beq_eq_false_iff_ne, bne_eq_false_iff_eq, Bool.not_eq_true', Bool.not_eq_false', Bool.not_eq_eq_eq_not, Bool.not_true, Bool.not_false, Int.not_lt, Int.not_le, gt_iff_lt, ge_iff_le, Bool.or_eq_true, Bool.and_eq_true, Bool.or_eq_false_iff, Decidable.not_not] at hb) | skip)
  first
    | ((first | apply wpS_stepT | apply wpS_stepDT); intro rr hrr; (simp -implicitDefEqProofs +contextual (maxSteps := 10000000) (disch := first | assumption | with_unfolding_all exact id rfl | omega | decide) only [go_sem, Int.reduceToNat, Int.reduceAdd, Int.reduceSub, Int.reduceMul, Int.reduceNeg, Int.reducePow, Int.reduceLT, Int.reduceLE, Int.reduceEq, Int.reduceNe, Int.reduceBEq, Int.reduceBNe, Int.reduceDiv, Int.reduceMod, Nat.reducePow, ↓reduceIte, reduceCtorEq, Nat.reduceEqDiff, Nat.reduceLT, Nat.reduceLeDiff, Nat.reduceAdd, Nat.reduceSub, Nat.reduceMul, Nat.reduceBEq, Nat.reduceBNe]); (first | (apply oThen_intro; (first | (refine hrr _ _ (by kernel_rfl) ?_) | (refine hrr _ ?_ ?_) | (refine hrr _ ?_)) <;> clear hrr rr) | (apply oThen_gcond)))
    | (apply wpS_label1)
    | (apply wpS_skip1)
    | (apply wpS_block)
    | ((first | apply wpS_seq_goto | apply wpS_seq_exit | apply wpS_seq_ret); (try simp only [thenS, blockS, ↓reduceIte, Nat.reduceEqDiff]))
    | (apply wpS_seq_cond)
    | (apply wpS_seq_block)
    | (apply wpS_seq_loop)
    | (apply wpS_seq_scope)
    | (apply wpS_seq_seq)
    | ((first | refine wpS_regL rfl ?_ | refine wpS_drawL rfl ?_ | apply wpS_condT); intro rr hrr; (simp -implicitDefEqProofs +contextual (maxSteps := 10000000) (disch := first | assumption | with_unfolding_all exact id rfl | omega | decide) only [go_sem, Int.reduceToNat, Int.reduceAdd, Int.reduceSub, Int.reduceMul, Int.reduceNeg, Int.reducePow, Int.reduceLT, Int.reduceLE, Int.reduceEq, Int.reduceNe, Int.reduceBEq, Int.reduceBNe, Int.reduceDiv, Int.reduceMod, Nat.reducePow, ↓reduceIte, reduceCtorEq, Nat.reduceEqDiff, Nat.reduceLT, Nat.reduceLeDiff, Nat.reduceAdd, Nat.reduceSub, Nat.reduceMul, Nat.reduceBEq, Nat.reduceBNe]); (first | ((apply oThen_intro; (first | (refine hrr _ _ (by kernel_rfl) ?_) | (refine hrr _ ?_ ?_) | (refine hrr _ ?_)) <;> clear hrr rr); (try dsimp only [thenS, blockS])) | (apply oThen_gcond)))
    | ((first | apply wpS_skip | apply wpS_exit | apply wpS_goto | apply wpS_ret); (try simp only [thenS, blockS, ↓reduceIte, Nat.reduceEqDiff]))
    | (apply oThen_intro; (first | (refine hrr _ _ (by kernel_rfl) ?_) | (refine hrr _ ?_ ?_) | (refine hrr _ ?_)) <;> clear hrr rr)
    | (apply oThen_gcond)
    | (intro hb; first | (exact absurd hb (by decide)) | (simp only [decide_eq_true_eq, decide_eq_false_iff_not, beq_iff_eq, bne_iff_ne, ne_eq, beq_eq_false_iff_ne, bne_eq_false_iff_eq, Bool.not_eq_true', Bool.not_eq_false', Bool.not_eq_eq_eq_not, Bool.not_true, Bool.not_false, Int.not_lt, Int.not_le, gt_iff_lt, ge_iff_le, Bool.or_eq_true, Bool.and_eq_true, Bool.or_eq_false_iff, Decidable.not_not] at hb) | skip)
  apply wpS_label1
  have wrong : ∀ (p e : Int), split [] none l = ([], p, e) → LpS E 109 sub_Split_K sub_Split_c55 (fun ex l_1 => (ex = Ex.nor ∨ ex = Ex.ret) ∧ doneS 109 sub_Split [AV.w (OV.p (PV.sl 4 (l.map eR)))] l_1 = some (splitC (split [] none l))) (.goto 1) [(3, .w (.p (.int .i64 p))), (4, .w (.p (.int .i64 e)))] := by
    intro p e hs
    refine lpS_goto rfl ?_
    repeat' (first
        | ((first | apply wpS_stepT | apply wpS_stepDT); intro rr hrr; (simp -implicitDefEqProofs +contextual (maxSteps := 10000000) (disch := first | assumption | with_unfolding_all exact id rfl | omega | decide) only [go_sem, Int.reduceToNat, Int.reduceAdd, Int.reduceSub, Int.reduceMul, Int.reduceNeg, Int.reducePow, Int.reduceLT, Int.reduceLE, Int.reduceEq, Int.reduceNe, Int.reduceBEq, Int.reduceBNe, Int.reduceDiv, Int.reduceMod, Nat.reducePow, ↓reduceIte, reduceCtorEq, Nat.reduceEqDiff, Nat.reduceLT, Nat.reduceLeDiff, Nat.reduceAdd, Nat.reduceSub, Nat.reduceMul, Nat.reduceBEq, Nat.reduceBNe]); (first | (apply oThen_intro; (first | (refine hrr _ _ (by kernel_rfl) ?_) | (refine hrr _ ?_ ?_) | (refine hrr _ ?_)) <;> clear hrr rr) | (apply oThen_gcond)))
        | (apply wpS_label1)
        | (apply wpS_skip1)
        | (apply wpS_block)
        | ((first | apply wpS_seq_goto | apply wpS_seq_exit | apply wpS_seq_ret); (try simp only [thenS, blockS, ↓reduceIte, Nat.reduceEqDiff]))
        | (apply wpS_seq_cond)
        | (apply wpS_seq_block)
        | (apply wpS_seq_loop)
        | (apply wpS_seq_scope)
        | (apply wpS_seq_seq)
        | ((first | refine wpS_regL rfl ?_ | refine wpS_drawL rfl ?_ | apply wpS_condT); intro rr hrr; (simp -implicitDefEqProofs +contextual (maxSteps := 10000000) (disch := first | assumption | with_unfolding_all exact id rfl | omega | decide) only [go_sem, Int.reduceToNat, Int.reduceAdd, Int.reduceSub, Int.reduceMul, Int.reduceNeg, Int.reducePow, Int.reduceLT, Int.reduceLE, Int.reduceEq, Int.reduceNe, Int.reduceBEq, Int.reduceBNe, Int.reduceDiv, Int.reduceMod, Nat.reducePow, ↓reduceIte, reduceCtorEq, Nat.reduceEqDiff, Nat.reduceLT, Nat.reduceLeDiff, Nat.reduceAdd, Nat.reduceSub, Nat.reduceMul, Nat.reduceBEq, Nat.reduceBNe]); (first | ((apply oThen_intro; (first | (refine hrr _ _ (by kernel_rfl) ?_) | (refine hrr _ ?_ ?_) | (refine hrr _ ?_)) <;> clear hrr rr); (try dsimp only [thenS, blockS])) | (apply oThen_gcond)))
        | ((first | apply wpS_skip | apply wpS_exit | apply wpS_goto | apply wpS_ret); (try simp only [thenS, blockS, ↓reduceIte, Nat.reduceEqDiff]))
        | (apply oThen_intro; (first | (refine hrr _ _ (by kernel_rfl) ?_) | (refine hrr _ ?_ ?_) | (refine hrr _ ?_)) <;> clear hrr rr)
        | (apply oThen_gcond)
        | (intro hb; first | (exact absurd hb (by decide)) | (simp only [decide_eq_true_eq, decide_eq_false_iff_not, beq_iff_eq, bne_iff_ne, ne_eq, beq_eq_false_iff_ne, bne_eq_false_iff_eq, Bool.not_eq_true', Bool.not_eq_false', Bool.not_eq_eq_eq_not, Bool.not_true, Bool.not_false, Int.not_lt, Int.not_le, gt_iff_lt, ge_iff_le, Bool.or_eq_true, Bool.and_eq_true, Bool.or_eq_false_iff, Decidable.not_not] at hb) | skip))
    apply lpS_ret
    (refine ⟨by simp, ?_⟩; (simp -implicitDefEqProofs +contextual (maxSteps := 10000000) (disch := first | assumption | with_unfolding_all exact id rfl | omega | decide) only [go_sem, Int.reduceToNat, Int.reduceAdd, Int.reduceSub, Int.reduceMul, Int.reduceNeg, Int.reducePow, Int.reduceLT, Int.reduceLE, Int.reduceEq, Int.reduceNe, Int.reduceBEq, Int.reduceBNe, Int.reduceDiv, Int.reduceMod, Nat.reducePow, ↓reduceIte, reduceCtorEq, Nat.reduceEqDiff, Nat.reduceLT, Nat.reduceLeDiff, Nat.reduceAdd, Nat.reduceSub, Nat.reduceMul, Nat.reduceBEq, Nat.reduceBNe, sub_Split]))
    rw [hs]; rfl
  have key : ∀ (m : Nat), (∀ (i : Nat) (acc : List S) (b0 b1 b2 b3 : OV), l.length - i < m → i ≤ l.length → acc.length ≤ i → split acc none (l.drop i) = split [] none l →
    WpS E 109 sub_Split_K sub_Split_c52 [(0, .w (.p (.sl 4 (l.map eR)))), (2, .w (.own 2 (acc.map oS))), (5, .box [b0, b1, b2, b3]), (6, .w (.p (.int .i64 i)))] (LpS E 109 sub_Split_K sub_Split_c55 fun ex l_1 => (ex = Ex.nor ∨ ex = Ex.ret) ∧ doneS 109 sub_Split [AV.w (OV.p (PV.sl 4 (l.map eR)))] l_1 = some (splitC (split [] none l)))) ∧
    (∀ (i : Nat) (acc : List S) (k p : Int) (rs : List R) (b0 b1 b2 b3 : OV), l.length - i < m → i ≤ l.length → acc.length + 1 ≤ i → rs.length ≤ i → split acc (some (k, rs, p)) (l.drop i) = split [] none l →
    WpS E 109 sub_Split_K sub_Split_c45 [(0, .w (.p (.sl 4 (l.map eR)))), (2, .w (.own 2 (acc.map oS ++ [oS ⟨k, rs⟩]))), (3, .w (.p (.int .i64 p))), (5, .box [b0, b1, b2, b3]), (6, .w (.p (.int .i64 i)))] (LpS E 109 sub_Split_K sub_Split_c55 fun ex l_1 => (ex = Ex.nor ∨ ex = Ex.ret) ∧ doneS 109 sub_Split [AV.w (OV.p (PV.sl 4 (l.map eR)))] l_1 = some (splitC (split [] none l)))) := by
    intro m
    induction m with
    | zero => exact ⟨fun i acc b0 b1 b2 b3 hm => absurd hm (by omega), fun i acc k p rs b0 b1 b2 b3 hm => absurd hm (by omega)⟩
    | succ m ihm =>
    obtain ⟨ih1, ih2⟩ := ihm
    refine ⟨?_, ?_⟩
    · intro i acc b0 b1 b2 b3 hm hi ha hs
      rcases Nat.lt_or_ge i l.length with hlt | hge
      · obtain ⟨r, hr⟩ := get_lt hlt
        have hne : ¬ (i : Int) = l.length := by omega
        obtain ⟨hr1, hr2⟩ := h r (mem_get hr)
        rw [drop_get hr] at hs
        repeat' (first
            | ((first | apply wpS_stepT | apply wpS_stepDT); intro rr hrr; (simp -implicitDefEqProofs +contextual (maxSteps := 10000000) (disch := first | assumption | with_unfolding_all exact id rfl | omega | decide) only [go_sem, Int.reduceToNat, Int.reduceAdd, Int.reduceSub, Int.reduceMul, Int.reduceNeg, Int.reducePow, Int.reduceLT, Int.reduceLE, Int.reduceEq, Int.reduceNe, Int.reduceBEq, Int.reduceBNe, Int.reduceDiv, Int.reduceMod, Nat.reducePow, ↓reduceIte, reduceCtorEq, Nat.reduceEqDiff, Nat.reduceLT, Nat.reduceLeDiff, Nat.reduceAdd, Nat.reduceSub, Nat.reduceMul, Nat.reduceBEq, Nat.reduceBNe, hr, eR, hne]); (first | (apply oThen_intro; (first | (refine hrr _ _ (by kernel_rfl) ?_) | (refine hrr _ ?_ ?_) | (refine hrr _ ?_)) <;> clear hrr rr) | (apply oThen_gcond)))
            | (apply wpS_skip1)
            | (apply wpS_block)
            | ((first | apply wpS_seq_goto | apply wpS_seq_exit | apply wpS_seq_ret); (try simp only [thenS, blockS, ↓reduceIte, Nat.reduceEqDiff]))
            | (apply wpS_seq_cond)
            | (apply wpS_seq_block)
            | (apply wpS_seq_loop)
            | (apply wpS_seq_scope)
            | (apply wpS_seq_seq)
            | ((first | refine wpS_regL rfl ?_ | refine wpS_drawL rfl ?_ | apply wpS_condT); intro rr hrr; (simp -implicitDefEqProofs +contextual (maxSteps := 10000000) (disch := first | assumption | with_unfolding_all exact id rfl | omega | decide) only [go_sem, Int.reduceToNat, Int.reduceAdd, Int.reduceSub, Int.reduceMul, Int.reduceNeg, Int.reducePow, Int.reduceLT, Int.reduceLE, Int.reduceEq, Int.reduceNe, Int.reduceBEq, Int.reduceBNe, Int.reduceDiv, Int.reduceMod, Nat.reducePow, ↓reduceIte, reduceCtorEq, Nat.reduceEqDiff, Nat.reduceLT, Nat.reduceLeDiff, Nat.reduceAdd, Nat.reduceSub, Nat.reduceMul, Nat.reduceBEq, Nat.reduceBNe, hr, eR, hne]); (first | ((apply oThen_intro; (first | (refine hrr _ _ (by kernel_rfl) ?_) | (refine hrr _ ?_ ?_) | (refine hrr _ ?_)) <;> clear hrr rr); (try dsimp only [thenS, blockS])) | (apply oThen_gcond)))
            | ((first | apply wpS_skip | apply wpS_exit | apply wpS_goto | apply wpS_ret); (try simp only [thenS, blockS, ↓reduceIte, Nat.reduceEqDiff]))
            | (apply oThen_intro; (first | (refine hrr _ _ (by kernel_rfl) ?_) | (refine hrr _ ?_ ?_) | (refine hrr _ ?_)) <;> clear hrr rr)
            | (apply oThen_gcond)
            | (intro hb; first | (exact absurd hb (by decide)) | (simp only [decide_eq_true_eq, decide_eq_false_iff_not, beq_iff_eq, bne_iff_ne, ne_eq, beq_eq_false_iff_ne, bne_eq_false_iff_eq, Bool.not_eq_true', Bool.not_eq_false', Bool.not_eq_eq_eq_not, Bool.not_true, Bool.not_false, Int.not_lt, Int.not_le, gt_iff_lt, ge_iff_le, Bool.or_eq_true, Bool.and_eq_true, Bool.or_eq_false_iff, Decidable.not_not] at hb) | skip))
        · exact wrong _ _ (by rw [← hs]; unfold split; (repeat' split) <;> first | rfl | (exfalso; omega))
        · exact wrong _ _ (by rw [← hs]; unfold split; (repeat' split) <;> first | rfl | (exfalso; omega))
        · exact wrong _ _ (by rw [← hs]; unfold split; (repeat' split) <;> first | rfl | (exfalso; omega))
        · exact wrong _ _ (by rw [← hs]; unfold split; (repeat' split) <;> first | rfl | (exfalso; omega))
        · have hd : r.data.length = 2 := by omega
          obtain ⟨x, y, hxy⟩ : ∃ x y, r.data = [x, y] := by
            match hd' : r.data, hd with
            | [x, y], _ => exact ⟨x, y, rfl⟩
          have h0 : r.data[0]? = some x := by rw [hxy]; rfl
          have h2 : r.data[1]? = some y := by rw [hxy]; rfl
          have h3 := u8_lt x
          have h4 := u8_lt y
          rw [split_bof (by omega) (by omega) hd (by omega)] at hs
          repeat' (first
              | ((first | apply wpS_stepT | apply wpS_stepDT); intro rr hrr; (simp -implicitDefEqProofs +contextual (maxSteps := 10000000) (disch := first | assumption | with_unfolding_all exact id rfl | omega | decide) only [go_sem, Int.reduceToNat, Int.reduceAdd, Int.reduceSub, Int.reduceMul, Int.reduceNeg, Int.reducePow, Int.reduceLT, Int.reduceLE, Int.reduceEq, Int.reduceNe, Int.reduceBEq, Int.reduceBNe, Int.reduceDiv, Int.reduceMod, Nat.reducePow, ↓reduceIte, reduceCtorEq, Nat.reduceEqDiff, Nat.reduceLT, Nat.reduceLeDiff, Nat.reduceAdd, Nat.reduceSub, Nat.reduceMul, Nat.reduceBEq, Nat.reduceBNe, hr, eR, hne, h0, h2]); (first | (apply oThen_intro; (first | (refine hrr _ _ (by kernel_rfl) ?_) | (refine hrr _ ?_ ?_) | (refine hrr _ ?_)) <;> clear hrr rr) | (apply oThen_gcond)))
              | (apply wpS_skip1)
              | (apply wpS_block)
              | ((first | apply wpS_seq_goto | apply wpS_seq_exit | apply wpS_seq_ret); (try simp only [thenS, blockS, ↓reduceIte, Nat.reduceEqDiff]))
              | (apply wpS_seq_cond)
              | (apply wpS_seq_block)
              | (apply wpS_seq_loop)
              | (apply wpS_seq_scope)
              | (apply wpS_seq_seq)
              | ((first | refine wpS_regL rfl ?_ | refine wpS_drawL rfl ?_ | apply wpS_condT); intro rr hrr; (simp -implicitDefEqProofs +contextual (maxSteps := 10000000) (disch := first | assumption | with_unfolding_all exact id rfl | omega | decide) only [go_sem, Int.reduceToNat, Int.reduceAdd, Int.reduceSub, Int.reduceMul, Int.reduceNeg, Int.reducePow, Int.reduceLT, Int.reduceLE, Int.reduceEq, Int.reduceNe, Int.reduceBEq, Int.reduceBNe, Int.reduceDiv, Int.reduceMod, Nat.reducePow, ↓reduceIte, reduceCtorEq, Nat.reduceEqDiff, Nat.reduceLT, Nat.reduceLeDiff, Nat.reduceAdd, Nat.reduceSub, Nat.reduceMul, Nat.reduceBEq, Nat.reduceBNe, hr, eR, hne, h0, h2]); (first | ((apply oThen_intro; (first | (refine hrr _ _ (by kernel_rfl) ?_) | (refine hrr _ ?_ ?_) | (refine hrr _ ?_)) <;> clear hrr rr); (try dsimp only [thenS, blockS])) | (apply oThen_gcond)))
              | ((first | apply wpS_skip | apply wpS_exit | apply wpS_goto | apply wpS_ret); (try simp only [thenS, blockS, ↓reduceIte, Nat.reduceEqDiff]))
              | (apply oThen_intro; (first | (refine hrr _ _ (by kernel_rfl) ?_) | (refine hrr _ ?_ ?_) | (refine hrr _ ?_)) <;> clear hrr rr)
              | (apply oThen_gcond)
              | (intro hb; first | (exact absurd hb (by decide)) | (simp only [decide_eq_true_eq, decide_eq_false_iff_not, beq_iff_eq, bne_iff_ne, ne_eq, beq_eq_false_iff_ne, bne_eq_false_iff_eq, Bool.not_eq_true', Bool.not_eq_false', Bool.not_eq_eq_eq_not, Bool.not_true, Bool.not_false, Int.not_lt, Int.not_le, gt_iff_lt, ge_iff_le, Bool.or_eq_true, Bool.and_eq_true, Bool.or_eq_false_iff, Decidable.not_not] at hb) | skip))
          apply wpS_label1
          exact ih2 (i + 1) acc _ _ [] _ _ _ _ (by omega) (by omega) (by omega) (by simp) (by rw [hxy] at hs; exact hs)
      · have heq : (i : Int) = l.length := by omega
        repeat' (first
            | ((first | apply wpS_stepT | apply wpS_stepDT); intro rr hrr; (simp -implicitDefEqProofs +contextual (maxSteps := 10000000) (disch := first | assumption | with_unfolding_all exact id rfl | omega | decide) only [go_sem, Int.reduceToNat, Int.reduceAdd, Int.reduceSub, Int.reduceMul, Int.reduceNeg, Int.reducePow, Int.reduceLT, Int.reduceLE, Int.reduceEq, Int.reduceNe, Int.reduceBEq, Int.reduceBNe, Int.reduceDiv, Int.reduceMod, Nat.reducePow, ↓reduceIte, reduceCtorEq, Nat.reduceEqDiff, Nat.reduceLT, Nat.reduceLeDiff, Nat.reduceAdd, Nat.reduceSub, Nat.reduceMul, Nat.reduceBEq, Nat.reduceBNe, heq]); (first | (apply oThen_intro; (first | (refine hrr _ _ (by kernel_rfl) ?_) | (refine hrr _ ?_ ?_) | (refine hrr _ ?_)) <;> clear hrr rr) | (apply oThen_gcond)))
            | (apply wpS_skip1)
            | (apply wpS_block)
            | ((first | apply wpS_seq_goto | apply wpS_seq_exit | apply wpS_seq_ret); (try simp only [thenS, blockS, ↓reduceIte, Nat.reduceEqDiff]))
            | (apply wpS_seq_cond)
            | (apply wpS_seq_block)
            | (apply wpS_seq_loop)
            | (apply wpS_seq_scope)
            | (apply wpS_seq_seq)
            | ((first | refine wpS_regL rfl ?_ | refine wpS_drawL rfl ?_ | apply wpS_condT); intro rr hrr; (simp -implicitDefEqProofs +contextual (maxSteps := 10000000) (disch := first | assumption | with_unfolding_all exact id rfl | omega | decide) only [go_sem, Int.reduceToNat, Int.reduceAdd, Int.reduceSub, Int.reduceMul, Int.reduceNeg, Int.reducePow, Int.reduceLT, Int.reduceLE, Int.reduceEq, Int.reduceNe, Int.reduceBEq, Int.reduceBNe, Int.reduceDiv, Int.reduceMod, Nat.reducePow, ↓reduceIte, reduceCtorEq, Nat.reduceEqDiff, Nat.reduceLT, Nat.reduceLeDiff, Nat.reduceAdd, Nat.reduceSub, Nat.reduceMul, Nat.reduceBEq, Nat.reduceBNe, heq]); (first | ((apply oThen_intro; (first | (refine hrr _ _ (by kernel_rfl) ?_) | (refine hrr _ ?_ ?_) | (refine hrr _ ?_)) <;> clear hrr rr); (try dsimp only [thenS, blockS])) | (apply oThen_gcond)))
            | ((first | apply wpS_skip | apply wpS_exit | apply wpS_goto | apply wpS_ret); (try simp only [thenS, blockS, ↓reduceIte, Nat.reduceEqDiff]))
            | (apply oThen_intro; (first | (refine hrr _ _ (by kernel_rfl) ?_) | (refine hrr _ ?_ ?_) | (refine hrr _ ?_)) <;> clear hrr rr)
            | (apply oThen_gcond)
            | (intro hb; first | (exact absurd hb (by decide)) | (simp only [decide_eq_true_eq, decide_eq_false_iff_not, beq_iff_eq, bne_iff_ne, ne_eq, beq_eq_false_iff_ne, bne_eq_false_iff_eq, Bool.not_eq_true', Bool.not_eq_false', Bool.not_eq_eq_eq_not, Bool.not_true, Bool.not_false, Int.not_lt, Int.not_le, gt_iff_lt, ge_iff_le, Bool.or_eq_true, Bool.and_eq_true, Bool.or_eq_false_iff, Decidable.not_not] at hb) | skip))
        apply lpS_ret
        (refine ⟨by simp, ?_⟩; (simp -implicitDefEqProofs +contextual (maxSteps := 10000000) (disch := first | assumption | with_unfolding_all exact id rfl | omega | decide) only [go_sem, Int.reduceToNat, Int.reduceAdd, Int.reduceSub, Int.reduceMul, Int.reduceNeg, Int.reducePow, Int.reduceLT, Int.reduceLE, Int.reduceEq, Int.reduceNe, Int.reduceBEq, Int.reduceBNe, Int.reduceDiv, Int.reduceMod, Nat.reducePow, ↓reduceIte, reduceCtorEq, Nat.reduceEqDiff, Nat.reduceLT, Nat.reduceLeDiff, Nat.reduceAdd, Nat.reduceSub, Nat.reduceMul, Nat.reduceBEq, Nat.reduceBNe, sub_Split]))
        rw [← hs, List.drop_eq_nil_of_le (by omega)]; rfl
    · intro i acc k p rs b0 b1 b2 b3 hm hi ha hrs hs
      rcases Nat.lt_or_ge i l.length with hlt | hge
      · obtain ⟨r, hr⟩ := get_lt hlt
        have hne : ¬ (i : Int) = l.length := by omega
        obtain ⟨hr1, hr2⟩ := h r (mem_get hr)
        rw [drop_get hr] at hs
        by_cases hT : r.ty = 2057
        · repeat' (first
            | ((first | apply wpS_stepT | apply wpS_stepDT); intro rr hrr; (simp -implicitDefEqProofs +contextual (maxSteps := 10000000) (disch := first | assumption | with_unfolding_all exact id rfl | omega | decide) only [go_sem, Int.reduceToNat, Int.reduceAdd, Int.reduceSub, Int.reduceMul, Int.reduceNeg, Int.reducePow, Int.reduceLT, Int.reduceLE, Int.reduceEq, Int.reduceNe, Int.reduceBEq, Int.reduceBNe, Int.reduceDiv, Int.reduceMod, Nat.reducePow, ↓reduceIte, reduceCtorEq, Nat.reduceEqDiff, Nat.reduceLT, Nat.reduceLeDiff, Nat.reduceAdd, Nat.reduceSub, Nat.reduceMul, Nat.reduceBEq, Nat.reduceBNe, hr, eR, hne, hT]); (first | (apply oThen_intro; (first | (refine hrr _ _ (by kernel_rfl) ?_) | (refine hrr _ ?_ ?_) | (refine hrr _ ?_)) <;> clear hrr rr) | (apply oThen_gcond)))
            | (apply wpS_skip1)
            | (apply wpS_block)
            | ((first | apply wpS_seq_goto | apply wpS_seq_exit | apply wpS_seq_ret); (try simp only [thenS, blockS, ↓reduceIte, Nat.reduceEqDiff]))
            | (apply wpS_seq_cond)
            | (apply wpS_seq_block)
            | (apply wpS_seq_loop)
            | (apply wpS_seq_scope)
            | (apply wpS_seq_seq)
            | ((first | refine wpS_regL rfl ?_ | refine wpS_drawL rfl ?_ | apply wpS_condT); intro rr hrr; (simp -implicitDefEqProofs +contextual (maxSteps := 10000000) (disch := first | assumption | with_unfolding_all exact id rfl | omega | decide) only [go_sem, Int.reduceToNat, Int.reduceAdd, Int.reduceSub, Int.reduceMul, Int.reduceNeg, Int.reducePow, Int.reduceLT, Int.reduceLE, Int.reduceEq, Int.reduceNe, Int.reduceBEq, Int.reduceBNe, Int.reduceDiv, Int.reduceMod, Nat.reducePow, ↓reduceIte, reduceCtorEq, Nat.reduceEqDiff, Nat.reduceLT, Nat.reduceLeDiff, Nat.reduceAdd, Nat.reduceSub, Nat.reduceMul, Nat.reduceBEq, Nat.reduceBNe, hr, eR, hne, hT]); (first | ((apply oThen_intro; (first | (refine hrr _ _ (by kernel_rfl) ?_) | (refine hrr _ ?_ ?_) | (refine hrr _ ?_)) <;> clear hrr rr); (try dsimp only [thenS, blockS])) | (apply oThen_gcond)))
            | ((first | apply wpS_skip | apply wpS_exit | apply wpS_goto | apply wpS_ret); (try simp only [thenS, blockS, ↓reduceIte, Nat.reduceEqDiff]))
            | (apply oThen_intro; (first | (refine hrr _ _ (by kernel_rfl) ?_) | (refine hrr _ ?_ ?_) | (refine hrr _ ?_)) <;> clear hrr rr)
            | (apply oThen_gcond)
            | (intro hb; first | (exact absurd hb (by decide)) | (simp only [decide_eq_true_eq, decide_eq_false_iff_not, beq_iff_eq, bne_iff_ne, ne_eq, beq_eq_false_iff_ne, bne_eq_false_iff_eq, Bool.not_eq_true', Bool.not_eq_false', Bool.not_eq_eq_eq_not, Bool.not_true, Bool.not_false, Int.not_lt, Int.not_le, gt_iff_lt, ge_iff_le, Bool.or_eq_true, Bool.and_eq_true, Bool.or_eq_false_iff, Decidable.not_not] at hb) | skip))
          exact wrong _ _ (by rw [← hs]; unfold split; rw [if_pos hT])
        by_cases hE : r.ty = 10
        · repeat' (first
            | ((first | apply wpS_stepT | apply wpS_stepDT); intro rr hrr; (simp -implicitDefEqProofs +contextual (maxSteps := 10000000) (disch := first | assumption | with_unfolding_all exact id rfl | omega | decide) only [go_sem, Int.reduceToNat, Int.reduceAdd, Int.reduceSub, Int.reduceMul, Int.reduceNeg, Int.reducePow, Int.reduceLT, Int.reduceLE, Int.reduceEq, Int.reduceNe, Int.reduceBEq, Int.reduceBNe, Int.reduceDiv, Int.reduceMod, Nat.reducePow, ↓reduceIte, reduceCtorEq, Nat.reduceEqDiff, Nat.reduceLT, Nat.reduceLeDiff, Nat.reduceAdd, Nat.reduceSub, Nat.reduceMul, Nat.reduceBEq, Nat.reduceBNe, hr, eR, hne, hE]); (first | (apply oThen_intro; (first | (refine hrr _ _ (by kernel_rfl) ?_) | (refine hrr _ ?_ ?_) | (refine hrr _ ?_)) <;> clear hrr rr) | (apply oThen_gcond)))
            | (apply wpS_skip1)
            | (apply wpS_block)
            | ((first | apply wpS_seq_goto | apply wpS_seq_exit | apply wpS_seq_ret); (try simp only [thenS, blockS, ↓reduceIte, Nat.reduceEqDiff]))
            | (apply wpS_seq_cond)
            | (apply wpS_seq_block)
            | (apply wpS_seq_loop)
            | (apply wpS_seq_scope)
            | (apply wpS_seq_seq)
            | ((first | refine wpS_regL rfl ?_ | refine wpS_drawL rfl ?_ | apply wpS_condT); intro rr hrr; (simp -implicitDefEqProofs +contextual (maxSteps := 10000000) (disch := first | assumption | with_unfolding_all exact id rfl | omega | decide) only [go_sem, Int.reduceToNat, Int.reduceAdd, Int.reduceSub, Int.reduceMul, Int.reduceNeg, Int.reducePow, Int.reduceLT, Int.reduceLE, Int.reduceEq, Int.reduceNe, Int.reduceBEq, Int.reduceBNe, Int.reduceDiv, Int.reduceMod, Nat.reducePow, ↓reduceIte, reduceCtorEq, Nat.reduceEqDiff, Nat.reduceLT, Nat.reduceLeDiff, Nat.reduceAdd, Nat.reduceSub, Nat.reduceMul, Nat.reduceBEq, Nat.reduceBNe, hr, eR, hne, hE]); (first | ((apply oThen_intro; (first | (refine hrr _ _ (by kernel_rfl) ?_) | (refine hrr _ ?_ ?_) | (refine hrr _ ?_)) <;> clear hrr rr); (try dsimp only [thenS, blockS])) | (apply oThen_gcond)))
            | ((first | apply wpS_skip | apply wpS_exit | apply wpS_goto | apply wpS_ret); (try simp only [thenS, blockS, ↓reduceIte, Nat.reduceEqDiff]))
            | (apply oThen_intro; (first | (refine hrr _ _ (by kernel_rfl) ?_) | (refine hrr _ ?_ ?_) | (refine hrr _ ?_)) <;> clear hrr rr)
            | (apply oThen_gcond)
            | (intro hb; first | (exact absurd hb (by decide)) | (simp only [decide_eq_true_eq, decide_eq_false_iff_not, beq_iff_eq, bne_iff_ne, ne_eq, beq_eq_false_iff_ne, bne_eq_false_iff_eq, Bool.not_eq_true', Bool.not_eq_false', Bool.not_eq_eq_eq_not, Bool.not_true, Bool.not_false, Int.not_lt, Int.not_le, gt_iff_lt, ge_iff_le, Bool.or_eq_true, Bool.and_eq_true, Bool.or_eq_false_iff, Decidable.not_not] at hb) | skip))
          · exact wrong _ _ (by rw [← hs]; unfold split; (repeat' split) <;> first | rfl | (exfalso; omega))
          rw [split_eof (by omega) (by omega)] at hs
          rw [show acc.map oS ++ [oS ⟨k, rs⟩] = (acc ++ [S.mk k rs]).map oS by simp]
          exact lpS_goto rfl (wpS_skip1 (WpS.keepE [0, 2, 5, 6] (ih1 (i + 1) (acc ++ [S.mk k rs]) _ _ _ _ (by omega) (by omega) (by simp; omega) hs) rfl))
        rw [split_rec hT hE] at hs
        have hz : ((acc.map oS ++ [oS ⟨k, rs⟩]).length : Int) = ((acc.length + 1 : Nat) : Int) := by simp
        repeat' (first
            | ((first | apply wpS_stepT | apply wpS_stepDT); intro rr hrr; (simp -implicitDefEqProofs +contextual (maxSteps := 10000000) (disch := first | assumption | with_unfolding_all exact id rfl | omega | decide) only [go_sem, Int.reduceToNat, Int.reduceAdd, Int.reduceSub, Int.reduceMul, Int.reduceNeg, Int.reducePow, Int.reduceLT, Int.reduceLE, Int.reduceEq, Int.reduceNe, Int.reduceBEq, Int.reduceBNe, Int.reduceDiv, Int.reduceMod, Nat.reducePow, ↓reduceIte, reduceCtorEq, Nat.reduceEqDiff, Nat.reduceLT, Nat.reduceLeDiff, Nat.reduceAdd, Nat.reduceSub, Nat.reduceMul, Nat.reduceBEq, Nat.reduceBNe, hr, eR, hne, hT, hE, oS]); (first | (apply oThen_intro; (first | (refine hrr _ _ (by kernel_rfl) ?_) | (refine hrr _ ?_ ?_) | (refine hrr _ ?_)) <;> clear hrr rr) | (apply oThen_gcond)))
            | (apply wpS_skip1)
            | (apply wpS_block)
            | ((first | apply wpS_seq_goto | apply wpS_seq_exit | apply wpS_seq_ret); (try simp only [thenS, blockS, ↓reduceIte, Nat.reduceEqDiff]))
            | (apply wpS_seq_cond)
            | (apply wpS_seq_block)
            | (apply wpS_seq_loop)
            | (apply wpS_seq_scope)
            | (apply wpS_seq_seq)
            | ((first | refine wpS_regL rfl ?_ | refine wpS_drawL rfl ?_ | apply wpS_condT); intro rr hrr; (simp -implicitDefEqProofs +contextual (maxSteps := 10000000) (disch := first | assumption | with_unfolding_all exact id rfl | omega | decide) only [go_sem, Int.reduceToNat, Int.reduceAdd, Int.reduceSub, Int.reduceMul, Int.reduceNeg, Int.reducePow, Int.reduceLT, Int.reduceLE, Int.reduceEq, Int.reduceNe, Int.reduceBEq, Int.reduceBNe, Int.reduceDiv, Int.reduceMod, Nat.reducePow, ↓reduceIte, reduceCtorEq, Nat.reduceEqDiff, Nat.reduceLT, Nat.reduceLeDiff, Nat.reduceAdd, Nat.reduceSub, Nat.reduceMul, Nat.reduceBEq, Nat.reduceBNe, hr, eR, hne, hT, hE, oS]); (first | ((apply oThen_intro; (first | (refine hrr _ _ (by kernel_rfl) ?_) | (refine hrr _ ?_ ?_) | (refine hrr _ ?_)) <;> clear hrr rr); (try dsimp only [thenS, blockS])) | (apply oThen_gcond)))
            | ((first | apply wpS_skip | apply wpS_exit | apply wpS_goto | apply wpS_ret); (try simp only [thenS, blockS, ↓reduceIte, Nat.reduceEqDiff]))
            | (apply oThen_intro; (first | (refine hrr _ _ (by kernel_rfl) ?_) | (refine hrr _ ?_ ?_) | (refine hrr _ ?_)) <;> clear hrr rr)
            | (apply oThen_gcond)
            | (intro hb; first | (exact absurd hb (by decide)) | (simp only [decide_eq_true_eq, decide_eq_false_iff_not, beq_iff_eq, bne_iff_ne, ne_eq, beq_eq_false_iff_ne, bne_eq_false_iff_eq, Bool.not_eq_true', Bool.not_eq_false', Bool.not_eq_eq_eq_not, Bool.not_true, Bool.not_false, Int.not_lt, Int.not_le, gt_iff_lt, ge_iff_le, Bool.or_eq_true, Bool.and_eq_true, Bool.or_eq_false_iff, Decidable.not_not] at hb) | skip))
        have e : oS ⟨k, rs ++ [r]⟩ = [.p (.int .i64 k), .own 4 (plains (rs.map eR) ++ [[.p (.int .i64 r.ty), .p (.sl 1 (ofBytes r.data)), .p (.sl 1 (eI r.cuts)), .p (.int .i64 r.at_)]])] := by simp [oS, plains, eR]
        have := ih2 (i + 1) acc k p (rs ++ [r]) (.p (.int .i64 r.ty)) (.p (.sl 1 (ofBytes r.data))) (.p (.sl 1 (eI r.cuts))) (.p (.int .i64 r.at_)) (by omega) (by omega) (by omega) (by simp; omega) hs
        rw [e] at this
        exact lpS_goto rfl (wpS_skip1 this)
      · have heq : (i : Int) = l.length := by omega
        repeat' (first
            | ((first | apply wpS_stepT | apply wpS_stepDT); intro rr hrr; (simp -implicitDefEqProofs +contextual (maxSteps := 10000000) (disch := first | assumption | with_unfolding_all exact id rfl | omega | decide) only [go_sem, Int.reduceToNat, Int.reduceAdd, Int.reduceSub, Int.reduceMul, Int.reduceNeg, Int.reducePow, Int.reduceLT, Int.reduceLE, Int.reduceEq, Int.reduceNe, Int.reduceBEq, Int.reduceBNe, Int.reduceDiv, Int.reduceMod, Nat.reducePow, ↓reduceIte, reduceCtorEq, Nat.reduceEqDiff, Nat.reduceLT, Nat.reduceLeDiff, Nat.reduceAdd, Nat.reduceSub, Nat.reduceMul, Nat.reduceBEq, Nat.reduceBNe, heq]); (first | (apply oThen_intro; (first | (refine hrr _ _ (by kernel_rfl) ?_) | (refine hrr _ ?_ ?_) | (refine hrr _ ?_)) <;> clear hrr rr) | (apply oThen_gcond)))
            | (apply wpS_skip1)
            | (apply wpS_block)
            | ((first | apply wpS_seq_goto | apply wpS_seq_exit | apply wpS_seq_ret); (try simp only [thenS, blockS, ↓reduceIte, Nat.reduceEqDiff]))
            | (apply wpS_seq_cond)
            | (apply wpS_seq_block)
            | (apply wpS_seq_loop)
            | (apply wpS_seq_scope)
            | (apply wpS_seq_seq)
            | ((first | refine wpS_regL rfl ?_ | refine wpS_drawL rfl ?_ | apply wpS_condT); intro rr hrr; (simp -implicitDefEqProofs +contextual (maxSteps := 10000000) (disch := first | assumption | with_unfolding_all exact id rfl | omega | decide) only [go_sem, Int.reduceToNat, Int.reduceAdd, Int.reduceSub, Int.reduceMul, Int.reduceNeg, Int.reducePow, Int.reduceLT, Int.reduceLE, Int.reduceEq, Int.reduceNe, Int.reduceBEq, Int.reduceBNe, Int.reduceDiv, Int.reduceMod, Nat.reducePow, ↓reduceIte, reduceCtorEq, Nat.reduceEqDiff, Nat.reduceLT, Nat.reduceLeDiff, Nat.reduceAdd, Nat.reduceSub, Nat.reduceMul, Nat.reduceBEq, Nat.reduceBNe, heq]); (first | ((apply oThen_intro; (first | (refine hrr _ _ (by kernel_rfl) ?_) | (refine hrr _ ?_ ?_) | (refine hrr _ ?_)) <;> clear hrr rr); (try dsimp only [thenS, blockS])) | (apply oThen_gcond)))
            | ((first | apply wpS_skip | apply wpS_exit | apply wpS_goto | apply wpS_ret); (try simp only [thenS, blockS, ↓reduceIte, Nat.reduceEqDiff]))
            | (apply oThen_intro; (first | (refine hrr _ _ (by kernel_rfl) ?_) | (refine hrr _ ?_ ?_) | (refine hrr _ ?_)) <;> clear hrr rr)
            | (apply oThen_gcond)
            | (intro hb; first | (exact absurd hb (by decide)) | (simp only [decide_eq_true_eq, decide_eq_false_iff_not, beq_iff_eq, bne_iff_ne, ne_eq, beq_eq_false_iff_ne, bne_eq_false_iff_eq, Bool.not_eq_true', Bool.not_eq_false', Bool.not_eq_eq_eq_not, Bool.not_true, Bool.not_false, Int.not_lt, Int.not_le, gt_iff_lt, ge_iff_le, Bool.or_eq_true, Bool.and_eq_true, Bool.or_eq_false_iff, Decidable.not_not] at hb) | skip))
        exact wrong _ _ (by rw [← hs, List.drop_eq_nil_of_le (by omega)]; rfl)
  exact (key _).1 0 [] _ _ _ _ (Nat.lt_succ_self _) (by omega) (by simp) rfl
end Go.Pv.Cb
