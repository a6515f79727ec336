/- What the functions that RecFronts reaches compute: a part. -/
import Derived.Test.YtcghkmihbfibkaaRec7
set_option linter.all false
namespace Go.Pv.Cb
open Go.Pv
set_option maxRecDepth 10000
set_option maxHeartbeats 4000000
set_option linter.unusedSimpArgs false
theorem kn_r1 : ansOf E F_rec_Read [.w (.p (.sl 1 [[.int .u8 1], [.int .u8 2], [.int .u8 2], [.int .u8 0], [.int .u8 7], [.int .u8 8], [.int .u8 60], [.int .u8 0], [.int .u8 1], [.int .u8 0], [.int .u8 9], [.int .u8 5], [.int .u8 0], [.int .u8 0], [.int .u8 0]]))] = some ([(false, [.own 4 [[.p (.int .i64 513), .own 1 (plains (ofBytes [7, 8, 9])), .own 1 (plains (eI [2])), .p (.int .i64 0)], [.p (.int .i64 5), .own 1 (plains (ofBytes [])), .own 1 (plains (eI [])), .p (.int .i64 11)]]]), (false, [.p (.int .i64 0)]), (false, [.p (.int .i64 0)])], []) := (Read_spec [1, 2, 2, 0, 7, 8, 60, 0, 1, 0, 9, 5, 0, 0, 0] (by decide)).trans (by kernel_rfl)
theorem kn_r2 : ansOf E F_rec_Read [.w (.p (.sl 1 [[.int .u8 1], [.int .u8 2], [.int .u8 2], [.int .u8 0], [.int .u8 7], [.int .u8 8], [.int .u8 60], [.int .u8 0], [.int .u8 1]]))] = some ([(false, [.own 4 []]), (false, [.p (.int .i64 6)]), (false, [.p (.int .i64 5)])], []) := (Read_spec [1, 2, 2, 0, 7, 8, 60, 0, 1] (by decide)).trans (by kernel_rfl)
theorem kn_r3 : ansOf E F_rec_Read [.w (.p (.sl 1 [[.int .u8 60], [.int .u8 0], [.int .u8 0], [.int .u8 0]]))] = some ([(false, [.own 4 []]), (false, [.p (.int .i64 0)]), (false, [.p (.int .i64 6)])], []) := (Read_spec [60, 0, 0, 0] (by decide)).trans (by kernel_rfl)
theorem kn_r4 : ansOf E F_rec_Read [.w (.p (.sl 1 [[.int .u8 1], [.int .u8 0], [.int .u8 225], [.int .u8 0]]))] = some ([(false, [.own 4 []]), (false, [.p (.int .i64 0)]), (false, [.p (.int .i64 4)])], []) := (Read_spec [1, 0, 225, 0] (by decide)).trans (by kernel_rfl)
theorem kn_r5 : ansOf E F_rec_Read [.w (.p (.sl 1 [[.int .u8 1], [.int .u8 0], [.int .u8 0], [.int .u8 0], [.int .u8 60], [.int .u8 0], [.int .u8 1], [.int .u8 0], [.int .u8 5]]))] = some ([(false, [.own 4 []]), (false, [.p (.int .i64 4)]), (false, [.p (.int .i64 2)])], []) := (Read_spec [1, 0, 0, 0, 60, 0, 1, 0, 5] (by decide)).trans (by kernel_rfl)
theorem kn_w1 : ansOf E F_rec_Write [.w (.p (.sl 4 [[.int .i64 513, .sl 1 (ofBytes [7, 8, 9]), .sl 1 (eI [2]), .int .i64 0], [.int .i64 5, .sl 1 (ofBytes []), .sl 1 (eI []), .int .i64 11]]))] = some ([(false, [.own 1 (plains (ofBytes [1, 2, 2, 0, 7, 8, 60, 0, 1, 0, 9, 5, 0, 0, 0]))]), (false, [.p (.int .i64 0)])], []) := (Write_spec [⟨513, [7, 8, 9], [2], 0⟩, ⟨5, [], [], 11⟩] (by decide) (by decide)).trans (by kernel_rfl)
theorem kn_c0 : ansOf E F_rec_Cut [.a [.p (.int .i64 1), .p (.sl 1 (ofBytes (zerosB 500))), .p (.sl 1 []), .p (.int .i64 0)]] = some ([(true, oR ⟨1, zerosB 500, [224, 448], 0⟩)], []) := Cut_spec 1 0 (zerosB 500) [] (by decide +kernel)
theorem kn_c1 : cuts224 500 = [224, 448] := rfl
theorem kn_b1 : bytesOf [[.int .u8 1], [.int .u8 2], [.int .u8 2], [.int .u8 0], [.int .u8 7], [.int .u8 8], [.int .u8 60], [.int .u8 0], [.int .u8 1], [.int .u8 0], [.int .u8 9], [.int .u8 5], [.int .u8 0], [.int .u8 0], [.int .u8 0]] = some [1, 2, 2, 0, 7, 8, 60, 0, 1, 0, 9, 5, 0, 0, 0] := rfl
theorem kn_k1 : chk 60 [] [] = 1 := rfl
theorem kn_k2 : chk 0 [1] [1] = 6 := rfl
theorem kn_k3 : chk 1 (zerosB 500) [224, 448] = 0 := by decide +kernel
theorem kn_q1 : ansOf E F_rec_Check [.a [.p (.int .i64 60), .p (.sl 1 []), .p (.sl 1 []), .p (.int .i64 0)]] = some ([(false, [.p (.int .i64 1)])], []) := Check_spec 60 0 [] [] (by decide) (by decide)
theorem kn_q2 : ansOf E F_rec_Check [.a [.p (.int .i64 0), .p (.sl 1 [[.int .u8 1]]), .p (.sl 1 [[.int .i64 1]]), .p (.int .i64 0)]] = some ([(false, [.p (.int .i64 6)])], []) := Check_spec 0 0 [1] [1] (by decide) (by decide)
theorem known_spec : ansOf E F_law1_known [] = some ([(false, [.p (.bool true)])], []) := by
  refine law1_known_ans rfl rfl ?_
  repeat' (first
      | ((first | apply wpS_stepT | apply wpS_stepDT); intro rr hrr; (simp -implicitDefEqProofs +contextual (maxSteps := 10000000) (disch := first | assumption | with_unfolding_all exact id rfl | omega | decide) only [go_sem, Int.reduceToNat, Int.reduceAdd, Int.reduceSub, Int.reduceMul, Int.reduceNeg, Int.reducePow, Int.reduceLT, Int.reduceLE, Int.reduceEq, Int.reduceNe, Int.reduceBEq, Int.reduceBNe, Int.reduceDiv, Int.reduceMod, Nat.reducePow, ↓reduceIte, reduceCtorEq, Nat.reduceEqDiff, Nat.reduceLT, Nat.reduceLeDiff, Nat.reduceAdd, Nat.reduceSub, Nat.reduceMul, Nat.reduceBEq, Nat.reduceBNe, kn_r1, kn_r2, kn_r3, kn_r4, kn_r5, kn_w1, kn_c1, kn_b1, kn_k1, kn_k2, kn_k3, kn_c0, kn_q1, kn_q2, Same_spec, Check_spec, Int.reduceNatCast, oR]); (first | (apply oThen_intro; (first | (refine hrr _ _ (by kernel_rfl) ?_) | (refine hrr _ ?_ ?_) | (refine hrr _ ?_)) <;> clear hrr rr) | (apply oThen_gcond)))
      | (apply wpS_label1)
      | (apply wpS_skip1)
      | (apply wpS_block)
      | ((first | apply wpS_seq_goto | apply wpS_seq_exit | apply wpS_seq_ret); (try simp only [thenS, blockS, ↓reduceIte, Nat.reduceEqDiff]))
      | (apply wpS_seq_cond)
      | (apply wpS_seq_block)
      | (apply wpS_seq_loop)
      | (apply wpS_seq_scope)
      | (apply wpS_seq_seq)
      | ((first | refine wpS_regL rfl ?_ | refine wpS_drawL rfl ?_ | apply wpS_condT); intro rr hrr; (simp -implicitDefEqProofs +contextual (maxSteps := 10000000) (disch := first | assumption | with_unfolding_all exact id rfl | omega | decide) only [go_sem, Int.reduceToNat, Int.reduceAdd, Int.reduceSub, Int.reduceMul, Int.reduceNeg, Int.reducePow, Int.reduceLT, Int.reduceLE, Int.reduceEq, Int.reduceNe, Int.reduceBEq, Int.reduceBNe, Int.reduceDiv, Int.reduceMod, Nat.reducePow, ↓reduceIte, reduceCtorEq, Nat.reduceEqDiff, Nat.reduceLT, Nat.reduceLeDiff, Nat.reduceAdd, Nat.reduceSub, Nat.reduceMul, Nat.reduceBEq, Nat.reduceBNe, kn_r1, kn_r2, kn_r3, kn_r4, kn_r5, kn_w1, kn_c1, kn_b1, kn_k1, kn_k2, kn_k3, kn_c0, kn_q1, kn_q2, Same_spec, Check_spec, Int.reduceNatCast, oR]); (first | ((apply oThen_intro; (first | (refine hrr _ _ (by kernel_rfl) ?_) | (refine hrr _ ?_ ?_) | (refine hrr _ ?_)) <;> clear hrr rr); (try dsimp only [thenS, blockS])) | (apply oThen_gcond)))
      | ((first | apply wpS_skip | apply wpS_exit | apply wpS_goto | apply wpS_ret); (try simp only [thenS, blockS, ↓reduceIte, Nat.reduceEqDiff]))
      | (apply oThen_intro; (first | (refine hrr _ _ (by kernel_rfl) ?_) | (refine hrr _ ?_ ?_) | (refine hrr _ ?_)) <;> clear hrr rr)
      | (apply oThen_gcond)
      | (intro hb; first | (exact absurd hb (by decide)) | (simp only [decide_eq_true_eq, decide_eq_false_iff_not, beq_iff_eq, bne_iff_ne, ne_eq, beq_eq_false_iff_ne, bne_eq_false_iff_eq, Bool.not_eq_true', Bool.not_eq_false', Bool.not_eq_eq_eq_not, Bool.not_true, Bool.not_false, Int.not_lt, Int.not_le, gt_iff_lt, ge_iff_le, Bool.or_eq_true, Bool.and_eq_true, Bool.or_eq_false_iff, Decidable.not_not] at hb) | skip))
  (refine ⟨by simp, ?_⟩; (simp -implicitDefEqProofs +contextual (maxSteps := 10000000) (disch := first | assumption | with_unfolding_all exact id rfl | omega | decide) only [go_sem, Int.reduceToNat, Int.reduceAdd, Int.reduceSub, Int.reduceMul, Int.reduceNeg, Int.reducePow, Int.reduceLT, Int.reduceLE, Int.reduceEq, Int.reduceNe, Int.reduceBEq, Int.reduceBNe, Int.reduceDiv, Int.reduceMod, Nat.reducePow, ↓reduceIte, reduceCtorEq, Nat.reduceEqDiff, Nat.reduceLT, Nat.reduceLeDiff, Nat.reduceAdd, Nat.reduceSub, Nat.reduceMul, Nat.reduceBEq, Nat.reduceBNe, law1_known]))

end Go.Pv.Cb
