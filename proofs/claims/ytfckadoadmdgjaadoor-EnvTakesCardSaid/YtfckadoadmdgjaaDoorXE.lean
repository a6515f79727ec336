/- What the functions that EnvTakes reaches compute: a part. -/
import Derived.Test.YtfckadoadmdgjaaDoorXD
set_option linter.all false
namespace Go.Pv.Cb
set_option linter.unusedSimpArgs false
open Go.Pv
set_option maxRecDepth 10000
set_option maxHeartbeats 4000000
abbrev zV (v : Vl) : Prop := v.k = 0 ∧ v.m = 0 ∧ v.c = 0 ∧ v.s = [] ∧ v.b = false ∧ v.e = 0
abbrev zR (r : Rf) : Prop := r.row = 0 ∧ r.col = 0 ∧ r.rr = false ∧ r.rc = false
abbrev aloneQ (e : Tr) : Prop := (¬ e.k = 1 → zV e.v) ∧ (¬ (e.k = 2 ∨ e.k = 3 ∨ e.k = 4 ∨ e.k = 5) → zR e.a.a) ∧ (¬ (e.k = 3 ∨ e.k = 5) → zR e.a.b) ∧ (¬ (e.k = 4 ∨ e.k = 5) → e.sh = 0) ∧
  (¬ (e.k = 6 ∨ e.k = 7 ∨ e.k = 8 ∨ e.k = 9) → e.op = 0) ∧ (e.k = 1 ∨ e.k = 2 ∨ e.k = 3 ∨ e.k = 4 ∨ e.k = 5 ∨ e.k = 6 → e.ks.length = 0)
abbrev goodQ (r : Rf) : Prop := 0 ≤ r.row ∧ r.row < 65536 ∧ 0 ≤ r.col ∧ r.col < 256
abbrev cntQ (e : Tr) : Prop := (e.k = 6 → 0 ≤ e.op ∧ e.op ≤ 1023) ∧ (e.k = 7 → 1 ≤ e.op ∧ e.op ≤ 3 ∧ e.ks.length = 1) ∧ (e.k = 8 → 1 ≤ e.op ∧ e.op ≤ 12 ∧ e.ks.length = 2) ∧ (e.k = 9 → 0 ≤ e.op ∧ e.op ≤ 29 ∧ e.ks.length ≤ 30) ∧ (e.k = 10 → e.ks.length = 1)
theorem kinds (k : Int) : k = 1 ∨ k = 2 ∨ k = 3 ∨ k = 4 ∨ k = 5 ∨ k = 6 ∨ k = 7 ∨ k = 8 ∨ k = 9 ∨ (¬ k = 1 ∧ ¬ k = 2 ∧ ¬ k = 3 ∧ ¬ k = 4 ∧ ¬ k = 5 ∧ ¬ k = 6 ∧ ¬ k = 7 ∧ ¬ k = 8 ∧ ¬ k = 9) := by omega
theorem alone_spec (e : Tr) : ansOf E F_expr_alone [.a ((cT e).map OV.p)] = some ([(false, [.p (.bool (decide (aloneQ e)))])], []) := by
  rcases kinds e.k with h | h | h | h | h | h | h | h | h | ⟨h1, h2, h3, h4, h5, h6, h7, h8, h9⟩
  · have ho := own1 e h
    refine expr_alone_ans rfl rfl ?_
    repeat' (first | (simp -implicitDefEqProofs +contextual (maxSteps := 10000000) (disch := first | with_unfolding_all exact id rfl | assumption | ((fail_if_success (with_reducible refine isB ?_)); (first | omega | decide))) only [go_sem, v_n, ho, h]) | refine vIte_i (fun hb => ?_) fun hb => ?_ | refine vAp_i (by kernel_rfl) ?_ | refine vIf_i (fun hb => ?_) fun hb => ?_ | refine oT_Gi (fun hb => ?_) fun hb => ?_)
    all_goals clear ho
    all_goals (refine congrArg (fun b => OV.p (PV.bool b)) ?_; (first | rw [decide_eq_decide] | (symm; first | rw [decide_eq_false_iff_not] | rw [decide_eq_true_eq])); first | omega | grind)
  · have ho := own2 e h
    refine expr_alone_ans rfl rfl ?_
    repeat' (first | (simp -implicitDefEqProofs +contextual (maxSteps := 10000000) (disch := first | with_unfolding_all exact id rfl | assumption | ((fail_if_success (with_reducible refine isB ?_)); (first | omega | decide))) only [go_sem, v_n, ho, h]) | refine vIte_i (fun hb => ?_) fun hb => ?_ | refine vAp_i (by kernel_rfl) ?_ | refine vIf_i (fun hb => ?_) fun hb => ?_ | refine oT_Gi (fun hb => ?_) fun hb => ?_)
    all_goals clear ho
    all_goals (refine congrArg (fun b => OV.p (PV.bool b)) ?_; (first | rw [decide_eq_decide] | (symm; first | rw [decide_eq_false_iff_not] | rw [decide_eq_true_eq])); first | omega | grind)
  · have ho := own3 e h
    refine expr_alone_ans rfl rfl ?_
    repeat' (first | (simp -implicitDefEqProofs +contextual (maxSteps := 10000000) (disch := first | with_unfolding_all exact id rfl | assumption | ((fail_if_success (with_reducible refine isB ?_)); (first | omega | decide))) only [go_sem, v_n, ho, h]) | refine vIte_i (fun hb => ?_) fun hb => ?_ | refine vAp_i (by kernel_rfl) ?_ | refine vIf_i (fun hb => ?_) fun hb => ?_ | refine oT_Gi (fun hb => ?_) fun hb => ?_)
    all_goals clear ho
    all_goals (refine congrArg (fun b => OV.p (PV.bool b)) ?_; (first | rw [decide_eq_decide] | (symm; first | rw [decide_eq_false_iff_not] | rw [decide_eq_true_eq])); first | omega | grind)
  · have ho := own4 e h
    refine expr_alone_ans rfl rfl ?_
    repeat' (first | (simp -implicitDefEqProofs +contextual (maxSteps := 10000000) (disch := first | with_unfolding_all exact id rfl | assumption | ((fail_if_success (with_reducible refine isB ?_)); (first | omega | decide))) only [go_sem, v_n, ho, h]) | refine vIte_i (fun hb => ?_) fun hb => ?_ | refine vAp_i (by kernel_rfl) ?_ | refine vIf_i (fun hb => ?_) fun hb => ?_ | refine oT_Gi (fun hb => ?_) fun hb => ?_)
    all_goals clear ho
    all_goals (refine congrArg (fun b => OV.p (PV.bool b)) ?_; (first | rw [decide_eq_decide] | (symm; first | rw [decide_eq_false_iff_not] | rw [decide_eq_true_eq])); first | omega | grind)
  · have ho := own5 e h
    refine expr_alone_ans rfl rfl ?_
    repeat' (first | (simp -implicitDefEqProofs +contextual (maxSteps := 10000000) (disch := first | with_unfolding_all exact id rfl | assumption | ((fail_if_success (with_reducible refine isB ?_)); (first | omega | decide))) only [go_sem, v_n, ho, h]) | refine vIte_i (fun hb => ?_) fun hb => ?_ | refine vAp_i (by kernel_rfl) ?_ | refine vIf_i (fun hb => ?_) fun hb => ?_ | refine oT_Gi (fun hb => ?_) fun hb => ?_)
    all_goals clear ho
    all_goals (refine congrArg (fun b => OV.p (PV.bool b)) ?_; (first | rw [decide_eq_decide] | (symm; first | rw [decide_eq_false_iff_not] | rw [decide_eq_true_eq])); first | omega | grind)
  · have ho := own6 e h
    refine expr_alone_ans rfl rfl ?_
    repeat' (first | (simp -implicitDefEqProofs +contextual (maxSteps := 10000000) (disch := first | with_unfolding_all exact id rfl | assumption | ((fail_if_success (with_reducible refine isB ?_)); (first | omega | decide))) only [go_sem, v_n, ho, h]) | refine vIte_i (fun hb => ?_) fun hb => ?_ | refine vAp_i (by kernel_rfl) ?_ | refine vIf_i (fun hb => ?_) fun hb => ?_ | refine oT_Gi (fun hb => ?_) fun hb => ?_)
    all_goals clear ho
    all_goals (refine congrArg (fun b => OV.p (PV.bool b)) ?_; (first | rw [decide_eq_decide] | (symm; first | rw [decide_eq_false_iff_not] | rw [decide_eq_true_eq])); first | omega | grind)
  · have ho := own7 e h
    refine expr_alone_ans rfl rfl ?_
    repeat' (first | (simp -implicitDefEqProofs +contextual (maxSteps := 10000000) (disch := first | with_unfolding_all exact id rfl | assumption | ((fail_if_success (with_reducible refine isB ?_)); (first | omega | decide))) only [go_sem, v_n, ho, h]) | refine vIte_i (fun hb => ?_) fun hb => ?_ | refine vAp_i (by kernel_rfl) ?_ | refine vIf_i (fun hb => ?_) fun hb => ?_ | refine oT_Gi (fun hb => ?_) fun hb => ?_)
    all_goals clear ho
    all_goals (refine congrArg (fun b => OV.p (PV.bool b)) ?_; (first | rw [decide_eq_decide] | (symm; first | rw [decide_eq_false_iff_not] | rw [decide_eq_true_eq])); first | omega | grind)
  · have ho := own8 e h
    refine expr_alone_ans rfl rfl ?_
    repeat' (first | (simp -implicitDefEqProofs +contextual (maxSteps := 10000000) (disch := first | with_unfolding_all exact id rfl | assumption | ((fail_if_success (with_reducible refine isB ?_)); (first | omega | decide))) only [go_sem, v_n, ho, h]) | refine vIte_i (fun hb => ?_) fun hb => ?_ | refine vAp_i (by kernel_rfl) ?_ | refine vIf_i (fun hb => ?_) fun hb => ?_ | refine oT_Gi (fun hb => ?_) fun hb => ?_)
    all_goals clear ho
    all_goals (refine congrArg (fun b => OV.p (PV.bool b)) ?_; (first | rw [decide_eq_decide] | (symm; first | rw [decide_eq_false_iff_not] | rw [decide_eq_true_eq])); first | omega | grind)
  · have ho := own9 e h
    refine expr_alone_ans rfl rfl ?_
    repeat' (first | (simp -implicitDefEqProofs +contextual (maxSteps := 10000000) (disch := first | with_unfolding_all exact id rfl | assumption | ((fail_if_success (with_reducible refine isB ?_)); (first | omega | decide))) only [go_sem, v_n, ho, h]) | refine vIte_i (fun hb => ?_) fun hb => ?_ | refine vAp_i (by kernel_rfl) ?_ | refine vIf_i (fun hb => ?_) fun hb => ?_ | refine oT_Gi (fun hb => ?_) fun hb => ?_)
    all_goals clear ho
    all_goals (refine congrArg (fun b => OV.p (PV.bool b)) ?_; (first | rw [decide_eq_decide] | (symm; first | rw [decide_eq_false_iff_not] | rw [decide_eq_true_eq])); first | omega | grind)
  · have ho := own10 e h1 h2 h3 h4 h5 h6 h7 h8 h9
    refine expr_alone_ans rfl rfl ?_
    repeat' (first | (simp -implicitDefEqProofs +contextual (maxSteps := 10000000) (disch := first | with_unfolding_all exact id rfl | assumption | ((fail_if_success (with_reducible refine isB ?_)); (first | omega | decide))) only [go_sem, v_n, ho, h1, h2, h3, h4, h5, h6, h7, h8, h9]) | refine vIte_i (fun hb => ?_) fun hb => ?_ | refine vAp_i (by kernel_rfl) ?_ | refine vIf_i (fun hb => ?_) fun hb => ?_ | refine oT_Gi (fun hb => ?_) fun hb => ?_)
    all_goals clear ho
    all_goals (refine congrArg (fun b => OV.p (PV.bool b)) ?_; (first | rw [decide_eq_decide] | (symm; first | rw [decide_eq_false_iff_not] | rw [decide_eq_true_eq])); first | omega | grind)
theorem counts_spec (e : Tr) (h1 : 1 ≤ e.k) (h2 : e.k ≤ 10) : ansOf E F_expr_counts [.a ((cT e).map OV.p)] = some ([(false, [.p (.bool (decide (cntQ e)))])], []) := by
  rcases kinds e.k with h | h | h | h | h | h | h | h | h | ⟨h1, h2, h3, h4, h5, h6, h7, h8, h9⟩
  all_goals try (have h : e.k = 10 := by omega)
  all_goals
    refine expr_counts_ans rfl rfl ?_
    repeat' (first | (simp -implicitDefEqProofs +contextual (maxSteps := 10000000) (disch := first | with_unfolding_all exact id rfl | assumption | ((fail_if_success (with_reducible refine isB ?_)); (first | omega | decide))) only [go_sem, v_n, h, within_spec]) | refine vIte_i (fun hb => ?_) fun hb => ?_ | refine vAp_i (by kernel_rfl) ?_ | refine vIf_i (fun hb => ?_) fun hb => ?_ | refine oT_Gi (fun hb => ?_) fun hb => ?_)
    all_goals (refine congrArg (fun b => OV.p (PV.bool b)) ?_; (first | rw [decide_eq_decide] | (symm; first | rw [decide_eq_false_iff_not] | rw [decide_eq_true_eq])); first | omega | grind)
theorem rcheck_spec (x y : Int) (a b : Bool) : ansOf E F_ref_Check [.a [.p (.int .i64 x), .p (.int .i64 y), .p (.bool a), .p (.bool b)]] = some ([(false, [.p (.int .i64 (if 0 ≤ x ∧ x < 65536 ∧ 0 ≤ y ∧ y < 256 then 0 else 12))])], []) := by
  refine ref_Check_ans rfl rfl ?_
  repeat' (first | (simp -implicitDefEqProofs +contextual (maxSteps := 10000000) (disch := first | with_unfolding_all exact id rfl | assumption | ((fail_if_success (with_reducible refine isB ?_)); (first | omega | decide))) only [go_sem, v_n, good_spec]) | refine vIte_i (fun hb => ?_) fun hb => ?_ | refine vAp_i (by kernel_rfl) ?_ | refine vIf_i (fun hb => ?_) fun hb => ?_ | refine oT_Gi (fun hb => ?_) fun hb => ?_)
  all_goals simp [*]
theorem acheck_spec (x y z w : Int) (a b c d : Bool) : ansOf E F_ref_CheckArea [.a [.p (.int .i64 x), .p (.int .i64 y), .p (.bool a), .p (.bool b), .p (.int .i64 z), .p (.int .i64 w), .p (.bool c), .p (.bool d)]] =
    some ([(false, [.p (.int .i64 (if (0 ≤ x ∧ x < 65536 ∧ 0 ≤ y ∧ y < 256) ∧ 0 ≤ z ∧ z < 65536 ∧ 0 ≤ w ∧ w < 256 then 0 else 12))])], []) := by
  refine ref_CheckArea_ans rfl rfl ?_
  repeat' (first | (simp -implicitDefEqProofs +contextual (maxSteps := 10000000) (disch := first | with_unfolding_all exact id rfl | assumption | ((fail_if_success (with_reducible refine isB ?_)); (first | omega | decide))) only [go_sem, v_n, rcheck_spec]) | refine vIte_i (fun hb => ?_) fun hb => ?_ | refine vAp_i (by kernel_rfl) ?_ | refine vIf_i (fun hb => ?_) fun hb => ?_ | refine oT_Gi (fun hb => ?_) fun hb => ?_)
  all_goals (refine congrArg (fun b => OV.p (PV.int .i64 b)) ?_; grind)
end Go.Pv.Cb
