/- What the functions that EnvTakes reaches compute: a part. -/
import Derived.Test.YtfckadoadmdgjaaDoorXG
set_option linter.all false
namespace Go.Pv.Cb
set_option linter.unusedSimpArgs false
open Go.Pv
set_option maxRecDepth 10000
set_option maxHeartbeats 8000000
theorem rgood_spec (r c : Int) : ansOf E F_ref13_Good [.a [.p (.int .i64 r), .p (.int .i64 c)]] = some ([(false, [.p (.bool (decide (0 ≤ r ∧ r < 65536 ∧ 0 ≤ c ∧ c < 256)))])], []) := by
  refine ref13_Good_ans rfl rfl ?_
  repeat' (first | (simp -implicitDefEqProofs +contextual (maxSteps := 10000000) (disch := first | with_unfolding_all exact id rfl | assumption | ((fail_if_success (with_reducible refine isB ?_)); (first | omega | decide))) only [go_sem, v_n]) | refine vIte_i (fun hb => ?_) fun hb => ?_ | refine vAp_i (by kernel_rfl) ?_ | refine vIf_i (fun hb => ?_) fun hb => ?_ | refine oT_Gi (fun hb => ?_) fun hb => ?_)
theorem rcref_spec (x y : Int) (a b : Bool) : ansOf E F_ref13_CheckRef [.a [.p (.int .i64 x), .p (.int .i64 y), .p (.bool a), .p (.bool b)]] = some ([(false, [.p (.int .i64 (if 0 ≤ x ∧ x < 65536 ∧ 0 ≤ y ∧ y < 256 then 0 else 12))])], []) := by
  refine ref13_CheckRef_ans rfl rfl ?_
  repeat' (first | (simp -implicitDefEqProofs +contextual (maxSteps := 10000000) (disch := first | with_unfolding_all exact id rfl | assumption | ((fail_if_success (with_reducible refine isB ?_)); (first | omega | decide))) only [go_sem, v_n, rgood_spec]) | refine vIte_i (fun hb => ?_) fun hb => ?_ | refine vAp_i (by kernel_rfl) ?_ | refine vIf_i (fun hb => ?_) fun hb => ?_ | refine oT_Gi (fun hb => ?_) fun hb => ?_)
  all_goals simp [*]
theorem racheck_spec (x y z w : Int) (a b c d : Bool) : ansOf E F_ref13_CheckArea [.a [.p (.int .i64 x), .p (.int .i64 y), .p (.bool a), .p (.bool b), .p (.int .i64 z), .p (.int .i64 w), .p (.bool c), .p (.bool d)]] =
    some ([(false, [.p (.int .i64 (if (0 ≤ x ∧ x < 65536 ∧ 0 ≤ y ∧ y < 256) ∧ 0 ≤ z ∧ z < 65536 ∧ 0 ≤ w ∧ w < 256 then 0 else 12))])], []) := by
  have h1 := rcref_spec x y a b
  have h2 := rcref_spec z w c d
  by_cases k1 : 0 ≤ x ∧ x < 65536 ∧ 0 ≤ y ∧ y < 256
  all_goals by_cases k2 : 0 ≤ z ∧ z < 65536 ∧ 0 ≤ w ∧ w < 256
  all_goals simp only [k1, k2, if_true, if_false, true_and, false_and, and_true, and_false, and_self] at h1 h2 ⊢
  all_goals
    refine ref13_CheckArea_ans rfl rfl ?_
    repeat' (first | (simp -implicitDefEqProofs +contextual (maxSteps := 10000000) (disch := first | with_unfolding_all exact id rfl | assumption | ((fail_if_success (with_reducible refine isB ?_)); (first | omega | decide))) only [go_sem, v_n, h1, h2]) | refine vIte_i (fun hb => ?_) fun hb => ?_ | refine vAp_i (by kernel_rfl) ?_ | refine vIf_i (fun hb => ?_) fun hb => ?_ | refine oT_Gi (fun hb => ?_) fun hb => ?_)
theorem shape1 : ansOf E F_ref13_shape [.w (.p (.int .i64 1))] = some ([(false, [.p (.bool true)]), (false, [.p (.int .i64 0)]), (false, [.p (.bool false)]), (false, [.p (.bool false)]), (false, [.p (.int .i64 0)])], []) := by
  refine ref13_shape_ans rfl rfl ?_
  repeat' (first | (simp -implicitDefEqProofs +contextual (maxSteps := 10000000) (disch := first | with_unfolding_all exact id rfl | assumption | ((fail_if_success (with_reducible refine isB ?_)); (first | omega | decide))) only [go_sem, v_n]) | refine vIte_i (fun hb => ?_) fun hb => ?_ | refine vAp_i (by kernel_rfl) ?_ | refine vIf_i (fun hb => ?_) fun hb => ?_ | refine oT_Gi (fun hb => ?_) fun hb => ?_)
theorem shape2 : ansOf E F_ref13_shape [.w (.p (.int .i64 2))] = some ([(false, [.p (.bool false)]), (false, [.p (.int .i64 1)]), (false, [.p (.bool false)]), (false, [.p (.bool false)]), (false, [.p (.int .i64 0)])], []) := by
  refine ref13_shape_ans rfl rfl ?_
  repeat' (first | (simp -implicitDefEqProofs +contextual (maxSteps := 10000000) (disch := first | with_unfolding_all exact id rfl | assumption | ((fail_if_success (with_reducible refine isB ?_)); (first | omega | decide))) only [go_sem, v_n]) | refine vIte_i (fun hb => ?_) fun hb => ?_ | refine vAp_i (by kernel_rfl) ?_ | refine vIf_i (fun hb => ?_) fun hb => ?_ | refine oT_Gi (fun hb => ?_) fun hb => ?_)
theorem shape3 : ansOf E F_ref13_shape [.w (.p (.int .i64 3))] = some ([(false, [.p (.bool false)]), (false, [.p (.int .i64 2)]), (false, [.p (.bool false)]), (false, [.p (.bool false)]), (false, [.p (.int .i64 0)])], []) := by
  refine ref13_shape_ans rfl rfl ?_
  repeat' (first | (simp -implicitDefEqProofs +contextual (maxSteps := 10000000) (disch := first | with_unfolding_all exact id rfl | assumption | ((fail_if_success (with_reducible refine isB ?_)); (first | omega | decide))) only [go_sem, v_n]) | refine vIte_i (fun hb => ?_) fun hb => ?_ | refine vAp_i (by kernel_rfl) ?_ | refine vIf_i (fun hb => ?_) fun hb => ?_ | refine oT_Gi (fun hb => ?_) fun hb => ?_)
theorem shape4 : ansOf E F_ref13_shape [.w (.p (.int .i64 4))] = some ([(false, [.p (.bool false)]), (false, [.p (.int .i64 1)]), (false, [.p (.bool true)]), (false, [.p (.bool false)]), (false, [.p (.int .i64 0)])], []) := by
  refine ref13_shape_ans rfl rfl ?_
  repeat' (first | (simp -implicitDefEqProofs +contextual (maxSteps := 10000000) (disch := first | with_unfolding_all exact id rfl | assumption | ((fail_if_success (with_reducible refine isB ?_)); (first | omega | decide))) only [go_sem, v_n]) | refine vIte_i (fun hb => ?_) fun hb => ?_ | refine vAp_i (by kernel_rfl) ?_ | refine vIf_i (fun hb => ?_) fun hb => ?_ | refine oT_Gi (fun hb => ?_) fun hb => ?_)
theorem shape5 : ansOf E F_ref13_shape [.w (.p (.int .i64 5))] = some ([(false, [.p (.bool false)]), (false, [.p (.int .i64 2)]), (false, [.p (.bool true)]), (false, [.p (.bool false)]), (false, [.p (.int .i64 0)])], []) := by
  refine ref13_shape_ans rfl rfl ?_
  repeat' (first | (simp -implicitDefEqProofs +contextual (maxSteps := 10000000) (disch := first | with_unfolding_all exact id rfl | assumption | ((fail_if_success (with_reducible refine isB ?_)); (first | omega | decide))) only [go_sem, v_n]) | refine vIte_i (fun hb => ?_) fun hb => ?_ | refine vAp_i (by kernel_rfl) ?_ | refine vIf_i (fun hb => ?_) fun hb => ?_ | refine oT_Gi (fun hb => ?_) fun hb => ?_)
theorem shape6 : ansOf E F_ref13_shape [.w (.p (.int .i64 6))] = some ([(false, [.p (.bool false)]), (false, [.p (.int .i64 0)]), (false, [.p (.bool false)]), (false, [.p (.bool true)]), (false, [.p (.int .i64 0)])], []) := by
  refine ref13_shape_ans rfl rfl ?_
  repeat' (first | (simp -implicitDefEqProofs +contextual (maxSteps := 10000000) (disch := first | with_unfolding_all exact id rfl | assumption | ((fail_if_success (with_reducible refine isB ?_)); (first | omega | decide))) only [go_sem, v_n]) | refine vIte_i (fun hb => ?_) fun hb => ?_ | refine vAp_i (by kernel_rfl) ?_ | refine vIf_i (fun hb => ?_) fun hb => ?_ | refine oT_Gi (fun hb => ?_) fun hb => ?_)
theorem shape7 : ansOf E F_ref13_shape [.w (.p (.int .i64 7))] = some ([(false, [.p (.bool false)]), (false, [.p (.int .i64 0)]), (false, [.p (.bool false)]), (false, [.p (.bool true)]), (false, [.p (.int .i64 1)])], []) := by
  refine ref13_shape_ans rfl rfl ?_
  repeat' (first | (simp -implicitDefEqProofs +contextual (maxSteps := 10000000) (disch := first | with_unfolding_all exact id rfl | assumption | ((fail_if_success (with_reducible refine isB ?_)); (first | omega | decide))) only [go_sem, v_n]) | refine vIte_i (fun hb => ?_) fun hb => ?_ | refine vAp_i (by kernel_rfl) ?_ | refine vIf_i (fun hb => ?_) fun hb => ?_ | refine oT_Gi (fun hb => ?_) fun hb => ?_)
theorem shape8 : ansOf E F_ref13_shape [.w (.p (.int .i64 8))] = some ([(false, [.p (.bool false)]), (false, [.p (.int .i64 0)]), (false, [.p (.bool false)]), (false, [.p (.bool true)]), (false, [.p (.int .i64 2)])], []) := by
  refine ref13_shape_ans rfl rfl ?_
  repeat' (first | (simp -implicitDefEqProofs +contextual (maxSteps := 10000000) (disch := first | with_unfolding_all exact id rfl | assumption | ((fail_if_success (with_reducible refine isB ?_)); (first | omega | decide))) only [go_sem, v_n]) | refine vIte_i (fun hb => ?_) fun hb => ?_ | refine vAp_i (by kernel_rfl) ?_ | refine vIf_i (fun hb => ?_) fun hb => ?_ | refine oT_Gi (fun hb => ?_) fun hb => ?_)
theorem shape9 : ansOf E F_ref13_shape [.w (.p (.int .i64 9))] = some ([(false, [.p (.bool false)]), (false, [.p (.int .i64 0)]), (false, [.p (.bool false)]), (false, [.p (.bool true)]), (false, [.p (.int .i64 (-1))])], []) := by
  refine ref13_shape_ans rfl rfl ?_
  repeat' (first | (simp -implicitDefEqProofs +contextual (maxSteps := 10000000) (disch := first | with_unfolding_all exact id rfl | assumption | ((fail_if_success (with_reducible refine isB ?_)); (first | omega | decide))) only [go_sem, v_n]) | refine vIte_i (fun hb => ?_) fun hb => ?_ | refine vAp_i (by kernel_rfl) ?_ | refine vIf_i (fun hb => ?_) fun hb => ?_ | refine oT_Gi (fun hb => ?_) fun hb => ?_)
theorem shape10 : ansOf E F_ref13_shape [.w (.p (.int .i64 10))] = some ([(false, [.p (.bool false)]), (false, [.p (.int .i64 0)]), (false, [.p (.bool false)]), (false, [.p (.bool false)]), (false, [.p (.int .i64 1)])], []) := by
  refine ref13_shape_ans rfl rfl ?_
  repeat' (first | (simp -implicitDefEqProofs +contextual (maxSteps := 10000000) (disch := first | with_unfolding_all exact id rfl | assumption | ((fail_if_success (with_reducible refine isB ?_)); (first | omega | decide))) only [go_sem, v_n]) | refine vIte_i (fun hb => ?_) fun hb => ?_ | refine vAp_i (by kernel_rfl) ?_ | refine vIf_i (fun hb => ?_) fun hb => ?_ | refine oT_Gi (fun hb => ?_) fun hb => ?_)
theorem rnode_spec (e : Tr) (hs : e.v.s.length ≤ 1000000) : ansOf E F_ref13_node [.a ((cT e).map OV.p)] = some ([(false, [.p (.int .i64 (partF e))])], []) := by
  have hv := rvcheckT e.v hs
  have key : ∀ k : Int, e.k = k → ansOf E F_ref13_node [.a ((cT e).map OV.p)] = some ([(false, [.p (.int .i64 (partF e))])], []) := by
    intro k h
    rcases (by omega : k = 1 ∨ k = 2 ∨ k = 3 ∨ k = 4 ∨ k = 5 ∨ k = 6 ∨ k = 7 ∨ k = 8 ∨ k = 9 ∨ k = 10 ∨ k < 1 ∨ 10 < k) with rfl | rfl | rfl | rfl | rfl | rfl | rfl | rfl | rfl | rfl | q | q
    · refine ref13_node_ans rfl rfl ?_
      repeat' (first | (simp -implicitDefEqProofs +contextual (maxSteps := 10000000) (disch := first | with_unfolding_all exact id rfl | assumption | ((fail_if_success (with_reducible refine isB ?_)); (first | omega | decide))) only [go_sem, v_n, h, shape1, hv, racheck_spec]) | refine vIte_i (fun hb => ?_) fun hb => ?_ | refine vAp_i (by kernel_rfl) ?_ | refine vIf_i (fun hb => ?_) fun hb => ?_ | refine oT_Gi (fun hb => ?_) fun hb => ?_)
      all_goals (clear hv; refine congrArg (fun b => OV.p (PV.int .i64 b)) ?_; simp [partF, h, aC]; try grind)
    · refine ref13_node_ans rfl rfl ?_
      repeat' (first | (simp -implicitDefEqProofs +contextual (maxSteps := 10000000) (disch := first | with_unfolding_all exact id rfl | assumption | ((fail_if_success (with_reducible refine isB ?_)); (first | omega | decide))) only [go_sem, v_n, h, shape2, hv, racheck_spec]) | refine vIte_i (fun hb => ?_) fun hb => ?_ | refine vAp_i (by kernel_rfl) ?_ | refine vIf_i (fun hb => ?_) fun hb => ?_ | refine oT_Gi (fun hb => ?_) fun hb => ?_)
      all_goals (clear hv; refine congrArg (fun b => OV.p (PV.int .i64 b)) ?_; simp [partF, h, aC]; try grind)
    · refine ref13_node_ans rfl rfl ?_
      repeat' (first | (simp -implicitDefEqProofs +contextual (maxSteps := 10000000) (disch := first | with_unfolding_all exact id rfl | assumption | ((fail_if_success (with_reducible refine isB ?_)); (first | omega | decide))) only [go_sem, v_n, h, shape3, hv, racheck_spec]) | refine vIte_i (fun hb => ?_) fun hb => ?_ | refine vAp_i (by kernel_rfl) ?_ | refine vIf_i (fun hb => ?_) fun hb => ?_ | refine oT_Gi (fun hb => ?_) fun hb => ?_)
      all_goals (clear hv; refine congrArg (fun b => OV.p (PV.int .i64 b)) ?_; simp [partF, h, aC]; try grind)
    · refine ref13_node_ans rfl rfl ?_
      repeat' (first | (simp -implicitDefEqProofs +contextual (maxSteps := 10000000) (disch := first | with_unfolding_all exact id rfl | assumption | ((fail_if_success (with_reducible refine isB ?_)); (first | omega | decide))) only [go_sem, v_n, h, shape4, hv, racheck_spec]) | refine vIte_i (fun hb => ?_) fun hb => ?_ | refine vAp_i (by kernel_rfl) ?_ | refine vIf_i (fun hb => ?_) fun hb => ?_ | refine oT_Gi (fun hb => ?_) fun hb => ?_)
      all_goals (clear hv; refine congrArg (fun b => OV.p (PV.int .i64 b)) ?_; simp [partF, h, aC]; try grind)
    · refine ref13_node_ans rfl rfl ?_
      repeat' (first | (simp -implicitDefEqProofs +contextual (maxSteps := 10000000) (disch := first | with_unfolding_all exact id rfl | assumption | ((fail_if_success (with_reducible refine isB ?_)); (first | omega | decide))) only [go_sem, v_n, h, shape5, hv, racheck_spec]) | refine vIte_i (fun hb => ?_) fun hb => ?_ | refine vAp_i (by kernel_rfl) ?_ | refine vIf_i (fun hb => ?_) fun hb => ?_ | refine oT_Gi (fun hb => ?_) fun hb => ?_)
      all_goals (clear hv; refine congrArg (fun b => OV.p (PV.int .i64 b)) ?_; simp [partF, h, aC]; try grind)
    · refine ref13_node_ans rfl rfl ?_
      repeat' (first | (simp -implicitDefEqProofs +contextual (maxSteps := 10000000) (disch := first | with_unfolding_all exact id rfl | assumption | ((fail_if_success (with_reducible refine isB ?_)); (first | omega | decide))) only [go_sem, v_n, h, shape6, hv, racheck_spec]) | refine vIte_i (fun hb => ?_) fun hb => ?_ | refine vAp_i (by kernel_rfl) ?_ | refine vIf_i (fun hb => ?_) fun hb => ?_ | refine oT_Gi (fun hb => ?_) fun hb => ?_)
      all_goals (clear hv; refine congrArg (fun b => OV.p (PV.int .i64 b)) ?_; simp [partF, h, aC]; try grind)
    · refine ref13_node_ans rfl rfl ?_
      repeat' (first | (simp -implicitDefEqProofs +contextual (maxSteps := 10000000) (disch := first | with_unfolding_all exact id rfl | assumption | ((fail_if_success (with_reducible refine isB ?_)); (first | omega | decide))) only [go_sem, v_n, h, shape7, hv, racheck_spec]) | refine vIte_i (fun hb => ?_) fun hb => ?_ | refine vAp_i (by kernel_rfl) ?_ | refine vIf_i (fun hb => ?_) fun hb => ?_ | refine oT_Gi (fun hb => ?_) fun hb => ?_)
      all_goals (clear hv; refine congrArg (fun b => OV.p (PV.int .i64 b)) ?_; simp [partF, h, aC]; try grind)
    · refine ref13_node_ans rfl rfl ?_
      repeat' (first | (simp -implicitDefEqProofs +contextual (maxSteps := 10000000) (disch := first | with_unfolding_all exact id rfl | assumption | ((fail_if_success (with_reducible refine isB ?_)); (first | omega | decide))) only [go_sem, v_n, h, shape8, hv, racheck_spec]) | refine vIte_i (fun hb => ?_) fun hb => ?_ | refine vAp_i (by kernel_rfl) ?_ | refine vIf_i (fun hb => ?_) fun hb => ?_ | refine oT_Gi (fun hb => ?_) fun hb => ?_)
      all_goals (clear hv; refine congrArg (fun b => OV.p (PV.int .i64 b)) ?_; simp [partF, h, aC]; try grind)
    · refine ref13_node_ans rfl rfl ?_
      repeat' (first | (simp -implicitDefEqProofs +contextual (maxSteps := 10000000) (disch := first | with_unfolding_all exact id rfl | assumption | ((fail_if_success (with_reducible refine isB ?_)); (first | omega | decide))) only [go_sem, v_n, h, shape9, hv, racheck_spec]) | refine vIte_i (fun hb => ?_) fun hb => ?_ | refine vAp_i (by kernel_rfl) ?_ | refine vIf_i (fun hb => ?_) fun hb => ?_ | refine oT_Gi (fun hb => ?_) fun hb => ?_)
      all_goals (clear hv; refine congrArg (fun b => OV.p (PV.int .i64 b)) ?_; simp [partF, h, aC]; try grind)
    · refine ref13_node_ans rfl rfl ?_
      repeat' (first | (simp -implicitDefEqProofs +contextual (maxSteps := 10000000) (disch := first | with_unfolding_all exact id rfl | assumption | ((fail_if_success (with_reducible refine isB ?_)); (first | omega | decide))) only [go_sem, v_n, h, shape10, hv, racheck_spec]) | refine vIte_i (fun hb => ?_) fun hb => ?_ | refine vAp_i (by kernel_rfl) ?_ | refine vIf_i (fun hb => ?_) fun hb => ?_ | refine oT_Gi (fun hb => ?_) fun hb => ?_)
      all_goals (clear hv; refine congrArg (fun b => OV.p (PV.int .i64 b)) ?_; simp [partF, h, aC]; try grind)
    · refine ref13_node_ans rfl rfl ?_
      repeat' (first | (simp -implicitDefEqProofs +contextual (maxSteps := 10000000) (disch := first | with_unfolding_all exact id rfl | assumption | ((fail_if_success (with_reducible refine isB ?_)); (first | omega | decide))) only [go_sem, v_n, h, q]) | refine vIte_i (fun hb => ?_) fun hb => ?_ | refine vAp_i (by kernel_rfl) ?_ | refine vIf_i (fun hb => ?_) fun hb => ?_ | refine oT_Gi (fun hb => ?_) fun hb => ?_)
      all_goals (clear hv; refine congrArg (fun b => OV.p (PV.int .i64 b)) ?_; simp [partF, h, aC]; try grind)
    · refine ref13_node_ans rfl rfl ?_
      repeat' (first | (simp -implicitDefEqProofs +contextual (maxSteps := 10000000) (disch := first | with_unfolding_all exact id rfl | assumption | ((fail_if_success (with_reducible refine isB ?_)); (first | omega | decide))) only [go_sem, v_n, h, q]) | refine vIte_i (fun hb => ?_) fun hb => ?_ | refine vAp_i (by kernel_rfl) ?_ | refine vIf_i (fun hb => ?_) fun hb => ?_ | refine oT_Gi (fun hb => ?_) fun hb => ?_)
      all_goals (clear hv; refine congrArg (fun b => OV.p (PV.int .i64 b)) ?_; simp [partF, h, aC]; try grind)
  exact key _ rfl
end Go.Pv.Cb
