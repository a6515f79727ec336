/- What the functions that EnvTakes reaches compute: a part. -/
import Derived.Test.YtfckadoadmdgjaaDoorFnsX
import Derived.Test.YtfckadoadmdgjaaDoorDat
set_option linter.all false
namespace Go.Pv.Cb
set_option linter.unusedSimpArgs false
open Go.Pv
set_option maxRecDepth 10000
set_option maxHeartbeats 4000000
theorem within_spec (n lo hi : Int) : ansOf E F_expr_within [.w (.p (.int .i64 n)), .w (.p (.int .i64 lo)), .w (.p (.int .i64 hi))] = some ([(false, [.p (.bool (decide (lo ≤ n ∧ n ≤ hi)))])], []) := by
  refine expr_within_ans rfl rfl ?_
  repeat' (first | (simp -implicitDefEqProofs +contextual (maxSteps := 10000000) (disch := first | with_unfolding_all exact id rfl | assumption | ((fail_if_success (with_reducible refine isB ?_)); (first | omega | decide))) only [go_sem, v_n]) | refine vIte_i (fun hb => ?_) fun hb => ?_ | refine vAp_i (by kernel_rfl) ?_ | refine vIf_i (fun hb => ?_) fun hb => ?_ | refine oT_Gi (fun hb => ?_) fun hb => ?_)
theorem good_spec (r c : Int) : ansOf E F_ref_Good [.a [.p (.int .i64 r), .p (.int .i64 c)]] = some ([(false, [.p (.bool (decide (0 ≤ r ∧ r < 65536 ∧ 0 ≤ c ∧ c < 256)))])], []) := by
  refine ref_Good_ans rfl rfl ?_
  repeat' (first | (simp -implicitDefEqProofs +contextual (maxSteps := 10000000) (disch := first | with_unfolding_all exact id rfl | assumption | ((fail_if_success (with_reducible refine isB ?_)); (first | omega | decide))) only [go_sem, v_n]) | refine vIte_i (fun hb => ?_) fun hb => ?_ | refine vAp_i (by kernel_rfl) ?_ | refine vIf_i (fun hb => ?_) fun hb => ?_ | refine oT_Gi (fun hb => ?_) fun hb => ?_)
theorem d4To_spec (m c : Int) : ansOf E F_law4_To [.a [.p (.int .i64 m), .p (.int .i64 c)]] = some ([(true, [.p (.int .i64 m), .p (.int .i64 c)])], []) := by
  refine law4_To_ans rfl rfl ?_
  repeat' (first | (simp -implicitDefEqProofs +contextual (maxSteps := 10000000) (disch := first | with_unfolding_all exact id rfl | assumption | ((fail_if_success (with_reducible refine isB ?_)); (first | omega | decide))) only [go_sem, v_n]) | refine vIte_i (fun hb => ?_) fun hb => ?_ | refine vAp_i (by kernel_rfl) ?_ | refine vIf_i (fun hb => ?_) fun hb => ?_ | refine oT_Gi (fun hb => ?_) fun hb => ?_)
theorem d4Of_spec (m c : Int) : ansOf E F_law4_Of [.a [.p (.int .i64 m), .p (.int .i64 c)]] = some ([(true, [.p (.int .i64 m), .p (.int .i64 c)])], []) := by
  refine law4_Of_ans rfl rfl ?_
  repeat' (first | (simp -implicitDefEqProofs +contextual (maxSteps := 10000000) (disch := first | with_unfolding_all exact id rfl | assumption | ((fail_if_success (with_reducible refine isB ?_)); (first | omega | decide))) only [go_sem, v_n]) | refine vIte_i (fun hb => ?_) fun hb => ?_ | refine vAp_i (by kernel_rfl) ?_ | refine vIf_i (fun hb => ?_) fun hb => ?_ | refine oT_Gi (fun hb => ?_) fun hb => ?_)
theorem v9To_spec (k m c : Int) (s : List UInt8) (b : Bool) (e : Int) : ansOf E F_law9_To [.a [.p (.int .i64 k), .p (.int .i64 m), .p (.int .i64 c), .p (.str s), .p (.bool b), .p (.int .i64 e)]] = some ([(true, [.p (.int .i64 k), .p (.int .i64 m), .p (.int .i64 c), .p (.str s), .p (.bool b), .p (.int .i64 e)])], []) := by
  refine law9_To_ans rfl rfl ?_
  repeat' (first | (simp -implicitDefEqProofs +contextual (maxSteps := 10000000) (disch := first | with_unfolding_all exact id rfl | assumption | ((fail_if_success (with_reducible refine isB ?_)); (first | omega | decide))) only [go_sem, v_n, d4To_spec]) | refine vIte_i (fun hb => ?_) fun hb => ?_ | refine vAp_i (by kernel_rfl) ?_ | refine vIf_i (fun hb => ?_) fun hb => ?_ | refine oT_Gi (fun hb => ?_) fun hb => ?_)
theorem v9Of_spec (k m c : Int) (s : List UInt8) (b : Bool) (e : Int) : ansOf E F_law9_Of [.a [.p (.int .i64 k), .p (.int .i64 m), .p (.int .i64 c), .p (.str s), .p (.bool b), .p (.int .i64 e)]] = some ([(true, [.p (.int .i64 k), .p (.int .i64 m), .p (.int .i64 c), .p (.str s), .p (.bool b), .p (.int .i64 e)])], []) := by
  refine law9_Of_ans rfl rfl ?_
  repeat' (first | (simp -implicitDefEqProofs +contextual (maxSteps := 10000000) (disch := first | with_unfolding_all exact id rfl | assumption | ((fail_if_success (with_reducible refine isB ?_)); (first | omega | decide))) only [go_sem, v_n, d4Of_spec]) | refine vIte_i (fun hb => ?_) fun hb => ?_ | refine vAp_i (by kernel_rfl) ?_ | refine vIf_i (fun hb => ?_) fun hb => ?_ | refine oT_Gi (fun hb => ?_) fun hb => ?_)
theorem r8To_spec (x y : Int) (a b : Bool) : ansOf E F_law8_To [.a [.p (.int .i64 x), .p (.int .i64 y), .p (.bool a), .p (.bool b)]] = some ([(true, [.p (.int .i64 x), .p (.int .i64 y), .p (.bool a), .p (.bool b)])], []) := by
  refine law8_To_ans rfl rfl ?_
  repeat' (first | (simp -implicitDefEqProofs +contextual (maxSteps := 10000000) (disch := first | with_unfolding_all exact id rfl | assumption | ((fail_if_success (with_reducible refine isB ?_)); (first | omega | decide))) only [go_sem, v_n]) | refine vIte_i (fun hb => ?_) fun hb => ?_ | refine vAp_i (by kernel_rfl) ?_ | refine vIf_i (fun hb => ?_) fun hb => ?_ | refine oT_Gi (fun hb => ?_) fun hb => ?_)
theorem a8To_spec (x y z w : Int) (a b c d : Bool) : ansOf E F_law8_ToArea [.a [.p (.int .i64 x), .p (.int .i64 y), .p (.bool a), .p (.bool b), .p (.int .i64 z), .p (.int .i64 w), .p (.bool c), .p (.bool d)]] = some ([(true, [.p (.int .i64 x), .p (.int .i64 y), .p (.bool a), .p (.bool b), .p (.int .i64 z), .p (.int .i64 w), .p (.bool c), .p (.bool d)])], []) := by
  refine law8_ToArea_ans rfl rfl ?_
  repeat' (first | (simp -implicitDefEqProofs +contextual (maxSteps := 10000000) (disch := first | with_unfolding_all exact id rfl | assumption | ((fail_if_success (with_reducible refine isB ?_)); (first | omega | decide))) only [go_sem, v_n, r8To_spec]) | refine vIte_i (fun hb => ?_) fun hb => ?_ | refine vAp_i (by kernel_rfl) ?_ | refine vIf_i (fun hb => ?_) fun hb => ?_ | refine oT_Gi (fun hb => ?_) fun hb => ?_)
end Go.Pv.Cb
