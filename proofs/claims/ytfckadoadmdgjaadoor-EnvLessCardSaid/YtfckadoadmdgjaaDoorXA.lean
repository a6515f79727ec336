/- What the functions that EnvLess reaches compute: a part. -/
import Derived.Test.YtfckadoadmdgjaaDoorFnsX
import Derived.Test.YtfckadoadmdgjaaDoorDat
set_option linter.all false
namespace Go.Pv.Cb
set_option linter.unusedSimpArgs false
open Go.Pv
set_option maxRecDepth 10000
set_option maxHeartbeats 4000000
theorem within_spec (n lo hi : Int) : ansOf E F_expr_within [.w (.p (.int .i64 n)), .w (.p (.int .i64 lo)), .w (.p (.int .i64 hi))] = some ([(false, [.p (.bool (decide (lo ≤ n ∧ n ≤ hi)))])], []) := by
  refine expr_within_ans rfl rfl ?_
  repeat' (first | (simp -implicitDefEqProofs +contextual (maxSteps := 10000000) (disch := first | with_unfolding_all exact id rfl | assumption | ((fail_if_success (with_reducible refine isB ?_)); (first | omega | decide))) only [go_sem, v_n]) | refine vIte_i (fun hb => ?_) fun hb => ?_ | refine vAp_i (by kernel_rfl) ?_ | refine vIf_i (fun hb => ?_) fun hb => ?_ | refine oT_Gi (fun hb => ?_) fun hb => ?_)
theorem good_spec (r c : Int) : ansOf E F_ref_Good [.a [.p (.int .i64 r), .p (.int .i64 c)]] = some ([(false, [.p (.bool (decide (0 ≤ r ∧ r < 65536 ∧ 0 ≤ c ∧ c < 256)))])], []) := by
  refine ref_Good_ans rfl rfl ?_
  repeat' (first | (simp -implicitDefEqProofs +contextual (maxSteps := 10000000) (disch := first | with_unfolding_all exact id rfl | assumption | ((fail_if_success (with_reducible refine isB ?_)); (first | omega | decide))) only [go_sem, v_n]) | refine vIte_i (fun hb => ?_) fun hb => ?_ | refine vAp_i (by kernel_rfl) ?_ | refine vIf_i (fun hb => ?_) fun hb => ?_ | refine oT_Gi (fun hb => ?_) fun hb => ?_)
end Go.Pv.Cb
