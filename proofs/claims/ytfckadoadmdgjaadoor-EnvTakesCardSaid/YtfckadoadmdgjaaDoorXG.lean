/- What the functions that EnvTakes reaches compute: a part. -/
import Derived.Test.YtfckadoadmdgjaaDoorXF
set_option linter.all false
namespace Go.Pv.Cb
set_option linter.unusedSimpArgs false
open Go.Pv
set_option maxRecDepth 10000
set_option maxHeartbeats 4000000
theorem vcheckT (v : Vl) (hs : v.s.length ≤ 1000000) : ansOf E F_val_Check [.a [.p (.int .i64 v.k), .p (.int .i64 v.m), .p (.int .i64 v.c), .p (.str v.s), .p (.bool v.b), .p (.int .i64 v.e)]] = some ([(false, [.p (.int .i64 (vC v))])], []) := vcheck_spec _ _ _ _ _ _ hs
theorem rvcheckT (v : Vl) (hs : v.s.length ≤ 1000000) : ansOf E F_ref13_CheckVal [.a [.p (.int .i64 v.k), .p (.int .i64 v.m), .p (.int .i64 v.c), .p (.str v.s), .p (.bool v.b), .p (.int .i64 v.e)]] = some ([(false, [.p (.int .i64 (vC v))])], []) := rvcheck_spec _ _ _ _ _ _ hs
def aC (a : Ar) : Int := if goodQ a.a ∧ goodQ a.b then 0 else 12
theorem acheckT (a : Ar) : ansOf E F_ref_CheckArea [.a [.p (.int .i64 a.a.row), .p (.int .i64 a.a.col), .p (.bool a.a.rr), .p (.bool a.a.rc), .p (.int .i64 a.b.row), .p (.int .i64 a.b.col), .p (.bool a.b.rr), .p (.bool a.b.rc)]] = some ([(false, [.p (.int .i64 (aC a))])], []) := acheck_spec _ _ _ _ _ _ _ _
noncomputable def partF (e : Tr) : Int := if ¬ (1 ≤ e.k ∧ e.k ≤ 10) ∨ ¬ aloneQ e then 1 else if e.k = 1 ∧ ¬ vC e.v = 0 then vC e.v else if e.k = 1 ∧ e.v.k = 0 then 1 else if ¬ aC e.a = 0 then aC e.a else if ¬ (0 ≤ e.sh ∧ e.sh ≤ 7) ∨ ¬ cntQ e then 1 else 0
theorem part_spec (e : Tr) (hs : e.v.s.length ≤ 1000000) : ansOf E F_expr_part [.a ((cT e).map OV.p)] = some ([(false, [.p (.int .i64 (partF e))])], []) := by
  have hal := alone_spec e
  have hv := vcheckT e.v hs
  have ha := acheckT e.a
  have hc := counts_spec e
  have key : ∀ A C : Bool, A = decide (aloneQ e) → C = decide (cntQ e) → ansOf E F_expr_alone [.a ((cT e).map OV.p)] = some ([(false, [.p (.bool A)])], []) → (1 ≤ e.k → e.k ≤ 10 → ansOf E F_expr_counts [.a ((cT e).map OV.p)] = some ([(false, [.p (.bool C)])], [])) →
      ansOf E F_expr_part [.a ((cT e).map OV.p)] = some ([(false, [.p (.int .i64 (if ¬ (1 ≤ e.k ∧ e.k ≤ 10) ∨ A = false then 1 else if e.k = 1 ∧ ¬ vC e.v = 0 then vC e.v else if e.k = 1 ∧ e.v.k = 0 then 1 else if ¬ aC e.a = 0 then aC e.a else if ¬ (0 ≤ e.sh ∧ e.sh ≤ 7) ∨ C = false then 1 else 0))])], []) := by
    intro A C _ _ hal hc
    cases A <;> cases C <;> (
    refine expr_part_ans rfl rfl ?_
    repeat' (first | (simp -implicitDefEqProofs +contextual (maxSteps := 10000000) (disch := first | with_unfolding_all exact id rfl | assumption | ((fail_if_success (with_reducible refine isB ?_)); (first | omega | decide))) only [go_sem, v_n, within_spec, hal, hv, ha, hc]) | refine vIte_i (fun hb => ?_) fun hb => ?_ | refine vAp_i (by kernel_rfl) ?_ | refine vIf_i (fun hb => ?_) fun hb => ?_ | refine oT_Gi (fun hb => ?_) fun hb => ?_)
    all_goals (refine congrArg (fun b => OV.p (PV.int .i64 b)) ?_; grind))
  have h := key _ _ rfl rfl hal hc
  rw [h]
  unfold partF
  simp only [decide_eq_false_iff_not]
end Go.Pv.Cb
