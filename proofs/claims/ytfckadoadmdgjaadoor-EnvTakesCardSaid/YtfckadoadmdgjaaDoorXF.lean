/- What the functions that EnvTakes reaches compute: a part. -/
import Derived.Test.YtfckadoadmdgjaaDoorXE
import Derived.Test.YtfckadoadmdgjaaDoorStrJ
set_option linter.all false
namespace Go.Pv.Cb
set_option linter.unusedSimpArgs false
open Go.Pv
set_option maxRecDepth 10000
set_option maxHeartbeats 4000000
open Classical in
noncomputable def uL (s : List UInt8) : Option (List Nat) := if h : ∃ l, goodR l ∧ s = encs l then some (Classical.choose h) else none
noncomputable def uN (s : List UInt8) : Int := match uL s with
  | some l => if 1000 < (units l).length then 0 else (units l).length
  | none => 0
noncomputable def uC (s : List UInt8) : Int := match uL s with
  | some l => if 1000 < (units l).length then 4 else 0
  | none => 2
theorem uL_cases (s : List UInt8) : (∃ l, uL s = some l ∧ goodR l ∧ s = encs l) ∨ (uL s = none ∧ Go.Lib.validD s = false) := by
  by_cases h : ∃ l, goodR l ∧ s = encs l
  · exact .inl ⟨Classical.choose h, by unfold uL; rw [dif_pos h], Classical.choose_spec h⟩
  · refine .inr ⟨by unfold uL; rw [dif_neg h], ?_⟩
    rcases valid_cases s with ⟨l, hl, e, _⟩ | ⟨hv, _⟩
    · exact absurd ⟨l, hl, e⟩ h
    · exact hv
theorem sUnits_spec (s : List UInt8) (h : s.length ≤ 1000000) : ansOf E F_str_Units [.w (.p (.str s))] = some ([(false, [.p (.int .i64 (uN s))]), (false, [.p (.int .i64 (uC s))])], []) := by
  unfold uN uC
  rcases uL_cases s with ⟨l, e, hl, rfl⟩ | ⟨e, hv⟩
  · rw [e]
    simp only
    by_cases q : 1000 < (units l).length
    · rw [if_pos q, if_pos q]; exact Units_long l hl h q
    · rw [if_neg q, if_neg q]; exact Units_good l hl h (by omega)
  · rw [e]; exact Units_bad s h hv
theorem rUnits_spec (s : List UInt8) (h : s.length ≤ 1000000) : ansOf E F_ref7_Units [.w (.p (.str s))] = some ([(false, [.p (.int .i64 (uN s))]), (false, [.p (.int .i64 (uC s))])], []) := by
  unfold uN uC
  rcases uL_cases s with ⟨l, e, hl, rfl⟩ | ⟨e, hv⟩
  · rw [e]
    simp only
    by_cases q : 1000 < (units l).length
    · rw [if_pos q, if_pos q]; exact r7Units_long l hl h q
    · rw [if_neg q, if_neg q]; exact r7Units_good l hl h (by omega)
  · rw [e]; exact r7Units_bad s h hv
def dC (m c : Int) : Int := if c < 0 ∨ 9 < c ∨ (0 < c ∧ m.tmod 10 = 0) then 1 else 0
def nmF (e : Int) : List UInt8 := if e = 0 then [35,78,85,76,76,33] else if e = 7 then [35,68,73,86,47,48,33] else if e = 15 then [35,86,65,76,85,69,33] else if e = 23 then [35,82,69,70,33] else if e = 29 then [35,78,65,77,69,63] else if e = 36 then [35,78,85,77,33] else if e = 42 then [35,78,47,65] else []
noncomputable def vC (v : Vl) : Int := if v.k < 0 ∨ 4 < v.k ∨ (¬ v.k = 1 ∧ (¬ v.m = 0 ∨ ¬ v.c = 0)) ∨ (¬ v.k = 2 ∧ ¬ v.s = []) ∨ (¬ v.k = 3 ∧ v.b = true) ∨ (¬ v.k = 4 ∧ ¬ v.e = 0) then 1 else
  if v.k = 1 then dC v.m v.c else if v.k = 2 then uC v.s else if v.k = 4 ∧ nmF v.e = [] then 1 else 0
theorem dcheck_spec (m c : Int) : ansOf E F_dec_Check [.a [.p (.int .i64 m), .p (.int .i64 c)]] = some ([(false, [.p (.int .i64 (dC m c))])], []) := by
  unfold dC
  refine dec_Check_ans rfl rfl ?_
  repeat' (first | (simp -implicitDefEqProofs +contextual (maxSteps := 10000000) (disch := first | with_unfolding_all exact id rfl | assumption | ((fail_if_success (with_reducible refine isB ?_)); (first | omega | decide))) only [go_sem, v_n]) | refine vIte_i (fun hb => ?_) fun hb => ?_ | refine vAp_i (by kernel_rfl) ?_ | refine vIf_i (fun hb => ?_) fun hb => ?_ | refine oT_Gi (fun hb => ?_) fun hb => ?_)
  all_goals (refine congrArg (fun b => OV.p (PV.int .i64 b)) ?_; grind)
theorem rdcheck_spec (m c : Int) : ansOf E F_ref7_CheckDec [.a [.p (.int .i64 m), .p (.int .i64 c)]] = some ([(false, [.p (.int .i64 (dC m c))])], []) := by
  unfold dC
  refine ref7_CheckDec_ans rfl rfl ?_
  repeat' (first | (simp -implicitDefEqProofs +contextual (maxSteps := 10000000) (disch := first | with_unfolding_all exact id rfl | assumption | ((fail_if_success (with_reducible refine isB ?_)); (first | omega | decide))) only [go_sem, v_n]) | refine vIte_i (fun hb => ?_) fun hb => ?_ | refine vAp_i (by kernel_rfl) ?_ | refine vIf_i (fun hb => ?_) fun hb => ?_ | refine oT_Gi (fun hb => ?_) fun hb => ?_)
  all_goals (refine congrArg (fun b => OV.p (PV.int .i64 b)) ?_; grind)
theorem name_spec (e : Int) : ansOf E F_val_name [.w (.p (.int .i64 e))] = some ([(false, [.p (.str (nmF e))])], []) := by
  unfold nmF
  refine val_name_ans rfl rfl ?_
  repeat' (first | (simp -implicitDefEqProofs +contextual (maxSteps := 10000000) (disch := first | with_unfolding_all exact id rfl | assumption | ((fail_if_success (with_reducible refine isB ?_)); (first | omega | decide))) only [go_sem, v_n]) | refine vIte_i (fun hb => ?_) fun hb => ?_ | refine vAp_i (by kernel_rfl) ?_ | refine vIf_i (fun hb => ?_) fun hb => ?_ | refine oT_Gi (fun hb => ?_) fun hb => ?_)
  all_goals simp [*]
theorem rname_spec (e : Int) : ansOf E F_ref13_ErrText [.w (.p (.int .i64 e))] = some ([(false, [.p (.str (nmF e))])], []) := by
  unfold nmF
  refine ref13_ErrText_ans rfl rfl ?_
  repeat' (first | (simp -implicitDefEqProofs +contextual (maxSteps := 10000000) (disch := first | with_unfolding_all exact id rfl | assumption | ((fail_if_success (with_reducible refine isB ?_)); (first | omega | decide))) only [go_sem, v_n]) | refine vIte_i (fun hb => ?_) fun hb => ?_ | refine vAp_i (by kernel_rfl) ?_ | refine vIf_i (fun hb => ?_) fun hb => ?_ | refine oT_Gi (fun hb => ?_) fun hb => ?_)
  all_goals simp [*]
theorem fault_spec (e : Int) : ansOf E F_val_Fault [.w (.p (.int .i64 e))] = some ([(true, [.p (.int .i64 4), .p (.int .i64 0), .p (.int .i64 0), .p (.str []), .p (.bool false), .p (.int .i64 e)])], []) := by
  refine val_Fault_ans rfl rfl ?_
  repeat' (first | (simp -implicitDefEqProofs +contextual (maxSteps := 10000000) (disch := first | with_unfolding_all exact id rfl | assumption | ((fail_if_success (with_reducible refine isB ?_)); (first | omega | decide))) only [go_sem, v_n]) | refine vIte_i (fun hb => ?_) fun hb => ?_ | refine vAp_i (by kernel_rfl) ?_ | refine vIf_i (fun hb => ?_) fun hb => ?_ | refine oT_Gi (fun hb => ?_) fun hb => ?_)
theorem vown1 (k m c : Int) (s : List UInt8) (b : Bool) (e : Int) (h : k = 1) : ansOf E F_val_own [.a [.p (.int .i64 k), .p (.int .i64 m), .p (.int .i64 c), .p (.str s), .p (.bool b), .p (.int .i64 e)]] = some ([(true, [.p (.int .i64 1), .p (.int .i64 m), .p (.int .i64 c), .p (.str []), .p (.bool false), .p (.int .i64 0)])], []) := by
  refine val_own_ans rfl rfl ?_
  repeat' (first | (simp -implicitDefEqProofs +contextual (maxSteps := 10000000) (disch := first | with_unfolding_all exact id rfl | assumption | ((fail_if_success (with_reducible refine isB ?_)); (first | omega | decide))) only [go_sem, v_n, h, fault_spec]) | refine vIte_i (fun hb => ?_) fun hb => ?_ | refine vAp_i (by kernel_rfl) ?_ | refine vIf_i (fun hb => ?_) fun hb => ?_ | refine oT_Gi (fun hb => ?_) fun hb => ?_)
theorem vown2 (k m c : Int) (s : List UInt8) (b : Bool) (e : Int) (h : k = 2) : ansOf E F_val_own [.a [.p (.int .i64 k), .p (.int .i64 m), .p (.int .i64 c), .p (.str s), .p (.bool b), .p (.int .i64 e)]] = some ([(true, [.p (.int .i64 2), .p (.int .i64 0), .p (.int .i64 0), .p (.str s), .p (.bool false), .p (.int .i64 0)])], []) := by
  refine val_own_ans rfl rfl ?_
  repeat' (first | (simp -implicitDefEqProofs +contextual (maxSteps := 10000000) (disch := first | with_unfolding_all exact id rfl | assumption | ((fail_if_success (with_reducible refine isB ?_)); (first | omega | decide))) only [go_sem, v_n, h, fault_spec]) | refine vIte_i (fun hb => ?_) fun hb => ?_ | refine vAp_i (by kernel_rfl) ?_ | refine vIf_i (fun hb => ?_) fun hb => ?_ | refine oT_Gi (fun hb => ?_) fun hb => ?_)
theorem vown3 (k m c : Int) (s : List UInt8) (b : Bool) (e : Int) (h : k = 3) : ansOf E F_val_own [.a [.p (.int .i64 k), .p (.int .i64 m), .p (.int .i64 c), .p (.str s), .p (.bool b), .p (.int .i64 e)]] = some ([(true, [.p (.int .i64 3), .p (.int .i64 0), .p (.int .i64 0), .p (.str []), .p (.bool b), .p (.int .i64 0)])], []) := by
  refine val_own_ans rfl rfl ?_
  repeat' (first | (simp -implicitDefEqProofs +contextual (maxSteps := 10000000) (disch := first | with_unfolding_all exact id rfl | assumption | ((fail_if_success (with_reducible refine isB ?_)); (first | omega | decide))) only [go_sem, v_n, h, fault_spec]) | refine vIte_i (fun hb => ?_) fun hb => ?_ | refine vAp_i (by kernel_rfl) ?_ | refine vIf_i (fun hb => ?_) fun hb => ?_ | refine oT_Gi (fun hb => ?_) fun hb => ?_)
theorem vown4 (k m c : Int) (s : List UInt8) (b : Bool) (e : Int) (h : k = 4) : ansOf E F_val_own [.a [.p (.int .i64 k), .p (.int .i64 m), .p (.int .i64 c), .p (.str s), .p (.bool b), .p (.int .i64 e)]] = some ([(true, [.p (.int .i64 4), .p (.int .i64 0), .p (.int .i64 0), .p (.str []), .p (.bool false), .p (.int .i64 e)])], []) := by
  refine val_own_ans rfl rfl ?_
  repeat' (first | (simp -implicitDefEqProofs +contextual (maxSteps := 10000000) (disch := first | with_unfolding_all exact id rfl | assumption | ((fail_if_success (with_reducible refine isB ?_)); (first | omega | decide))) only [go_sem, v_n, h, fault_spec]) | refine vIte_i (fun hb => ?_) fun hb => ?_ | refine vAp_i (by kernel_rfl) ?_ | refine vIf_i (fun hb => ?_) fun hb => ?_ | refine oT_Gi (fun hb => ?_) fun hb => ?_)
theorem vown0 (k m c : Int) (s : List UInt8) (b : Bool) (e : Int) (h1 : ¬ k = 1) (h2 : ¬ k = 2) (h3 : ¬ k = 3) (h4 : ¬ k = 4) : ansOf E F_val_own [.a [.p (.int .i64 k), .p (.int .i64 m), .p (.int .i64 c), .p (.str s), .p (.bool b), .p (.int .i64 e)]] = some ([(true, [.p (.int .i64 k), .p (.int .i64 0), .p (.int .i64 0), .p (.str []), .p (.bool false), .p (.int .i64 0)])], []) := by
  refine val_own_ans rfl rfl ?_
  repeat' (first | (simp -implicitDefEqProofs +contextual (maxSteps := 10000000) (disch := first | with_unfolding_all exact id rfl | assumption | ((fail_if_success (with_reducible refine isB ?_)); (first | omega | decide))) only [go_sem, v_n, h1, h2, h3, h4]) | refine vIte_i (fun hb => ?_) fun hb => ?_ | refine vAp_i (by kernel_rfl) ?_ | refine vIf_i (fun hb => ?_) fun hb => ?_ | refine oT_Gi (fun hb => ?_) fun hb => ?_)
theorem vcheck_spec (k m c : Int) (s : List UInt8) (b : Bool) (e : Int) (hs : s.length ≤ 1000000) : ansOf E F_val_Check [.a [.p (.int .i64 k), .p (.int .i64 m), .p (.int .i64 c), .p (.str s), .p (.bool b), .p (.int .i64 e)]] = some ([(false, [.p (.int .i64 (vC ⟨k, m, c, s, b, e⟩))])], []) := by
  rcases (by omega : k = 1 ∨ k = 2 ∨ k = 3 ∨ k = 4 ∨ (¬ k = 1 ∧ ¬ k = 2 ∧ ¬ k = 3 ∧ ¬ k = 4)) with rfl | rfl | rfl | rfl | ⟨h1, h2, h3, h4⟩
  · have ho := vown1 1 m c s b e rfl
    refine val_Check_ans rfl rfl ?_
    repeat' (first | (simp -implicitDefEqProofs +contextual (maxSteps := 10000000) (disch := first | with_unfolding_all exact id rfl | assumption | ((fail_if_success (with_reducible refine isB ?_)); (first | omega | decide))) only [go_sem, v_n, ho, dcheck_spec, sUnits_spec, name_spec]) | refine vIte_i (fun hb => ?_) fun hb => ?_ | refine vAp_i (by kernel_rfl) ?_ | refine vIf_i (fun hb => ?_) fun hb => ?_ | refine oT_Gi (fun hb => ?_) fun hb => ?_)
    all_goals (clear ho; refine congrArg (fun b => OV.p (PV.int .i64 b)) ?_; unfold vC; grind)
  · have ho := vown2 2 m c s b e rfl
    refine val_Check_ans rfl rfl ?_
    repeat' (first | (simp -implicitDefEqProofs +contextual (maxSteps := 10000000) (disch := first | with_unfolding_all exact id rfl | assumption | ((fail_if_success (with_reducible refine isB ?_)); (first | omega | decide))) only [go_sem, v_n, ho, dcheck_spec, sUnits_spec, name_spec]) | refine vIte_i (fun hb => ?_) fun hb => ?_ | refine vAp_i (by kernel_rfl) ?_ | refine vIf_i (fun hb => ?_) fun hb => ?_ | refine oT_Gi (fun hb => ?_) fun hb => ?_)
    all_goals (clear ho; refine congrArg (fun b => OV.p (PV.int .i64 b)) ?_; unfold vC; grind)
  · have ho := vown3 3 m c s b e rfl
    refine val_Check_ans rfl rfl ?_
    repeat' (first | (simp -implicitDefEqProofs +contextual (maxSteps := 10000000) (disch := first | with_unfolding_all exact id rfl | assumption | ((fail_if_success (with_reducible refine isB ?_)); (first | omega | decide))) only [go_sem, v_n, ho, dcheck_spec, sUnits_spec, name_spec]) | refine vIte_i (fun hb => ?_) fun hb => ?_ | refine vAp_i (by kernel_rfl) ?_ | refine vIf_i (fun hb => ?_) fun hb => ?_ | refine oT_Gi (fun hb => ?_) fun hb => ?_)
    all_goals (clear ho; refine congrArg (fun b => OV.p (PV.int .i64 b)) ?_; unfold vC; grind)
  · have ho := vown4 4 m c s b e rfl
    refine val_Check_ans rfl rfl ?_
    repeat' (first | (simp -implicitDefEqProofs +contextual (maxSteps := 10000000) (disch := first | with_unfolding_all exact id rfl | assumption | ((fail_if_success (with_reducible refine isB ?_)); (first | omega | decide))) only [go_sem, v_n, ho, dcheck_spec, sUnits_spec, name_spec]) | refine vIte_i (fun hb => ?_) fun hb => ?_ | refine vAp_i (by kernel_rfl) ?_ | refine vIf_i (fun hb => ?_) fun hb => ?_ | refine oT_Gi (fun hb => ?_) fun hb => ?_)
    all_goals (clear ho; refine congrArg (fun b => OV.p (PV.int .i64 b)) ?_; unfold vC; grind)
  · have ho := vown0 k m c s b e h1 h2 h3 h4
    refine val_Check_ans rfl rfl ?_
    repeat' (first | (simp -implicitDefEqProofs +contextual (maxSteps := 10000000) (disch := first | with_unfolding_all exact id rfl | assumption | ((fail_if_success (with_reducible refine isB ?_)); (first | omega | decide))) only [go_sem, v_n, h1, h2, h3, h4, ho, dcheck_spec, sUnits_spec, name_spec]) | refine vIte_i (fun hb => ?_) fun hb => ?_ | refine vAp_i (by kernel_rfl) ?_ | refine vIf_i (fun hb => ?_) fun hb => ?_ | refine oT_Gi (fun hb => ?_) fun hb => ?_)
    all_goals (clear ho; refine congrArg (fun b => OV.p (PV.int .i64 b)) ?_; unfold vC; grind)
theorem rvcheck_spec (k m c : Int) (s : List UInt8) (b : Bool) (e : Int) (hs : s.length ≤ 1000000) : ansOf E F_ref13_CheckVal [.a [.p (.int .i64 k), .p (.int .i64 m), .p (.int .i64 c), .p (.str s), .p (.bool b), .p (.int .i64 e)]] = some ([(false, [.p (.int .i64 (vC ⟨k, m, c, s, b, e⟩))])], []) := by
  rcases (by omega : k = 1 ∨ k = 2 ∨ k = 3 ∨ k = 4 ∨ (¬ k = 1 ∧ ¬ k = 2 ∧ ¬ k = 3 ∧ ¬ k = 4)) with rfl | rfl | rfl | rfl | ⟨h1, h2, h3, h4⟩
  all_goals
    refine ref13_CheckVal_ans rfl rfl ?_
    repeat' (first | (simp -implicitDefEqProofs +contextual (maxSteps := 10000000) (disch := first | with_unfolding_all exact id rfl | assumption | ((fail_if_success (with_reducible refine isB ?_)); (first | omega | decide))) only [go_sem, v_n, *, rdcheck_spec, rUnits_spec, rname_spec]) | refine vIte_i (fun hb => ?_) fun hb => ?_ | refine vAp_i (by kernel_rfl) ?_ | refine vIf_i (fun hb => ?_) fun hb => ?_ | refine oT_Gi (fun hb => ?_) fun hb => ?_)
    all_goals (refine congrArg (fun b => OV.p (PV.int .i64 b)) ?_; unfold vC; grind)
end Go.Pv.Cb
