/- What the functions that EnvTakes reaches compute: a part. -/
import Derived.Test.YtfckadoadmdgjaaDoorXL
set_option linter.all false
namespace Go.Pv.Cb
set_option linter.unusedSimpArgs false
open Go.Pv
set_option maxRecDepth 10000
set_option maxHeartbeats 8000000
def zv : Vl := ⟨0, 0, 0, [], false, 0⟩
def zr : Rf := ⟨0, 0, false, false⟩
def tAt (r c : Int) : Tr := .mk 2 ⟨0, 0, 0, [], false, 0⟩ ⟨⟨r, c, false, false⟩, ⟨0, 0, false, false⟩⟩ 0 0 []
def tSpan (a b c : Int) : Tr := .mk 3 ⟨0, 0, 0, [], false, 0⟩ ⟨⟨a, c, false, false⟩, ⟨b, c, false, false⟩⟩ 0 0 []
def tName (n : Int) : Tr := .mk 6 ⟨0, 0, 0, [], false, 0⟩ ⟨⟨0, 0, false, false⟩, ⟨0, 0, false, false⟩⟩ 0 n []
def tNum (n : Int) : Tr := .mk 1 ⟨1, n, 0, [], false, 0⟩ ⟨⟨0, 0, false, false⟩, ⟨0, 0, false, false⟩⟩ 0 0 []
abbrev tNode (k op : Int) (l : List Tr) : Tr := .mk k ⟨0, 0, 0, [], false, 0⟩ ⟨⟨0, 0, false, false⟩, ⟨0, 0, false, false⟩⟩ 0 op l
abbrev oNode (k op : Int) (x : OV) : List OV := [.p (.int .i64 k), .p (.int .i64 0), .p (.int .i64 0), .p (.int .i64 0), .p (.str []), .p (.bool false), .p (.int .i64 0), .p (.int .i64 0), .p (.int .i64 0), .p (.bool false), .p (.bool false), .p (.int .i64 0), .p (.int .i64 0), .p (.bool false), .p (.bool false), .p (.int .i64 0), .p (.int .i64 op), x]
theorem dInt_spec (n : Int) : ansOf E F_dec_Int [.w (.p (.int .i64 n))] = some ([(true, [.p (.int .i64 n), .p (.int .i64 0)])], []) := by
  refine dec_Int_ans rfl rfl ?_
  repeat' (first | (simp -implicitDefEqProofs +contextual (maxSteps := 10000000) (disch := first | with_unfolding_all exact id rfl | assumption | ((fail_if_success (with_reducible refine isB ?_)); (first | omega | decide))) only [go_sem, v_n]) | refine vIte_i (fun hb => ?_) fun hb => ?_ | refine vAp_i (by kernel_rfl) ?_ | refine vIf_i (fun hb => ?_) fun hb => ?_ | refine oT_Gi (fun hb => ?_) fun hb => ?_)
theorem vN_spec (n : Int) : ansOf E F_law9_N [.w (.p (.int .i64 n))] = some ([(true, [.p (.int .i64 1), .p (.int .i64 n), .p (.int .i64 0), .p (.str []), .p (.bool false), .p (.int .i64 0)])], []) := by
  refine law9_N_ans rfl rfl ?_
  repeat' (first | (simp -implicitDefEqProofs +contextual (maxSteps := 10000000) (disch := first | with_unfolding_all exact id rfl | assumption | ((fail_if_success (with_reducible refine isB ?_)); (first | omega | decide))) only [go_sem, v_n, dInt_spec]) | refine vIte_i (fun hb => ?_) fun hb => ?_ | refine vAp_i (by kernel_rfl) ?_ | refine vIf_i (fun hb => ?_) fun hb => ?_ | refine oT_Gi (fun hb => ?_) fun hb => ?_)
def pars (t : Tr) : Nat → Tr
  | 0 => t
  | n + 1 => tNode 10 0 [pars t n]
abbrev eK : Tr := tNode 8 1 [tAt 1 2, tNode 9 0 [tSpan 0 3 1, tNode 6 3 []]]
abbrev fK : Tr := .mk 8 ⟨0, 0, 0, [], false, 0⟩ ⟨⟨0, 0, false, false⟩, ⟨0, 0, false, false⟩⟩ 1 1 [tAt 1 2, tNode 9 0 [tSpan 0 3 1, tNode 6 3 []]]
abbrev zT : Tr := .mk 0 ⟨0, 0, 0, [], false, 0⟩ ⟨⟨0, 0, false, false⟩, ⟨0, 0, false, false⟩⟩ 0 0 []
abbrev cZ : Tr := .mk 1 ⟨0, 0, 0, [], false, 0⟩ ⟨⟨0, 0, false, false⟩, ⟨0, 0, false, false⟩⟩ 0 0 []
end Go.Pv.Cb
