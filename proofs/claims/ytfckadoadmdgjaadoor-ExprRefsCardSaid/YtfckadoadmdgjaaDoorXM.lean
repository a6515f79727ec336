/- What the functions that ExprRefs reaches compute: a part. -/
import Derived.Test.YtfckadoadmdgjaaDoorXL
set_option linter.all false
namespace Go.Pv.Cb
set_option linter.unusedSimpArgs false
open Go.Pv
set_option maxRecDepth 10000
set_option maxHeartbeats 8000000
theorem foldL (k vk vm vc : Int) (vs : List UInt8) (vb : Bool) (ve r1 c1 : Int) (x1 y1 : Bool) (r2 c2 : Int) (x2 y2 : Bool) (sh op : Int) (l : List Tr) : [.p (.int .i64 k), .p (.int .i64 vk), .p (.int .i64 vm), .p (.int .i64 vc), .p (.str vs), .p (.bool vb), .p (.int .i64 ve), .p (.int .i64 r1), .p (.int .i64 c1), .p (.bool x1), .p (.bool y1), .p (.int .i64 r2), .p (.int .i64 c2), .p (.bool x2), .p (.bool y2), .p (.int .i64 sh), .p (.int .i64 op), .p (.sl 18 (l.map cT))] = (cT (.mk k ⟨vk, vm, vc, vs, vb, ve⟩ ⟨⟨r1, c1, x1, y1⟩, ⟨r2, c2, x2, y2⟩⟩ sh op l)).map OV.p := by
  rw [cT_eq (.mk k ⟨vk, vm, vc, vs, vb, ve⟩ ⟨⟨r1, c1, x1, y1⟩, ⟨r2, c2, x2, y2⟩⟩ sh op l)]; rfl
theorem fold0 (k vk vm vc : Int) (vs : List UInt8) (vb : Bool) (ve r1 c1 : Int) (x1 y1 : Bool) (r2 c2 : Int) (x2 y2 : Bool) (sh op : Int) : [.p (.int .i64 k), .p (.int .i64 vk), .p (.int .i64 vm), .p (.int .i64 vc), .p (.str vs), .p (.bool vb), .p (.int .i64 ve), .p (.int .i64 r1), .p (.int .i64 c1), .p (.bool x1), .p (.bool y1), .p (.int .i64 r2), .p (.int .i64 c2), .p (.bool x2), .p (.bool y2), .p (.int .i64 sh), .p (.int .i64 op), .p (.sl 18 [])] = (cT (.mk k ⟨vk, vm, vc, vs, vb, ve⟩ ⟨⟨r1, c1, x1, y1⟩, ⟨r2, c2, x2, y2⟩⟩ sh op [])).map OV.p := foldL k vk vm vc vs vb ve r1 c1 x1 y1 r2 c2 x2 y2 sh op []
theorem fold1 (k vk vm vc : Int) (vs : List UInt8) (vb : Bool) (ve r1 c1 : Int) (x1 y1 : Bool) (r2 c2 : Int) (x2 y2 : Bool) (sh op : Int) (a : Tr) : [.p (.int .i64 k), .p (.int .i64 vk), .p (.int .i64 vm), .p (.int .i64 vc), .p (.str vs), .p (.bool vb), .p (.int .i64 ve), .p (.int .i64 r1), .p (.int .i64 c1), .p (.bool x1), .p (.bool y1), .p (.int .i64 r2), .p (.int .i64 c2), .p (.bool x2), .p (.bool y2), .p (.int .i64 sh), .p (.int .i64 op), .p (.sl 18 [cT a])] = (cT (.mk k ⟨vk, vm, vc, vs, vb, ve⟩ ⟨⟨r1, c1, x1, y1⟩, ⟨r2, c2, x2, y2⟩⟩ sh op [a])).map OV.p := foldL k vk vm vc vs vb ve r1 c1 x1 y1 r2 c2 x2 y2 sh op [a]
theorem fold2 (k vk vm vc : Int) (vs : List UInt8) (vb : Bool) (ve r1 c1 : Int) (x1 y1 : Bool) (r2 c2 : Int) (x2 y2 : Bool) (sh op : Int) (a b : Tr) : [.p (.int .i64 k), .p (.int .i64 vk), .p (.int .i64 vm), .p (.int .i64 vc), .p (.str vs), .p (.bool vb), .p (.int .i64 ve), .p (.int .i64 r1), .p (.int .i64 c1), .p (.bool x1), .p (.bool y1), .p (.int .i64 r2), .p (.int .i64 c2), .p (.bool x2), .p (.bool y2), .p (.int .i64 sh), .p (.int .i64 op), .p (.sl 18 [cT a, cT b])] = (cT (.mk k ⟨vk, vm, vc, vs, vb, ve⟩ ⟨⟨r1, c1, x1, y1⟩, ⟨r2, c2, x2, y2⟩⟩ sh op [a, b])).map OV.p := foldL k vk vm vc vs vb ve r1 c1 x1 y1 r2 c2 x2 y2 sh op [a, b]
theorem foldP (k vk vm vc : Int) (vs : List UInt8) (vb : Bool) (ve r1 c1 : Int) (x1 y1 : Bool) (r2 c2 : Int) (x2 y2 : Bool) (sh op : Int) : [.int .i64 k, .int .i64 vk, .int .i64 vm, .int .i64 vc, .str vs, .bool vb, .int .i64 ve, .int .i64 r1, .int .i64 c1, .bool x1, .bool y1, .int .i64 r2, .int .i64 c2, .bool x2, .bool y2, .int .i64 sh, .int .i64 op, .sl 18 []] = cT (.mk k ⟨vk, vm, vc, vs, vb, ve⟩ ⟨⟨r1, c1, x1, y1⟩, ⟨r2, c2, x2, y2⟩⟩ sh op []) := by rw [cT_eq (.mk k ⟨vk, vm, vc, vs, vb, ve⟩ ⟨⟨r1, c1, x1, y1⟩, ⟨r2, c2, x2, y2⟩⟩ sh op [])]; rfl
def zv : Vl := ⟨0, 0, 0, [], false, 0⟩
def zr : Rf := ⟨0, 0, false, false⟩
def tAt (r c : Int) : Tr := .mk 2 ⟨0, 0, 0, [], false, 0⟩ ⟨⟨r, c, false, false⟩, ⟨0, 0, false, false⟩⟩ 0 0 []
def tSpan (a b c : Int) : Tr := .mk 3 ⟨0, 0, 0, [], false, 0⟩ ⟨⟨a, c, false, false⟩, ⟨b, c, false, false⟩⟩ 0 0 []
def tName (n : Int) : Tr := .mk 6 ⟨0, 0, 0, [], false, 0⟩ ⟨⟨0, 0, false, false⟩, ⟨0, 0, false, false⟩⟩ 0 n []
def tNum (n : Int) : Tr := .mk 1 ⟨1, n, 0, [], false, 0⟩ ⟨⟨0, 0, false, false⟩, ⟨0, 0, false, false⟩⟩ 0 0 []
abbrev tNode (k op : Int) (l : List Tr) : Tr := .mk k ⟨0, 0, 0, [], false, 0⟩ ⟨⟨0, 0, false, false⟩, ⟨0, 0, false, false⟩⟩ 0 op l
abbrev oNode (k op : Int) (x : OV) : List OV := [.p (.int .i64 k), .p (.int .i64 0), .p (.int .i64 0), .p (.int .i64 0), .p (.str []), .p (.bool false), .p (.int .i64 0), .p (.int .i64 0), .p (.int .i64 0), .p (.bool false), .p (.bool false), .p (.int .i64 0), .p (.int .i64 0), .p (.bool false), .p (.bool false), .p (.int .i64 0), .p (.int .i64 op), x]
theorem lAt_spec (r c : Int) : ansOf E F_law10_At [.w (.p (.int .i64 r)), .w (.p (.int .i64 c))] = some ([(true, wT (tAt r c))], []) := by
  refine law10_At_ans rfl rfl ?_
  repeat' (first | (simp -implicitDefEqProofs +contextual (maxSteps := 10000000) (disch := first | with_unfolding_all exact id rfl | assumption | ((fail_if_success (with_reducible refine isB ?_)); (first | omega | decide))) only [go_sem, v_n]) | refine vIte_i (fun hb => ?_) fun hb => ?_ | refine vAp_i (by kernel_rfl) ?_ | refine vIf_i (fun hb => ?_) fun hb => ?_ | refine oT_Gi (fun hb => ?_) fun hb => ?_)
  rfl
theorem lSpan_spec (a b c : Int) : ansOf E F_law10_Span [.w (.p (.int .i64 a)), .w (.p (.int .i64 b)), .w (.p (.int .i64 c))] = some ([(true, wT (tSpan a b c))], []) := by
  refine law10_Span_ans rfl rfl ?_
  repeat' (first | (simp -implicitDefEqProofs +contextual (maxSteps := 10000000) (disch := first | with_unfolding_all exact id rfl | assumption | ((fail_if_success (with_reducible refine isB ?_)); (first | omega | decide))) only [go_sem, v_n]) | refine vIte_i (fun hb => ?_) fun hb => ?_ | refine vAp_i (by kernel_rfl) ?_ | refine vIf_i (fun hb => ?_) fun hb => ?_ | refine oT_Gi (fun hb => ?_) fun hb => ?_)
  rfl
theorem dInt_spec (n : Int) : ansOf E F_dec_Int [.w (.p (.int .i64 n))] = some ([(true, [.p (.int .i64 n), .p (.int .i64 0)])], []) := by
  refine dec_Int_ans rfl rfl ?_
  repeat' (first | (simp -implicitDefEqProofs +contextual (maxSteps := 10000000) (disch := first | with_unfolding_all exact id rfl | assumption | ((fail_if_success (with_reducible refine isB ?_)); (first | omega | decide))) only [go_sem, v_n]) | refine vIte_i (fun hb => ?_) fun hb => ?_ | refine vAp_i (by kernel_rfl) ?_ | refine vIf_i (fun hb => ?_) fun hb => ?_ | refine oT_Gi (fun hb => ?_) fun hb => ?_)
theorem vN_spec (n : Int) : ansOf E F_law9_N [.w (.p (.int .i64 n))] = some ([(true, [.p (.int .i64 1), .p (.int .i64 n), .p (.int .i64 0), .p (.str []), .p (.bool false), .p (.int .i64 0)])], []) := by
  refine law9_N_ans rfl rfl ?_
  repeat' (first | (simp -implicitDefEqProofs +contextual (maxSteps := 10000000) (disch := first | with_unfolding_all exact id rfl | assumption | ((fail_if_success (with_reducible refine isB ?_)); (first | omega | decide))) only [go_sem, v_n, dInt_spec]) | refine vIte_i (fun hb => ?_) fun hb => ?_ | refine vAp_i (by kernel_rfl) ?_ | refine vIf_i (fun hb => ?_) fun hb => ?_ | refine oT_Gi (fun hb => ?_) fun hb => ?_)
theorem lNum_spec (n : Int) : ansOf E F_law10_Num [.w (.p (.int .i64 n))] = some ([(true, wT (tNum n))], []) := by
  refine law10_Num_ans rfl rfl ?_
  repeat' (first | (simp -implicitDefEqProofs +contextual (maxSteps := 10000000) (disch := first | with_unfolding_all exact id rfl | assumption | ((fail_if_success (with_reducible refine isB ?_)); (first | omega | decide))) only [go_sem, v_n, vN_spec]) | refine vIte_i (fun hb => ?_) fun hb => ?_ | refine vAp_i (by kernel_rfl) ?_ | refine vIf_i (fun hb => ?_) fun hb => ?_ | refine oT_Gi (fun hb => ?_) fun hb => ?_)
  rfl
theorem lBin_spec (op : Int) (a b : Tr) : ansOf E F_law10_Bin [.w (.p (.int .i64 op)), .a ((cT a).map OV.p), .a ((cT b).map OV.p)] = some ([(true, oNode 8 op (.own 18 [(cT a).map OV.p, (cT b).map OV.p]))], []) := by
  refine law10_Bin_ans rfl rfl ?_
  repeat' (first | (simp -implicitDefEqProofs +contextual (maxSteps := 10000000) (disch := first | with_unfolding_all exact id rfl | assumption | ((fail_if_success (with_reducible refine isB ?_)); (first | omega | decide))) only [go_sem, v_n]) | refine vIte_i (fun hb => ?_) fun hb => ?_ | refine vAp_i (by kernel_rfl) ?_ | refine vIf_i (fun hb => ?_) fun hb => ?_ | refine oT_Gi (fun hb => ?_) fun hb => ?_)
theorem lCall_spec (op : Int) (l : List (List PV)) : ansOf E F_law10_Call [.w (.p (.int .i64 op)), .w (.p (.sl 18 l))] = some ([(true, oNode 9 op (.p (.sl 18 l)))], []) := by
  refine law10_Call_ans rfl rfl ?_
  repeat' (first | (simp -implicitDefEqProofs +contextual (maxSteps := 10000000) (disch := first | with_unfolding_all exact id rfl | assumption | ((fail_if_success (with_reducible refine isB ?_)); (first | omega | decide))) only [go_sem, v_n]) | refine vIte_i (fun hb => ?_) fun hb => ?_ | refine vAp_i (by kernel_rfl) ?_ | refine vIf_i (fun hb => ?_) fun hb => ?_ | refine oT_Gi (fun hb => ?_) fun hb => ?_)
theorem cT_putL (t : Tr) (new : List OV) (h : new.length = 18) : cellsPut ((cT t).map OV.p) 0 new = some new := put_full (by simp [cT_len, h])
theorem wT_putL (t : Tr) (new : List OV) (h : new.length = 18) : cellsPut (wT t) 0 new = some new := put_full (by simp [wT_len, h])
theorem wT_putM (t : Tr) (f : OV → OV) : cellsPut (wT t) 0 ((wT t).map f) = some ((wT t).map f) := put_full (by simp)
def pars (t : Tr) : Nat → Tr
  | 0 => t
  | n + 1 => tNode 10 0 [pars t n]
theorem lnest_spec (n : Nat) (hn : n ≤ 1000) : ansOf E F_law10_nest [.w (.p (.int .i64 n))] = some ([(true, if n = 0 then wT (tNum 1) else oNode 10 0 (.own 18 [(cT (pars (tNum 1) (n - 1))).map OV.p]))], []) := by
  refine law10_nest_ans rfl rfl ?_
  repeat' (first | (simp -implicitDefEqProofs +contextual (maxSteps := 10000000) (disch := first | with_unfolding_all exact id rfl | assumption | ((fail_if_success (with_reducible refine isB ?_)); (first | omega | decide))) only [go_sem, v_n, lNum_spec]) | refine vIte_i (fun hb => ?_) fun hb => ?_ | refine vAp_i (by kernel_rfl) ?_ | refine vIf_i (fun hb => ?_) fun hb => ?_ | refine oT_Gi (fun hb => ?_) fun hb => ?_)
  refine v_inv (fun i : Nat => [(0, .w (.p (.int .i64 n))), (2, .box Z0), (3, .box (if i = 0 then wT (tNum 1) else oNode 10 0 (.own 18 [(cT (pars (tNum 1) (i - 1))).map OV.p]))), (4, .w (.p (.int .i64 i)))]) (fun i => i ≤ n) (fun i => n - i) 0 rfl (by omega) ?_
  intro i hi hih
  by_cases hlt : i < n
  · have h1 : (i : Int) < n := by omega
    have := hih (i + 1) (by omega) (by omega)
    rw [if_neg (by omega)] at this
    cases i with
    | zero =>
      rw [if_pos rfl]
      have h1 : (0 : Int) < n := by omega
      repeat' (first | (simp -implicitDefEqProofs +contextual (maxSteps := 10000000) (disch := first | with_unfolding_all exact id rfl | assumption | ((fail_if_success (with_reducible refine isB ?_)); (first | omega | decide))) only [go_sem, v_n, h1, cT_putL]) | refine vIte_i (fun hb => ?_) fun hb => ?_ | refine vAp_i (by kernel_rfl) ?_ | refine vIf_i (fun hb => ?_) fun hb => ?_ | refine oT_Gi (fun hb => ?_) fun hb => ?_)
      exact this
    | succ i =>
      rw [if_neg (by omega), Nat.add_sub_cancel]
      repeat' (first | (simp -implicitDefEqProofs +contextual (maxSteps := 10000000) (disch := first | with_unfolding_all exact id rfl | assumption | ((fail_if_success (with_reducible refine isB ?_)); (first | omega | decide))) only [go_sem, v_n, h1, fold1, cT_putL]) | refine vIte_i (fun hb => ?_) fun hb => ?_ | refine vAp_i (by kernel_rfl) ?_ | refine vIf_i (fun hb => ?_) fun hb => ?_ | refine oT_Gi (fun hb => ?_) fun hb => ?_)
      exact this
  · obtain rfl : i = n := by omega
    have h1 : ¬ (i : Int) < i := by omega
    cases i with
    | zero =>
      rw [if_pos rfl]
      have h1 : ¬ (0 : Int) < 0 := by omega
      repeat' (first | (simp -implicitDefEqProofs +contextual (maxSteps := 10000000) (disch := first | with_unfolding_all exact id rfl | assumption | ((fail_if_success (with_reducible refine isB ?_)); (first | omega | decide))) only [go_sem, v_n, h1, wT_putM]) | refine vIte_i (fun hb => ?_) fun hb => ?_ | refine vAp_i (by kernel_rfl) ?_ | refine vIf_i (fun hb => ?_) fun hb => ?_ | refine oT_Gi (fun hb => ?_) fun hb => ?_)
    | succ i =>
      rw [if_neg (by omega)]
      repeat' (first | (simp -implicitDefEqProofs +contextual (maxSteps := 10000000) (disch := first | with_unfolding_all exact id rfl | assumption | ((fail_if_success (with_reducible refine isB ?_)); (first | omega | decide))) only [go_sem, v_n, h1]) | refine vIte_i (fun hb => ?_) fun hb => ?_ | refine vAp_i (by kernel_rfl) ?_ | refine vIf_i (fun hb => ?_) fun hb => ?_ | refine oT_Gi (fun hb => ?_) fun hb => ?_)
theorem cT_sh (k : Int) (v : Vl) (a : Ar) (sh op s : Int) (ks : List Tr) : cellsPut ((cT (.mk k v a sh op ks)).map OV.p) 15 [.p (.int .i64 s)] = some ((cT (.mk k v a s op ks)).map OV.p) := by
  rw [cT_eq (.mk k v a sh op ks), cT_eq (.mk k v a s op ks)]; rfl
abbrev eK : Tr := tNode 8 1 [tAt 1 2, tNode 9 0 [tSpan 0 3 1, tNode 6 3 []]]
abbrev fK : Tr := .mk 8 ⟨0, 0, 0, [], false, 0⟩ ⟨⟨0, 0, false, false⟩, ⟨0, 0, false, false⟩⟩ 1 1 [tAt 1 2, tNode 9 0 [tSpan 0 3 1, tNode 6 3 []]]
theorem dep_K : dep eK = 3 := by decide +kernel
theorem n_K : eK.n = 5 := by decide +kernel
theorem chk_K : chk eK = 0 := by
  unfold chk
  rw [dep_K, n_K]
  simp [ffT, ffTs, partF, goodQ, tAt, tSpan, aC, Tr.k, Tr.v, Tr.a, Tr.sh, Tr.op, Tr.ks]
theorem chk_F : chk fK = 1 := by
  unfold chk
  rw [show dep fK = 3 by decide +kernel, show fK.n = 5 by decide +kernel]
  simp [ffT, ffTs_ne, partF, goodQ, tAt, tSpan, aC, Tr.k, Tr.v, Tr.a, Tr.sh, Tr.op, Tr.ks]
theorem same_F : sT eK fK = false := by
  rw [← Bool.not_eq_true, sT_iff]; simp
theorem ref_K : rfT eK = [tAt 1 2, tSpan 0 3 1, tNode 6 3 []] := by
  simp [rfT, rfTs, tAt, tSpan]
abbrev zT : Tr := .mk 0 ⟨0, 0, 0, [], false, 0⟩ ⟨⟨0, 0, false, false⟩, ⟨0, 0, false, false⟩⟩ 0 0 []
abbrev cZ : Tr := .mk 1 ⟨0, 0, 0, [], false, 0⟩ ⟨⟨0, 0, false, false⟩, ⟨0, 0, false, false⟩⟩ 0 0 []
theorem chk_z : chk zT = 1 := by
  unfold chk
  rw [show dep zT = 1 by decide +kernel, show zT.n = 1 by decide +kernel]
  simp [ffT, ffTs_ne, partF, goodQ, aC, Tr.k, Tr.v, Tr.a, Tr.sh, Tr.op, Tr.ks]
theorem chk_c : chk cZ = 1 := by
  unfold chk
  rw [show dep cZ = 1 by decide +kernel, show cZ.n = 1 by decide +kernel]
  simp [ffT, ffTs_ne, partF, goodQ, aC, vC, Tr.k, Tr.v, Tr.a, Tr.sh, Tr.op, Tr.ks]
theorem chk_a : chk (tAt 65536 0) = 12 := by
  unfold chk
  rw [show dep (tAt 65536 0) = 1 by decide +kernel, show (tAt 65536 0).n = 1 by decide +kernel]
  simp [ffT, ffTs_ne, partF, goodQ, aC, tAt, Tr.k, Tr.v, Tr.a, Tr.sh, Tr.op, Tr.ks]
theorem dep_pars (t : Tr) : ∀ n, dep (pars t n) = dep t + n
  | 0 => by rw [pars]; simp
  | n + 1 => by
    have := dep_le (pars t n)
    rw [pars, dep, dpL_c, dpL, dep_pars t n] at *
    omega
theorem n_pars (t : Tr) : ∀ n, (pars t n).n = t.n + n
  | 0 => by rw [pars]; simp
  | n + 1 => by rw [pars, Tr.n, Tr.ns, Tr.ns, n_pars t n]; omega
theorem ff_pars (t : Tr) : ∀ n, ffT (pars t n) = ffT t
  | 0 => rfl
  | n + 1 => by
    rw [pars, ffT]
    have e : partF (tNode 10 0 [pars t n]) = 0 := by simp [partF, goodQ, aC, Tr.k, Tr.v, Tr.a, Tr.sh, Tr.op, Tr.ks]
    rw [if_pos e, ffTs, if_pos rfl, ffTs, ff_pars t n]
theorem st_pars (t : Tr) (h : t.st) : ∀ n, (pars t n).st
  | 0 => h
  | n + 1 => by rw [pars, Tr.st]; exact ⟨by simp, st_pars t h n, trivial⟩
theorem ff_num : ffT (tNum 1) = 0 := by
  simp [ffT, ffTs, tNum, partF, goodQ, aC, vC, dC, Tr.k, Tr.v, Tr.a, Tr.sh, Tr.op, Tr.ks]
theorem chk_nest (n : Nat) (h : n ≤ 1000) : chk (pars (tNum 1) n) = if 16 < n + 1 then 11 else 0 := by
  unfold chk
  rw [dep_pars, n_pars, ff_pars, ff_num, show dep (tNum 1) = 1 by decide +kernel, show (tNum 1).n = 1 by decide +kernel]
  split <;> split <;> (try split) <;> first | rfl | omega
theorem st_K : eK.st := by simp [Tr.st, Tr.sts, tAt, tSpan]
theorem st_F : fK.st := by simp [Tr.st, Tr.sts, tAt, tSpan]
theorem known_spec : ansOf E F_law10_known [] = some ([(false, [.p (.bool true)])], []) := by
  have e1 := pCheck eK (by rw [n_K]; omega) st_K
  have e2 := pDepth eK (by rw [n_K]; omega)
  have e3 := Count_spec eK (by rw [n_K]; omega)
  have e4 := pRefs eK (by rw [n_K]; omega)
  have e5 := pCheck fK (by rw [show fK.n = 5 by decide +kernel]; omega) st_F
  have e6 := pSame eK eK (by rw [n_K]; omega) (by rw [n_K]; omega)
  have e7 := pSame eK fK (by rw [n_K]; omega) (by rw [show fK.n = 5 by decide +kernel]; omega)
  have e8 := pCheck zT (by rw [show zT.n = 1 by decide +kernel]; omega) (by simp [Tr.st, Tr.sts])
  have e9 := pCheck cZ (by rw [show cZ.n = 1 by decide +kernel]; omega) (by simp [Tr.st, Tr.sts])
  have e10 := pCheck (tAt 65536 0) (by rw [show (tAt 65536 0).n = 1 by decide +kernel]; omega) (by simp [Tr.st, Tr.sts, tAt])
  have e11 := lnest_spec 15 (by omega)
  have e12 := lnest_spec 16 (by omega)
  have e13 := pCheck (pars (tNum 1) 15) (by rw [n_pars, show (tNum 1).n = 1 by decide +kernel]; omega) (st_pars _ (by simp [Tr.st, Tr.sts, tNum]) _)
  have e14 := pCheck (pars (tNum 1) 16) (by rw [n_pars, show (tNum 1).n = 1 by decide +kernel]; omega) (st_pars _ (by simp [Tr.st, Tr.sts, tNum]) _)
  rw [chk_K] at e1
  rw [dep_K] at e2
  rw [n_K] at e3
  rw [ref_K] at e4
  rw [chk_F] at e5
  rw [sT_self] at e6
  rw [same_F] at e7
  rw [chk_z] at e8
  rw [chk_c] at e9
  rw [chk_a] at e10
  rw [chk_nest _ (by omega), if_neg (by omega)] at e13
  rw [chk_nest _ (by omega), if_pos (by omega)] at e14
  rw [if_neg (by omega)] at e11 e12
  have c15 : ((15 : Nat) : Int) = 15 := rfl
  have c16 : ((16 : Nat) : Int) = 16 := rfl
  have c3 : ((3 : Nat) : Int) = 3 := rfl
  have c5 : ((5 : Nat) : Int) = 5 := rfl
  rw [c15] at e11
  rw [c16] at e12
  rw [c5] at e3
  have k1 : (tAt 1 2).k = 2 := rfl
  have k2 : (tNode 6 3 []).op = 3 := rfl
  have e13 : ansOf E F_expr_Check [.a ((cT (tNode 10 0 [pars (tNum 1) (15 - 1)])).map OV.p)] = _ := e13
  have e14 : ansOf E F_expr_Check [.a ((cT (tNode 10 0 [pars (tNum 1) (16 - 1)])).map OV.p)] = _ := e14
  refine law10_known_ans rfl rfl ?_
  repeat' (first | (simp -implicitDefEqProofs +contextual (maxSteps := 10000000) (disch := first | with_unfolding_all exact id rfl | assumption | ((fail_if_success (with_reducible refine isB ?_)); (first | omega | decide))) only [go_sem, v_n, lAt_spec, lSpan_spec, lCall_spec, lBin_spec, foldP, fold0, fold1, fold2, cT_sh, cT_putL, e1, e2, e3, e4, e5, e6, e7, e8, e9, e10, e11, e12, e13, e14, c3, k1, k2]) | refine vIte_i (fun hb => ?_) fun hb => ?_ | refine vAp_i (by kernel_rfl) ?_ | refine vIf_i (fun hb => ?_) fun hb => ?_ | refine oT_Gi (fun hb => ?_) fun hb => ?_)
end Go.Pv.Cb
