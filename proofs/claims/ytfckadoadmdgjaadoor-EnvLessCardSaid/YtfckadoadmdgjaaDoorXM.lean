/- What the functions that EnvLess reaches compute: a part. -/
import Derived.Test.YtfckadoadmdgjaaDoorXL
set_option linter.all false
namespace Go.Pv.Cb
set_option linter.unusedSimpArgs false
open Go.Pv
set_option maxRecDepth 10000
set_option maxHeartbeats 8000000
theorem foldL (k vk vm vc : Int) (vs : List UInt8) (vb : Bool) (ve r1 c1 : Int) (x1 y1 : Bool) (r2 c2 : Int) (x2 y2 : Bool) (sh op : Int) (l : List Tr) : [.p (.int .i64 k), .p (.int .i64 vk), .p (.int .i64 vm), .p (.int .i64 vc), .p (.str vs), .p (.bool vb), .p (.int .i64 ve), .p (.int .i64 r1), .p (.int .i64 c1), .p (.bool x1), .p (.bool y1), .p (.int .i64 r2), .p (.int .i64 c2), .p (.bool x2), .p (.bool y2), .p (.int .i64 sh), .p (.int .i64 op), .p (.sl 18 (l.map cT))] = (cT (.mk k ⟨vk, vm, vc, vs, vb, ve⟩ ⟨⟨r1, c1, x1, y1⟩, ⟨r2, c2, x2, y2⟩⟩ sh op l)).map OV.p := by
  rw [cT_eq (.mk k ⟨vk, vm, vc, vs, vb, ve⟩ ⟨⟨r1, c1, x1, y1⟩, ⟨r2, c2, x2, y2⟩⟩ sh op l)]; rfl
theorem fold0 (k vk vm vc : Int) (vs : List UInt8) (vb : Bool) (ve r1 c1 : Int) (x1 y1 : Bool) (r2 c2 : Int) (x2 y2 : Bool) (sh op : Int) : [.p (.int .i64 k), .p (.int .i64 vk), .p (.int .i64 vm), .p (.int .i64 vc), .p (.str vs), .p (.bool vb), .p (.int .i64 ve), .p (.int .i64 r1), .p (.int .i64 c1), .p (.bool x1), .p (.bool y1), .p (.int .i64 r2), .p (.int .i64 c2), .p (.bool x2), .p (.bool y2), .p (.int .i64 sh), .p (.int .i64 op), .p (.sl 18 [])] = (cT (.mk k ⟨vk, vm, vc, vs, vb, ve⟩ ⟨⟨r1, c1, x1, y1⟩, ⟨r2, c2, x2, y2⟩⟩ sh op [])).map OV.p := foldL k vk vm vc vs vb ve r1 c1 x1 y1 r2 c2 x2 y2 sh op []
theorem fold1 (k vk vm vc : Int) (vs : List UInt8) (vb : Bool) (ve r1 c1 : Int) (x1 y1 : Bool) (r2 c2 : Int) (x2 y2 : Bool) (sh op : Int) (a : Tr) : [.p (.int .i64 k), .p (.int .i64 vk), .p (.int .i64 vm), .p (.int .i64 vc), .p (.str vs), .p (.bool vb), .p (.int .i64 ve), .p (.int .i64 r1), .p (.int .i64 c1), .p (.bool x1), .p (.bool y1), .p (.int .i64 r2), .p (.int .i64 c2), .p (.bool x2), .p (.bool y2), .p (.int .i64 sh), .p (.int .i64 op), .p (.sl 18 [cT a])] = (cT (.mk k ⟨vk, vm, vc, vs, vb, ve⟩ ⟨⟨r1, c1, x1, y1⟩, ⟨r2, c2, x2, y2⟩⟩ sh op [a])).map OV.p := foldL k vk vm vc vs vb ve r1 c1 x1 y1 r2 c2 x2 y2 sh op [a]
theorem fold2 (k vk vm vc : Int) (vs : List UInt8) (vb : Bool) (ve r1 c1 : Int) (x1 y1 : Bool) (r2 c2 : Int) (x2 y2 : Bool) (sh op : Int) (a b : Tr) : [.p (.int .i64 k), .p (.int .i64 vk), .p (.int .i64 vm), .p (.int .i64 vc), .p (.str vs), .p (.bool vb), .p (.int .i64 ve), .p (.int .i64 r1), .p (.int .i64 c1), .p (.bool x1), .p (.bool y1), .p (.int .i64 r2), .p (.int .i64 c2), .p (.bool x2), .p (.bool y2), .p (.int .i64 sh), .p (.int .i64 op), .p (.sl 18 [cT a, cT b])] = (cT (.mk k ⟨vk, vm, vc, vs, vb, ve⟩ ⟨⟨r1, c1, x1, y1⟩, ⟨r2, c2, x2, y2⟩⟩ sh op [a, b])).map OV.p := foldL k vk vm vc vs vb ve r1 c1 x1 y1 r2 c2 x2 y2 sh op [a, b]
theorem foldP (k vk vm vc : Int) (vs : List UInt8) (vb : Bool) (ve r1 c1 : Int) (x1 y1 : Bool) (r2 c2 : Int) (x2 y2 : Bool) (sh op : Int) : [.int .i64 k, .int .i64 vk, .int .i64 vm, .int .i64 vc, .str vs, .bool vb, .int .i64 ve, .int .i64 r1, .int .i64 c1, .bool x1, .bool y1, .int .i64 r2, .int .i64 c2, .bool x2, .bool y2, .int .i64 sh, .int .i64 op, .sl 18 []] = cT (.mk k ⟨vk, vm, vc, vs, vb, ve⟩ ⟨⟨r1, c1, x1, y1⟩, ⟨r2, c2, x2, y2⟩⟩ sh op []) := by rw [cT_eq (.mk k ⟨vk, vm, vc, vs, vb, ve⟩ ⟨⟨r1, c1, x1, y1⟩, ⟨r2, c2, x2, y2⟩⟩ sh op [])]; rfl
def zv : Vl := ⟨0, 0, 0, [], false, 0⟩
def zr : Rf := ⟨0, 0, false, false⟩
def tAt (r c : Int) : Tr := .mk 2 ⟨0, 0, 0, [], false, 0⟩ ⟨⟨r, c, false, false⟩, ⟨0, 0, false, false⟩⟩ 0 0 []
def tSpan (a b c : Int) : Tr := .mk 3 ⟨0, 0, 0, [], false, 0⟩ ⟨⟨a, c, false, false⟩, ⟨b, c, false, false⟩⟩ 0 0 []
def tName (n : Int) : Tr := .mk 6 ⟨0, 0, 0, [], false, 0⟩ ⟨⟨0, 0, false, false⟩, ⟨0, 0, false, false⟩⟩ 0 n []
def tNum (n : Int) : Tr := .mk 1 ⟨1, n, 0, [], false, 0⟩ ⟨⟨0, 0, false, false⟩, ⟨0, 0, false, false⟩⟩ 0 0 []
abbrev tNode (k op : Int) (l : List Tr) : Tr := .mk k ⟨0, 0, 0, [], false, 0⟩ ⟨⟨0, 0, false, false⟩, ⟨0, 0, false, false⟩⟩ 0 op l
abbrev oNode (k op : Int) (x : OV) : List OV := [.p (.int .i64 k), .p (.int .i64 0), .p (.int .i64 0), .p (.int .i64 0), .p (.str []), .p (.bool false), .p (.int .i64 0), .p (.int .i64 0), .p (.int .i64 0), .p (.bool false), .p (.bool false), .p (.int .i64 0), .p (.int .i64 0), .p (.bool false), .p (.bool false), .p (.int .i64 0), .p (.int .i64 op), x]
theorem dInt_spec (n : Int) : ansOf E F_dec_Int [.w (.p (.int .i64 n))] = some ([(true, [.p (.int .i64 n), .p (.int .i64 0)])], []) := by
  refine dec_Int_ans rfl rfl ?_
  repeat' (first | (simp -implicitDefEqProofs +contextual (maxSteps := 10000000) (disch := first | with_unfolding_all exact id rfl | assumption | ((fail_if_success (with_reducible refine isB ?_)); (first | omega | decide))) only [go_sem, v_n]) | refine vIte_i (fun hb => ?_) fun hb => ?_ | refine vAp_i (by kernel_rfl) ?_ | refine vIf_i (fun hb => ?_) fun hb => ?_ | refine oT_Gi (fun hb => ?_) fun hb => ?_)
theorem vN_spec (n : Int) : ansOf E F_law9_N [.w (.p (.int .i64 n))] = some ([(true, [.p (.int .i64 1), .p (.int .i64 n), .p (.int .i64 0), .p (.str []), .p (.bool false), .p (.int .i64 0)])], []) := by
  refine law9_N_ans rfl rfl ?_
  repeat' (first | (simp -implicitDefEqProofs +contextual (maxSteps := 10000000) (disch := first | with_unfolding_all exact id rfl | assumption | ((fail_if_success (with_reducible refine isB ?_)); (first | omega | decide))) only [go_sem, v_n, dInt_spec]) | refine vIte_i (fun hb => ?_) fun hb => ?_ | refine vAp_i (by kernel_rfl) ?_ | refine vIf_i (fun hb => ?_) fun hb => ?_ | refine oT_Gi (fun hb => ?_) fun hb => ?_)
theorem cT_putL (t : Tr) (new : List OV) (h : new.length = 18) : cellsPut ((cT t).map OV.p) 0 new = some new := put_full (by simp [cT_len, h])
theorem wT_putL (t : Tr) (new : List OV) (h : new.length = 18) : cellsPut (wT t) 0 new = some new := put_full (by simp [wT_len, h])
theorem wT_putM (t : Tr) (f : OV → OV) : cellsPut (wT t) 0 ((wT t).map f) = some ((wT t).map f) := put_full (by simp)
def pars (t : Tr) : Nat → Tr
  | 0 => t
  | n + 1 => tNode 10 0 [pars t n]
theorem cT_sh (k : Int) (v : Vl) (a : Ar) (sh op s : Int) (ks : List Tr) : cellsPut ((cT (.mk k v a sh op ks)).map OV.p) 15 [.p (.int .i64 s)] = some ((cT (.mk k v a s op ks)).map OV.p) := by
  rw [cT_eq (.mk k v a sh op ks), cT_eq (.mk k v a s op ks)]; rfl
abbrev eK : Tr := tNode 8 1 [tAt 1 2, tNode 9 0 [tSpan 0 3 1, tNode 6 3 []]]
abbrev fK : Tr := .mk 8 ⟨0, 0, 0, [], false, 0⟩ ⟨⟨0, 0, false, false⟩, ⟨0, 0, false, false⟩⟩ 1 1 [tAt 1 2, tNode 9 0 [tSpan 0 3 1, tNode 6 3 []]]
theorem dep_K : dep eK = 3 := by decide +kernel
theorem n_K : eK.n = 5 := by decide +kernel
theorem chk_K : chk eK = 0 := by
  unfold chk
  rw [dep_K, n_K]
  simp [ffT, ffTs, partF, goodQ, tAt, tSpan, aC, Tr.k, Tr.v, Tr.a, Tr.sh, Tr.op, Tr.ks]
theorem chk_F : chk fK = 1 := by
  unfold chk
  rw [show dep fK = 3 by decide +kernel, show fK.n = 5 by decide +kernel]
  simp [ffT, ffTs_ne, partF, goodQ, tAt, tSpan, aC, Tr.k, Tr.v, Tr.a, Tr.sh, Tr.op, Tr.ks]
theorem same_F : sT eK fK = false := by
  rw [← Bool.not_eq_true, sT_iff]; simp
theorem ref_K : rfT eK = [tAt 1 2, tSpan 0 3 1, tNode 6 3 []] := by
  simp [rfT, rfTs, tAt, tSpan]
abbrev zT : Tr := .mk 0 ⟨0, 0, 0, [], false, 0⟩ ⟨⟨0, 0, false, false⟩, ⟨0, 0, false, false⟩⟩ 0 0 []
abbrev cZ : Tr := .mk 1 ⟨0, 0, 0, [], false, 0⟩ ⟨⟨0, 0, false, false⟩, ⟨0, 0, false, false⟩⟩ 0 0 []
theorem chk_z : chk zT = 1 := by
  unfold chk
  rw [show dep zT = 1 by decide +kernel, show zT.n = 1 by decide +kernel]
  simp [ffT, ffTs_ne, partF, goodQ, aC, Tr.k, Tr.v, Tr.a, Tr.sh, Tr.op, Tr.ks]
theorem chk_c : chk cZ = 1 := by
  unfold chk
  rw [show dep cZ = 1 by decide +kernel, show cZ.n = 1 by decide +kernel]
  simp [ffT, ffTs_ne, partF, goodQ, aC, vC, Tr.k, Tr.v, Tr.a, Tr.sh, Tr.op, Tr.ks]
theorem chk_a : chk (tAt 65536 0) = 12 := by
  unfold chk
  rw [show dep (tAt 65536 0) = 1 by decide +kernel, show (tAt 65536 0).n = 1 by decide +kernel]
  simp [ffT, ffTs_ne, partF, goodQ, aC, tAt, Tr.k, Tr.v, Tr.a, Tr.sh, Tr.op, Tr.ks]
theorem dep_pars (t : Tr) : ∀ n, dep (pars t n) = dep t + n
  | 0 => by rw [pars]; simp
  | n + 1 => by
    have := dep_le (pars t n)
    rw [pars, dep, dpL_c, dpL, dep_pars t n] at *
    omega
theorem n_pars (t : Tr) : ∀ n, (pars t n).n = t.n + n
  | 0 => by rw [pars]; simp
  | n + 1 => by rw [pars, Tr.n, Tr.ns, Tr.ns, n_pars t n]; omega
theorem ff_pars (t : Tr) : ∀ n, ffT (pars t n) = ffT t
  | 0 => rfl
  | n + 1 => by
    rw [pars, ffT]
    have e : partF (tNode 10 0 [pars t n]) = 0 := by simp [partF, goodQ, aC, Tr.k, Tr.v, Tr.a, Tr.sh, Tr.op, Tr.ks]
    rw [if_pos e, ffTs, if_pos rfl, ffTs, ff_pars t n]
theorem st_pars (t : Tr) (h : t.st) : ∀ n, (pars t n).st
  | 0 => h
  | n + 1 => by rw [pars, Tr.st]; exact ⟨by simp, st_pars t h n, trivial⟩
theorem ff_num : ffT (tNum 1) = 0 := by
  simp [ffT, ffTs, tNum, partF, goodQ, aC, vC, dC, Tr.k, Tr.v, Tr.a, Tr.sh, Tr.op, Tr.ks]
theorem chk_nest (n : Nat) (h : n ≤ 1000) : chk (pars (tNum 1) n) = if 16 < n + 1 then 11 else 0 := by
  unfold chk
  rw [dep_pars, n_pars, ff_pars, ff_num, show dep (tNum 1) = 1 by decide +kernel, show (tNum 1).n = 1 by decide +kernel]
  split <;> split <;> (try split) <;> first | rfl | omega
theorem st_K : eK.st := by simp [Tr.st, Tr.sts, tAt, tSpan]
theorem st_F : fK.st := by simp [Tr.st, Tr.sts, tAt, tSpan]
end Go.Pv.Cb
