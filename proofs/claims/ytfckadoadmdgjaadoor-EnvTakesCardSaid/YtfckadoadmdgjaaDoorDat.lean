/- What the functions that EnvTakes reaches compute: a part. -/
import Derived.Test.YtfckadoadmdgjaaDoorSet
import Derived.Test.YtfckadoadmdgjaaDoorPvValid
set_option linter.all false
namespace Go.Pv.Cb
set_option linter.unusedSimpArgs false
open Go.Pv
structure Vl where
  k : Int
  m : Int
  c : Int
  s : List UInt8
  b : Bool
  e : Int
  deriving DecidableEq, Inhabited
structure Rf where
  row : Int
  col : Int
  rr : Bool
  rc : Bool
  deriving DecidableEq, Inhabited
structure Ar where
  a : Rf
  b : Rf
  deriving DecidableEq, Inhabited
inductive Tr where
  | mk (k : Int) (v : Vl) (a : Ar) (sh op : Int) (ks : List Tr)
namespace Tr
def k : Tr → Int | .mk k _ _ _ _ _ => k
def v : Tr → Vl | .mk _ v _ _ _ _ => v
def a : Tr → Ar | .mk _ _ a _ _ _ => a
def sh : Tr → Int | .mk _ _ _ sh _ _ => sh
def op : Tr → Int | .mk _ _ _ _ op _ => op
def ks : Tr → List Tr | .mk _ _ _ _ _ ks => ks
end Tr
def i6 (n : Int) : PV := .int .i64 n
def cV (v : Vl) : List PV := [.int .i64 v.k, .int .i64 v.m, .int .i64 v.c, .str v.s, .bool v.b, .int .i64 v.e]
def cR (r : Rf) : List PV := [.int .i64 r.row, .int .i64 r.col, .bool r.rr, .bool r.rc]
def cA (a : Ar) : List PV := cR a.a ++ cR a.b
mutual
def cT : Tr → List PV
  | .mk k v a sh op ks => .int .i64 k :: (cV v ++ (cA a ++ [.int .i64 sh, .int .i64 op, .sl 18 (cTs ks)]))
def cTs : List Tr → List (List PV)
  | [] => []
  | t :: ts => cT t :: cTs ts
end
theorem cTs_eq : ∀ ts, cTs ts = ts.map cT
  | [] => rfl
  | t :: ts => by rw [cTs, cTs_eq ts, List.map_cons]
theorem cT_eq (t : Tr) : cT t = [.int .i64 t.k, .int .i64 t.v.k, .int .i64 t.v.m, .int .i64 t.v.c, .str t.v.s, .bool t.v.b, .int .i64 t.v.e, .int .i64 t.a.a.row, .int .i64 t.a.a.col, .bool t.a.a.rr, .bool t.a.a.rc, .int .i64 t.a.b.row, .int .i64 t.a.b.col, .bool t.a.b.rr, .bool t.a.b.rc, .int .i64 t.sh, .int .i64 t.op, .sl 18 (t.ks.map cT)] := by
  cases t; rw [cT, cTs_eq]; rfl
theorem cT_len (t : Tr) : (cT t).length = 18 := by rw [cT_eq]; rfl
abbrev pc (l : List PV) : List OV := l.map OV.p
theorem plainAll_pc (l : List PV) : (l.map OV.p).all OV.plain = true := by simp [OV.plain]
theorem cT_at (t : Tr) : cellsAt ((cT t).map OV.p) 0 18 = some ((cT t).map OV.p) ∧ cellsAt ((cT t).map OV.p) 0 1 = some [.p (.int .i64 t.k)] ∧ cellsAt ((cT t).map OV.p) 1 6 = some [.p (.int .i64 t.v.k), .p (.int .i64 t.v.m), .p (.int .i64 t.v.c), .p (.str t.v.s), .p (.bool t.v.b), .p (.int .i64 t.v.e)] ∧ cellsAt ((cT t).map OV.p) 7 8 = some [.p (.int .i64 t.a.a.row), .p (.int .i64 t.a.a.col), .p (.bool t.a.a.rr), .p (.bool t.a.a.rc), .p (.int .i64 t.a.b.row), .p (.int .i64 t.a.b.col), .p (.bool t.a.b.rr), .p (.bool t.a.b.rc)] ∧ cellsAt ((cT t).map OV.p) 15 1 = some [.p (.int .i64 t.sh)] ∧ cellsAt ((cT t).map OV.p) 16 1 = some [.p (.int .i64 t.op)] ∧ cellsAt ((cT t).map OV.p) 17 1 = some [.p (.sl 18 (t.ks.map cT))] ∧ cellsAt ((cT t).map OV.p) 7 4 = some [.p (.int .i64 t.a.a.row), .p (.int .i64 t.a.a.col), .p (.bool t.a.a.rr), .p (.bool t.a.a.rc)] ∧ cellsAt ((cT t).map OV.p) 11 4 = some [.p (.int .i64 t.a.b.row), .p (.int .i64 t.a.b.col), .p (.bool t.a.b.rr), .p (.bool t.a.b.rc)] ∧ cellsAt ((cT t).map OV.p) 1 1 = some [.p (.int .i64 t.v.k)] ∧ cellsAt ((cT t).map OV.p) 2 1 = some [.p (.int .i64 t.v.m)] ∧ cellsAt ((cT t).map OV.p) 3 1 = some [.p (.int .i64 t.v.c)] ∧ cellsAt ((cT t).map OV.p) 4 1 = some [.p (.str t.v.s)] ∧ cellsAt ((cT t).map OV.p) 5 1 = some [.p (.bool t.v.b)] ∧ cellsAt ((cT t).map OV.p) 6 1 = some [.p (.int .i64 t.v.e)] := by
  rw [cT_eq]; exact ⟨rfl, rfl, rfl, rfl, rfl, rfl, rfl, rfl, rfl, rfl, rfl, rfl, rfl, rfl, rfl⟩
theorem cT_dt (t : Tr) : (cT t).take 18 = cT t ∧ (cT t).take 1 = [.int .i64 t.k] ∧ (cT t).drop 1 = [.int .i64 t.v.k, .int .i64 t.v.m, .int .i64 t.v.c, .str t.v.s, .bool t.v.b, .int .i64 t.v.e, .int .i64 t.a.a.row, .int .i64 t.a.a.col, .bool t.a.a.rr, .bool t.a.a.rc, .int .i64 t.a.b.row, .int .i64 t.a.b.col, .bool t.a.b.rr, .bool t.a.b.rc, .int .i64 t.sh, .int .i64 t.op, .sl 18 (t.ks.map cT)] ∧ (cT t).drop 7 = [.int .i64 t.a.a.row, .int .i64 t.a.a.col, .bool t.a.a.rr, .bool t.a.a.rc, .int .i64 t.a.b.row, .int .i64 t.a.b.col, .bool t.a.b.rr, .bool t.a.b.rc, .int .i64 t.sh, .int .i64 t.op, .sl 18 (t.ks.map cT)] ∧ (cT t).drop 15 = [.int .i64 t.sh, .int .i64 t.op, .sl 18 (t.ks.map cT)] ∧ (cT t).drop 16 = [.int .i64 t.op, .sl 18 (t.ks.map cT)] ∧ (cT t).drop 17 = [.sl 18 (t.ks.map cT)] := by
  rw [cT_eq]; exact ⟨rfl, rfl, rfl, rfl, rfl, rfl, rfl⟩
mutual
def wT : Tr → List OV
  | .mk k v a sh op ks => .p (.int .i64 k) :: (pc (cV v) ++ (pc (cA a) ++ [.p (.int .i64 sh), .p (.int .i64 op), .own 18 (wTs ks)]))
def wTs : List Tr → List (List OV)
  | [] => []
  | t :: ts => wT t :: wTs ts
end
theorem wTs_eq : ∀ ts, wTs ts = ts.map wT
  | [] => rfl
  | t :: ts => by rw [wTs, wTs_eq ts, List.map_cons]
theorem wT_eq (t : Tr) : wT t = [.p (.int .i64 t.k), .p (.int .i64 t.v.k), .p (.int .i64 t.v.m), .p (.int .i64 t.v.c), .p (.str t.v.s), .p (.bool t.v.b), .p (.int .i64 t.v.e), .p (.int .i64 t.a.a.row), .p (.int .i64 t.a.a.col), .p (.bool t.a.a.rr), .p (.bool t.a.a.rc), .p (.int .i64 t.a.b.row), .p (.int .i64 t.a.b.col), .p (.bool t.a.b.rr), .p (.bool t.a.b.rc), .p (.int .i64 t.sh), .p (.int .i64 t.op), .own 18 (t.ks.map wT)] := by
  cases t; rw [wT, wTs_eq]; rfl
theorem wT_len (t : Tr) : (wT t).length = 18 := by rw [wT_eq]; rfl
theorem wT_plain (t : Tr) : (wT t).all OV.plain = false := by rw [wT_eq]; rfl
theorem frzs_pc (l : List PV) (r : List OV) : OV.frzs (pc l ++ r) = l ++ OV.frzs r := by
  induction l with
  | nil => rfl
  | cons x l ih => simp only [pc, List.map_cons, List.cons_append, OV.frzs, OV.frz] at ih ⊢; rw [ih]
theorem wholes_pc (l : List PV) (r : List OV) : OV.wholes (pc l ++ r) = OV.wholes r := by
  induction l with
  | nil => rfl
  | cons x l ih => simp only [pc, List.map_cons, List.cons_append, OV.wholes, OV.whole, Bool.true_and] at ih ⊢; rw [ih]
mutual
theorem wT_frz : ∀ t : Tr, OV.frzs (wT t) = cT t
  | .mk k v a sh op ks => by
    rw [wT, cT]; simp only [OV.frzs, frzs_pc, OV.frz, wTs_frz ks]
theorem wTs_frz : ∀ ts : List Tr, OV.frzss (wTs ts) = cTs ts
  | [] => rfl
  | t :: ts => by rw [wTs, cTs, OV.frzss, wT_frz t, wTs_frz ts]
end
mutual
theorem wT_whole : ∀ t : Tr, OV.wholes (wT t) = true
  | .mk k v a sh op ks => by
    rw [wT]; simp only [OV.wholes, wholes_pc, OV.whole, wTs_whole ks]; rfl
theorem wTs_whole : ∀ ts : List Tr, OV.wholess (wTs ts) = true
  | [] => rfl
  | t :: ts => by rw [wTs, OV.wholess, wT_whole t, wTs_whole ts]; rfl
end
theorem wTm_frz (ts : List Tr) : OV.frzss (ts.map wT) = ts.map cT := by rw [← wTs_eq, wTs_frz, cTs_eq]
theorem wTm_whole (ts : List Tr) : OV.wholess (ts.map wT) = true := by rw [← wTs_eq, wTs_whole]
mutual
def Tr.n : Tr → Nat
  | .mk _ _ _ _ _ ks => 1 + Tr.ns ks
def Tr.ns : List Tr → Nat
  | [] => 0
  | t :: ts => t.n + Tr.ns ts
end
theorem n_eq (t : Tr) : t.n = 1 + Tr.ns t.ks := by cases t; rw [Tr.n, Tr.ks]
theorem n_pos (t : Tr) : 0 < t.n := by rw [n_eq]; omega
theorem ns_len : ∀ l : List Tr, l.length ≤ Tr.ns l
  | [] => Nat.le_refl _
  | t :: ts => by have := n_pos t; have := ns_len ts; rw [Tr.ns, List.length_cons]; omega
theorem ns_get : ∀ {l : List Tr} {i : Nat} {k : Tr}, l[i]? = some k → k.n ≤ Tr.ns l
  | t :: ts, 0, k, h => by simp at h; subst h; rw [Tr.ns]; omega
  | t :: ts, i + 1, k, h => by have := ns_get (l := ts) (i := i) (by simpa using h); rw [Tr.ns]; omega
theorem kid_lt {t k : Tr} {i : Nat} (h : t.ks[i]? = some k) : k.n < t.n := by have := ns_get h; rw [n_eq t]; omega
theorem kids_lt (t : Tr) : t.ks.length < t.n := by have := ns_len t.ks; rw [n_eq t]; omega
mutual
def Tr.st : Tr → Prop
  | .mk _ v _ _ _ ks => v.s.length ≤ 3000 ∧ Tr.sts ks
def Tr.sts : List Tr → Prop
  | [] => True
  | t :: ts => t.st ∧ Tr.sts ts
end
theorem st_eq (t : Tr) : t.st ↔ t.v.s.length ≤ 3000 ∧ Tr.sts t.ks := by cases t; rw [Tr.st, Tr.ks, Tr.v]
theorem sts_get : ∀ {l : List Tr} {i : Nat} {k : Tr}, Tr.sts l → l[i]? = some k → k.st
  | t :: ts, 0, k, h, e => by simp at e; subst e; rw [Tr.sts] at h; exact h.1
  | t :: ts, i + 1, k, h, e => by rw [Tr.sts] at h; exact sts_get h.2 (by simpa using e)
def cN (x : Tr × Int) : List PV := cT x.1 ++ [.int .i64 x.2]
theorem cN_at (t : Tr) (d : Int) : cellsAt ((cN (t, d)).map OV.p) 0 18 = some ((cT t).map OV.p) ∧ cellsAt ((cN (t, d)).map OV.p) 0 1 = some [.p (.int .i64 t.k)] ∧ cellsAt ((cN (t, d)).map OV.p) 1 6 = some [.p (.int .i64 t.v.k), .p (.int .i64 t.v.m), .p (.int .i64 t.v.c), .p (.str t.v.s), .p (.bool t.v.b), .p (.int .i64 t.v.e)] ∧ cellsAt ((cN (t, d)).map OV.p) 7 8 = some [.p (.int .i64 t.a.a.row), .p (.int .i64 t.a.a.col), .p (.bool t.a.a.rr), .p (.bool t.a.a.rc), .p (.int .i64 t.a.b.row), .p (.int .i64 t.a.b.col), .p (.bool t.a.b.rr), .p (.bool t.a.b.rc)] ∧ cellsAt ((cN (t, d)).map OV.p) 15 1 = some [.p (.int .i64 t.sh)] ∧ cellsAt ((cN (t, d)).map OV.p) 16 1 = some [.p (.int .i64 t.op)] ∧ cellsAt ((cN (t, d)).map OV.p) 17 1 = some [.p (.sl 18 (t.ks.map cT))] ∧ cellsAt ((cN (t, d)).map OV.p) 18 1 = some [.p (.int .i64 d)] ∧ cellsAt ((cN (t, d)).map OV.p) 0 19 = some ((cN (t, d)).map OV.p) := by
  unfold cN; simp only [cT_eq t]; exact ⟨rfl, rfl, rfl, rfl, rfl, rfl, rfl, rfl, rfl⟩
theorem cN_len (x : Tr × Int) : (cN x).length = 19 := by rw [cN, List.length_append, cT_len]; rfl
theorem cN_take (x : Tr × Int) : (cN x).take 19 = cN x := List.take_of_length_le (by rw [cN_len]; omega)
theorem cN_put (t : Tr) (x d : Int) : cellsPut ((cN (t, x)).map OV.p) 18 [.p (.int .i64 d)] = some ((cN (t, d)).map OV.p) := by
  unfold cellsPut cN
  simp only [cT_eq]; rfl
theorem cN_fold (t : Tr) (d : Int) : (cT t).map OV.p ++ [.p (.int .i64 d)] = (cN (t, d)).map OV.p := by simp [cN]
mutual
def nds (d : Int) : Tr → List (Tr × Int)
  | .mk k v a sh op ks => (.mk k v a sh op ks, d) :: ndss (d + 1) ks
def ndss (d : Int) : List Tr → List (Tr × Int)
  | [] => []
  | t :: ts => nds d t ++ ndss d ts
end
theorem nds_eq (d : Int) (t : Tr) : nds d t = (t, d) :: ndss (d + 1) t.ks := by cases t; rw [nds, Tr.ks]
mutual
theorem nds_len : ∀ (d : Int) (t : Tr), (nds d t).length = t.n
  | d, .mk k v a sh op ks => by rw [nds, Tr.n, List.length_cons, ndss_len (d + 1) ks]; omega
theorem ndss_len : ∀ (d : Int) (l : List Tr), (ndss d l).length = Tr.ns l
  | d, [] => rfl
  | d, t :: ts => by rw [ndss, Tr.ns, List.length_append, nds_len d t, ndss_len d ts]
end
attribute [go_sem ↓] cN_at cN_take cN_put
attribute [go_sem] cN_fold cN_len cN_put cN_at cT_at
attribute [go_sem ↓] cT_at cT_dt
attribute [go_sem] plainAll_pc cT_len wT_len wT_plain wT_frz wT_whole wTm_frz wTm_whole
end Go.Pv.Cb
