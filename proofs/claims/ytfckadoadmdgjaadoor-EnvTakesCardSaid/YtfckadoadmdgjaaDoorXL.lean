/- What the functions that EnvTakes reaches compute: a part. -/
import Derived.Test.YtfckadoadmdgjaaDoorXK
set_option linter.all false
namespace Go.Pv.Cb
set_option linter.unusedSimpArgs false
open Go.Pv
set_option maxRecDepth 10000
set_option maxHeartbeats 4000000
theorem mx_max (a b : Int) : (if a < b then b else a) = max a b := by rw [Int.max_def]; split <;> split <;> omega
theorem dpL_c (d : Int) (t : Tr) (ts : List Tr) : dpL d (t :: ts) = dpL (max d (dep t)) ts := by rw [dpL, mx_max]
theorem mxs_c (x : Tr × Int) (l : List (Tr × Int)) (n : Int) : mxs (x :: l) n = mxs l (max n x.2) := by rw [mxs, mx_max]
theorem dpL_mx : ∀ (l : List Tr) (d : Int), 0 ≤ d → dpL d l = max d (dpL 0 l)
  | [], d, h => by rw [dpL, dpL]; omega
  | t :: ts, d, h => by
    have h1 := dep_le t
    rw [dpL_c, dpL_c, dpL_mx ts (max d (dep t)) (by omega), dpL_mx ts (max 0 (dep t)) (by omega)]
    omega
mutual
theorem mxs_nds : ∀ (t : Tr) (d n : Int) (r : List (Tr × Int)), mxs (nds d t ++ r) n = mxs r (max n (d - 1 + dep t))
  | .mk k v a sh op ks, d, n, r => by
    rw [nds, List.cons_append, mxs_c, mxs_ndss ks (d + 1) _ r (by simp only; omega), dep]
    have := dpL_le ks 0 (by omega)
    congr 1
    simp only
    omega
theorem mxs_ndss : ∀ (l : List Tr) (d n : Int) (r : List (Tr × Int)), d - 1 ≤ n → mxs (ndss d l ++ r) n = mxs r (max n (d - 1 + dpL 0 l))
  | [], d, n, r, h => by
    rw [ndss, List.nil_append, dpL]; congr 1; omega
  | t :: ts, d, n, r, h => by
    have h1 := dep_le t
    have h2 := dpL_le ts 0 (by omega)
    rw [ndss, List.append_assoc, mxs_nds t d n, mxs_ndss ts d _ r (by omega), dpL_c, dpL_mx ts (max 0 (dep t)) (by omega)]
    congr 1
    omega
end
theorem depth_eq (e : Tr) : mxs (nds 1 e) 0 = dep e := by
  have h := mxs_nds e 1 0 []
  have := dep_le e
  rw [List.append_nil, mxs] at h
  rw [h]; omega
theorem le_mxs : ∀ (l : List (Tr × Int)) (n : Int), n ≤ mxs l n
  | [], n => Int.le_refl _
  | y :: l, n => by rw [mxs_c]; have := le_mxs l (max n y.2); omega
theorem any_mxs (c : Int) : ∀ (l : List (Tr × Int)) (n : Int), n ≤ c → (l.any fun x => decide (c < x.2)) = decide (c < mxs l n)
  | [], n, h => by rw [mxs, List.any_nil, decide_eq_false (by omega)]
  | x :: l, n, h => by
    rw [mxs_c, List.any_cons]
    by_cases h1 : c < x.2
    · have := le_mxs l (max n x.2)
      rw [decide_eq_true h1, Bool.true_or, decide_eq_true (by omega)]
    · rw [decide_eq_false h1, Bool.false_or, any_mxs c l (max n x.2) (by omega)]
mutual
theorem ffs_nds : ∀ (t : Tr) (d : Int) (r : List (Tr × Int)), ffs (nds d t ++ r) = if ffT t = 0 then ffs r else ffT t
  | .mk k v a sh op ks, d, r => by
    rw [nds, List.cons_append, ffs, ffT]
    by_cases h : partF (.mk k v a sh op ks) = 0
    · rw [if_pos h, if_pos h, ffs_ndss ks (d + 1) r]
    · rw [if_neg h, if_neg h, if_neg h]
theorem ffs_ndss : ∀ (l : List Tr) (d : Int) (r : List (Tr × Int)), ffs (ndss d l ++ r) = if ffTs 0 l = 0 then ffs r else ffTs 0 l
  | [], d, r => by rw [ndss, ffTs, if_pos rfl, List.nil_append]
  | t :: ts, d, r => by
    rw [ndss, List.append_assoc, ffs_nds t d, ffs_ndss ts d r, ffTs, if_pos rfl]
    by_cases h : ffT t = 0
    · rw [if_pos h, h]
    · rw [if_neg h, ffTs_ne _ _ h, if_neg h]
end
theorem ffs_eq (e : Tr) : ffs (nds 1 e) = ffT e := by
  have h := ffs_nds e 1 []
  rw [List.append_nil, ffs] at h
  rw [h]; split
  · rename_i h; rw [h]
  · rfl
noncomputable def chk (e : Tr) : Int := if 16 < dep e then 11 else if 1024 < (e.n : Int) then 4 else ffT e
theorem chk_eq (e : Tr) : chkF e = chk e := by
  unfold chkF chk
  rw [any_mxs 16 _ 0 (by omega), depth_eq, ffs_eq]
  simp only [decide_eq_true_eq]
mutual
theorem sT_iff : ∀ t u : Tr, sT t u = true ↔ t = u
  | .mk k v a sh op ks, .mk k' v' a' sh' op' ks' => by
    rw [sT, Bool.and_eq_true, decide_eq_true_eq]
    have h1 := vl_eq v v'
    have h2 := ar_eq a a'
    simp only [sameF, Tr.k, Tr.v, Tr.a, Tr.sh, Tr.op, Tr.ks, ← h1, ← h2, Tr.mk.injEq]
    constructor
    · rintro ⟨⟨a1, a2, a3, a4, a5, a6⟩, b⟩
      exact ⟨a1, a2, a3, a4, a5, (sTs_iff ks ks' a6).1 b⟩
    · rintro ⟨a1, a2, a3, a4, a5, rfl⟩
      exact ⟨⟨a1, a2, a3, a4, a5, rfl⟩, (sTs_iff ks ks rfl).2 rfl⟩
theorem sTs_iff : ∀ l m : List Tr, l.length = m.length → (sTs l m = true ↔ l = m)
  | [], [], _ => by simp [sTs]
  | t :: ts, u :: us, h => by
    rw [sTs, Bool.and_eq_true, sT_iff t u, sTs_iff ts us (by simpa using h), List.cons.injEq]
end
abbrev pN : Tr × Int → Tr × Int → Bool := fun x y => decide (x.2 = y.2 ∧ sameF x.1 y.1)
mutual
theorem eqN_nds : ∀ (t u : Tr) (d : Int) (r s : List (Tr × Int)), (eqN pN (nds d t ++ r) (nds d u ++ s) = true ∧ (nds d t ++ r).length = (nds d u ++ s).length) ↔ (t = u ∧ eqN pN r s = true ∧ r.length = s.length)
  | .mk k v a sh op ks, .mk k' v' a' sh' op' ks', d, r, s => by
    rw [nds, nds, List.cons_append, List.cons_append, eqN, Bool.and_eq_true, decide_eq_true_eq, List.length_cons, List.length_cons, Nat.add_right_cancel_iff]
    have h1 := vl_eq v v'
    have h2 := ar_eq a a'
    simp only [sameF, Tr.k, Tr.v, Tr.a, Tr.sh, Tr.op, Tr.ks, ← h1, ← h2, Tr.mk.injEq, true_and]
    constructor
    · rintro ⟨⟨⟨a1, a2, a3, a4, a5, a6⟩, b⟩, c⟩
      have := (eqN_ndss ks ks' (d + 1) r s a6).1 ⟨b, c⟩
      exact ⟨⟨a1, a2, a3, a4, a5, this.1⟩, this.2⟩
    · rintro ⟨⟨a1, a2, a3, a4, a5, rfl⟩, b⟩
      have := (eqN_ndss ks ks (d + 1) r s rfl).2 ⟨rfl, b⟩
      exact ⟨⟨⟨a1, a2, a3, a4, a5, rfl⟩, this.1⟩, this.2⟩
theorem eqN_ndss : ∀ (l m : List Tr) (d : Int) (r s : List (Tr × Int)), l.length = m.length → ((eqN pN (ndss d l ++ r) (ndss d m ++ s) = true ∧ (ndss d l ++ r).length = (ndss d m ++ s).length) ↔ (l = m ∧ eqN pN r s = true ∧ r.length = s.length))
  | [], [], d, r, s, _ => by simp [ndss]
  | t :: ts, u :: us, d, r, s, h => by
    rw [ndss, ndss, List.append_assoc, List.append_assoc, eqN_nds t u d, eqN_ndss ts us d r s (by simpa using h), List.cons.injEq, and_assoc]
end
theorem same_eq (a b : Tr) : (decide ((nds 1 a).length = (nds 1 b).length) && eqN pN (nds 1 a) (nds 1 b)) = sT a b := by
  have h := eqN_nds a b 1 [] []
  simp only [List.append_nil, eqN, and_true] at h
  rw [Bool.eq_iff_iff, sT_iff, Bool.and_eq_true, decide_eq_true_eq]
  rw [and_comm]; exact h
mutual
theorem st_nds : ∀ (t : Tr) (d : Int), t.st → ∀ x ∈ nds d t, x.1.v.s.length ≤ 3000
  | .mk k v a sh op ks, d, h, x, hx => by
    rw [nds, List.mem_cons] at hx
    rw [Tr.st] at h
    rcases hx with rfl | hx
    · exact h.1
    · exact st_ndss ks (d + 1) h.2 x hx
theorem st_ndss : ∀ (l : List Tr) (d : Int), Tr.sts l → ∀ x ∈ ndss d l, x.1.v.s.length ≤ 3000
  | [], d, h, x, hx => by simp [ndss] at hx
  | t :: ts, d, h, x, hx => by
    rw [ndss, List.mem_append] at hx
    rw [Tr.sts] at h
    rcases hx with hx | hx
    · exact st_nds t d h.1 x hx
    · exact st_ndss ts d h.2 x hx
end
section
variable (e : Tr) (he : e.n ≤ 100000) (hst : e.st)
theorem pCheck (e : Tr) (he : e.n ≤ 100000) (hst : e.st) : ansOf E F_expr_Check [.a ((cT e).map OV.p)] = some ([(false, [.p (.int .i64 (chk e))])], []) := by
  rw [← chk_eq]; exact Check_spec e he fun x hx => by have := st_nds e 1 hst x hx; omega
theorem pSame (a b : Tr) (ha : a.n ≤ 100000) (hb : b.n ≤ 100000) : ansOf E F_expr_Same [.a ((cT a).map OV.p), .a ((cT b).map OV.p)] = some ([(false, [.p (.bool (sT a b))])], []) := by
  rw [← same_eq]; exact sameP_spec a b ha hb
theorem pRefs (e : Tr) (he : e.n ≤ 100000) : ansOf E F_expr_Refs [.a ((cT e).map OV.p)] = some ([(false, [.own 18 ((rfT e).map oC)])], []) := Refs_spec _ he e (Nat.le_refl _)
theorem rCheck (e : Tr) (he : e.n ≤ 100000) (hst : e.st) : ansOf E F_ref13_CheckExpr [.a ((cT e).map OV.p)] = some ([(false, [.p (.int .i64 (chk e))])], []) := rCheck_spec e he hst
theorem rRefs (e : Tr) (he : e.n ≤ 100000) : ansOf E F_ref13_Refs [.a ((cT e).map OV.p)] = some ([(false, [.own 18 ((rfT e).map oC)])], []) := rRefs_spec _ he e (Nat.le_refl _)
theorem lTo (e : Tr) (he : e.n ≤ 100000) : ansOf E F_law10_To [.a ((cT e).map OV.p)] = some ([(true, wT e)], []) := To_spec _ he e (Nat.le_refl _)
end
end Go.Pv.Cb
