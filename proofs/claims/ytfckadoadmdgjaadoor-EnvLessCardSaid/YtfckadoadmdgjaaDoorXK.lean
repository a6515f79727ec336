/- What the functions that EnvLess reaches compute: a part. -/
import Derived.Test.YtfckadoadmdgjaaDoorXJ
set_option linter.all false
namespace Go.Pv.Cb
set_option linter.unusedSimpArgs false
open Go.Pv
set_option maxRecDepth 10000
set_option maxHeartbeats 4000000
mutual
def dep : Tr → Int
  | .mk _ _ _ _ _ ks => dpL 0 ks + 1
def dpL (d : Int) : List Tr → Int
  | [] => d
  | t :: ts => dpL (if d < dep t then dep t else d) ts
end
theorem dep_eq (t : Tr) : dep t = dpL 0 t.ks + 1 := by cases t; rw [dep, Tr.ks]
mutual
theorem dep_le : ∀ t : Tr, 1 ≤ dep t ∧ dep t ≤ t.n
  | .mk _ _ _ _ _ ks => by
    rw [dep, Tr.n]
    have := dpL_le ks 0 (by omega); omega
theorem dpL_le : ∀ (l : List Tr) (d : Int), 0 ≤ d → d ≤ dpL d l ∧ (dpL d l ≤ d ∨ dpL d l ≤ Tr.ns l)
  | [], d, h => by rw [dpL]; omega
  | t :: ts, d, h => by
    rw [dpL, Tr.ns]
    have h1 := dep_le t
    have := dpL_le ts (if d < dep t then dep t else d) (by split <;> omega)
    split at this <;> split <;> omega
end
theorem dpL_app : ∀ (a b : List Tr) (d : Int), dpL d (a ++ b) = dpL (dpL d a) b
  | [], b, d => rfl
  | t :: a, b, d => by rw [List.cons_append, dpL, dpL, dpL_app a b]
mutual
noncomputable def ffT : Tr → Int
  | .mk k v a sh op ks => if partF (.mk k v a sh op ks) = 0 then ffTs 0 ks else partF (.mk k v a sh op ks)
noncomputable def ffTs (f : Int) : List Tr → Int
  | [] => f
  | t :: ts => if f = 0 then ffTs (ffT t) ts else f
end
theorem ffT_eq (t : Tr) : ffT t = if partF t = 0 then ffTs 0 t.ks else partF t := by cases t; rw [ffT, Tr.ks]
theorem ffTs_ne : ∀ (l : List Tr) (f : Int), ¬ f = 0 → ffTs f l = f
  | [], f, h => rfl
  | t :: ts, f, h => by rw [ffTs, if_neg h]
mutual
def sT : Tr → Tr → Bool
  | .mk k v a sh op ks, u => decide (sameF (.mk k v a sh op ks) u) && sTs ks u.ks
def sTs : List Tr → List Tr → Bool
  | t :: ts, u :: us => sT t u && sTs ts us
  | _, _ => true
end
theorem sT_eq (t u : Tr) : sT t u = (decide (sameF t u) && sTs t.ks u.ks) := by cases t; rw [sT]; rfl
end Go.Pv.Cb
