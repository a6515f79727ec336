/- What the functions that EnvLess reaches compute: a part. -/
import Derived.Test.YtfckadoadmdgjaaDoorStrC
set_option linter.all false
namespace Go.Pv.Cb
set_option linter.unusedSimpArgs false
open Go.Pv
set_option maxRecDepth 10000
set_option maxHeartbeats 8000000
def ofN (l : List Nat) : List Int := l.map fun v : Nat => (v : Int)
theorem ofN_snoc (a : List Nat) (v : Nat) : ofN (a ++ [v]) = ofN a ++ [(v : Int)] := by simp [ofN]
theorem ofN_len (a : List Nat) : (ofN a).length = a.length := by simp [ofN]
theorem eI_nilp : plains (eI []) = [] := rfl
theorem cast_lit (i : Nat) : ((i : Int) + 2 = ((i + 2 : Nat) : Int)) ∧ ((i : Int) + 3 = ((i + 3 : Nat) : Int)) ∧ ((i : Int) + 4 = ((i + 4 : Nat) : Int)) := ⟨rfl, rfl, rfl⟩
theorem at_bytes {s p r : List UInt8} {v : Nat} (hs : s = p ++ (enc1 v ++ r)) (k : Nat) (hk : k < (enc1 v).length) : s[p.length + k]? = (enc1 v)[k]? := by
  rw [hs, List.getElem?_append_right (by omega), Nat.add_sub_cancel_left, List.getElem?_append_left hk]
theorem at_tail {s p t : List UInt8} (hs : s = p ++ t) (k : Nat) (hk : k < t.length) : s[p.length + k]? = some (t.getD k 0) := by
  rw [hs, List.getElem?_append_right (by omega), Nat.add_sub_cancel_left, List.getD_eq_getElem?_getD, List.getElem?_eq_getElem hk]; rfl
end Go.Pv.Cb
