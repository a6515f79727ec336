/- What the functions that EnvLess reaches compute: a part. -/
import Derived.Test.YtfckadoadmdgjaaDoorEE
import Derived.Test.YtfckadoadmdgjaaDoorFnsEOk
import Derived.Test.YtfckadoadmdgjaaDoorPvd
set_option linter.all false
namespace Go.Pv.Cb
set_option linter.unusedSimpArgs false
open Go.Pv Go.Proofs Go.RowKit
set_option maxRecDepth 100000
theorem ty_int {n : Nat} {el : List PV} (h : TyOk Tryd.prog n 3 el) : ∃ i : Int, el = [.int .i64 i] := by
  cases n with
  | zero => exact h.elim
  | succ n =>
    simp only [TyOk, Tryd.underlying3] at h
    obtain ⟨i, rfl, _⟩ := h
    exact ⟨i, rfl⟩
theorem ty_cell {n : Nat} {el : List PV} (h : TyOk Tryd.prog n 66 el) : ∃ r c : Int, el = [.int .i64 r, .int .i64 c] := by
  cases n with
  | zero => exact h.elim
  | succ n =>
    simp only [TyOk, Tryd.underlying66, TyFs] at h
    obtain ⟨a, b, rfl, ha, a2, b2, rfl, hb, rfl⟩ := h
    obtain ⟨i, rfl⟩ := ty_int ha
    obtain ⟨j, rfl⟩ := ty_int hb
    exact ⟨i, j, rfl⟩
theorem ty_pl {n : Nat} {el : List PV} (h : TyOk Tryd.prog n 68 el) : ∃ p : Pl, el = cP p := by
  cases n with
  | zero => exact h.elim
  | succ n =>
    simp only [TyOk, Tryd.underlying68, TyFs] at h
    obtain ⟨a, b, rfl, ha, a2, b2, rfl, hb, rfl⟩ := h
    obtain ⟨i, rfl⟩ := ty_int ha
    obtain ⟨r, c, rfl⟩ := ty_cell hb
    exact ⟨⟨i, r, c⟩, rfl⟩
end Go.Pv.Cb
