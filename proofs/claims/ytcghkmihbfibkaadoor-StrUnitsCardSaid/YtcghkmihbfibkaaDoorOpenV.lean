/- What the functions that StrUnits reaches compute: a part. -/
import Derived.Test.YtcghkmihbfibkaaDoorStrI
import Derived.Test.YtcghkmihbfibkaaDoorFnsDOk
import Derived.Test.YtcghkmihbfibkaaDoorPvd
set_option linter.all false
namespace Go.Pv.Cb
open Go.Pv Go.Proofs Go.RowKit
set_option linter.unusedSimpArgs false
theorem ty_str {n : Nat} {el : List PV} (h : TyOk Tryd.prog n 9 el) : ∃ s : List UInt8, el = [.str s] := by
  cases n with
  | zero => exact h.elim
  | succ n =>
    simp only [TyOk, Tryd.underlying9] at h
    obtain ⟨s, rfl, _⟩ := h
    exact ⟨s, rfl⟩
end Go.Pv.Cb
