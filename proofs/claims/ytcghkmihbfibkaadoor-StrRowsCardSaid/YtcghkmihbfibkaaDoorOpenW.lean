/- What the functions that StrRows reaches compute: a part. -/
import Derived.Test.YtcghkmihbfibkaaDoorStrK
import Derived.Test.YtcghkmihbfibkaaDoorFnsDOk
import Derived.Test.YtcghkmihbfibkaaDoorPvd
set_option linter.all false
namespace Go.Pv.Cb
open Go.Pv Go.Proofs Go.RowKit
set_option linter.unusedSimpArgs false
theorem ty_str {n : Nat} {el : List PV} (h : TyOk Tryd.prog n 9 el) : ∃ s : List UInt8, el = [.str s] := by
  cases n with
  | zero => exact h.elim
  | succ n =>
    simp only [TyOk, Tryd.underlying9] at h
    obtain ⟨s, rfl, _⟩ := h
    exact ⟨s, rfl⟩
theorem each_of {α : Type} {p : List PV → Prop} (f : α → List PV) (h : ∀ el, p el → ∃ x, el = f x) : ∀ {els : List (List PV)}, (∀ el ∈ els, p el) → ∃ l : List α, els = l.map f
  | [], _ => ⟨[], rfl⟩
  | e :: els, hs => by
    obtain ⟨x, rfl⟩ := h e (hs e (by simp))
    obtain ⟨l, rfl⟩ := each_of f h (els := els) fun el hel => hs el (by simp [hel])
    exact ⟨x :: l, rfl⟩
theorem ty_strs {n : Nat} {el : List PV} (h : TyOk Tryd.prog n 40 el) : ∃ l : List (List UInt8), el = [.sl 1 (l.map eS)] := by
  cases n with
  | zero => exact h.elim
  | succ n =>
    simp only [TyOk, Tryd.underlying40] at h
    obtain ⟨els, rfl, _, h3⟩ := h
    obtain ⟨l, rfl⟩ := each_of eS (fun el hel => by obtain ⟨s, rfl⟩ := ty_str hel; exact ⟨s, rfl⟩) h3
    exact ⟨l, rfl⟩
end Go.Pv.Cb
