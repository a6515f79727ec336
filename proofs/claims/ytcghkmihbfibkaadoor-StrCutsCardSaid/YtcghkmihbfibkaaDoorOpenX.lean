/- What the functions that StrCuts reaches compute: a part. -/
import Derived.Test.YtcghkmihbfibkaaDoorStrL
import Derived.Test.YtcghkmihbfibkaaDoorFnsDOk
import Derived.Test.YtcghkmihbfibkaaDoorPvd
set_option linter.all false
namespace Go.Pv.Cb
open Go.Pv Go.Proofs Go.RowKit
set_option linter.unusedSimpArgs false
theorem ty_str {n : Nat} {el : List PV} (h : TyOk Tryd.prog n 9 el) : ∃ s : List UInt8, el = [.str s] := by
  cases n with
  | zero => exact h.elim
  | succ n =>
    simp only [TyOk, Tryd.underlying9] at h
    obtain ⟨s, rfl, _⟩ := h
    exact ⟨s, rfl⟩
theorem each_of {α : Type} {p : List PV → Prop} (f : α → List PV) (h : ∀ el, p el → ∃ x, el = f x) : ∀ {els : List (List PV)}, (∀ el ∈ els, p el) → ∃ l : List α, els = l.map f
  | [], _ => ⟨[], rfl⟩
  | e :: els, hs => by
    obtain ⟨x, rfl⟩ := h e (hs e (by simp))
    obtain ⟨l, rfl⟩ := each_of f h (els := els) fun el hel => hs el (by simp [hel])
    exact ⟨x :: l, rfl⟩
theorem ty_u8 {n : Nat} {el : List PV} (h : TyOk Tryd.prog n 5 el) : ∃ b : UInt8, el = [.int .u8 b.toNat] := by
  cases n with
  | zero => exact h.elim
  | succ n =>
    simp only [TyOk, Tryd.underlying5] at h
    obtain ⟨i, rfl, hw⟩ := h
    simp [Lit.wf, IntKind.min, IntKind.max, IntKind.signed, IntKind.bits] at hw
    refine ⟨UInt8.ofNat i.toNat, ?_⟩
    have : (UInt8.ofNat i.toNat).toNat = i.toNat := by rw [UInt8.toNat_ofNat']; omega
    rw [this]
    simp; omega
theorem ty_bytes {n : Nat} {el : List PV} (h : TyOk Tryd.prog n 22 el) : ∃ l : List UInt8, el = [.sl 1 (ofBytes l)] := by
  cases n with
  | zero => exact h.elim
  | succ n =>
    simp only [TyOk, Tryd.underlying22] at h
    obtain ⟨els, rfl, _, h3⟩ := h
    obtain ⟨l, rfl⟩ := each_of (fun b : UInt8 => [PV.int .u8 b.toNat]) (fun el hel => ty_u8 hel) h3
    exact ⟨l, rfl⟩
end Go.Pv.Cb
