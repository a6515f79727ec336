/- What the functions that RecFronts reaches compute: a part. -/
import Derived.Test.YtcghkmihbfibkaaRec0
import Derived.Test.YtcghkmihbfibkaaPvd
import Derived.Test.YtcghkmihbfibkaaChecked
set_option linter.all false
namespace Go.Pv.Cb
open Go.Pv Go.Proofs Go.RowKit
set_option linter.unusedSimpArgs false
theorem each_of {α : Type} {p : List PV → Prop} (f : α → List PV) (q : α → Prop) (h : ∀ el, p el → ∃ x, el = f x ∧ q x) : ∀ {els : List (List PV)}, (∀ el ∈ els, p el) → ∃ l : List α, els = l.map f ∧ ∀ x ∈ l, q x
  | [], _ => ⟨[], rfl, by simp⟩
  | e :: els, hs => by
    obtain ⟨x, rfl, hx⟩ := h e (hs e (by simp))
    obtain ⟨l, rfl, hl⟩ := each_of f q h (els := els) fun el hel => hs el (by simp [hel])
    exact ⟨x :: l, rfl, by simpa using ⟨hx, hl⟩⟩
theorem ty_int {n : Nat} {el : List PV} (h : TyOk Try.prog n 3 el) : ∃ i : Int, el = [.int .i64 i] ∧ (Lit.int .i64 i).wf = true := by
  cases n with
  | zero => exact h.elim
  | succ n => simpa only [TyOk, Try.underlying3] using h
theorem ty_u8 {n : Nat} {el : List PV} (h : TyOk Try.prog n 5 el) : ∃ b : UInt8, el = [.int .u8 b.toNat] ∧ True := by
  cases n with
  | zero => exact h.elim
  | succ n =>
    simp only [TyOk, Try.underlying5] at h
    obtain ⟨i, rfl, hw⟩ := h
    simp [Lit.wf, IntKind.min, IntKind.max, IntKind.signed, IntKind.bits] at hw
    refine ⟨UInt8.ofNat i.toNat, ?_, trivial⟩
    have : (UInt8.ofNat i.toNat).toNat = i.toNat := by rw [UInt8.toNat_ofNat']; omega
    rw [this]
    simp; omega
theorem ty_ints {n : Nat} {el : List PV} (h : TyOk Try.prog n 47 el) : ∃ l : List Int, el = [.sl 1 (eI l)] ∧ ∀ i ∈ l, (Lit.int .i64 i).wf = true := by
  cases n with
  | zero => exact h.elim
  | succ n =>
    simp only [TyOk, Try.underlying47] at h
    obtain ⟨els, rfl, _, h3⟩ := h
    obtain ⟨l, rfl, hl⟩ := each_of (fun c : Int => [PV.int .i64 c]) (fun i => (Lit.int .i64 i).wf = true) (fun el hel => ty_int hel) h3
    exact ⟨l, rfl, hl⟩
theorem ty_bytes {n : Nat} {el : List PV} (h : TyOk Try.prog n 46 el) : ∃ l : List UInt8, el = [.sl 1 (ofBytes l)] := by
  cases n with
  | zero => exact h.elim
  | succ n =>
    simp only [TyOk, Try.underlying46] at h
    obtain ⟨els, rfl, _, h3⟩ := h
    obtain ⟨l, rfl, _⟩ := each_of (fun b : UInt8 => [PV.int .u8 b.toNat]) (fun _ => True) (fun el hel => ty_u8 hel) h3
    exact ⟨l, rfl⟩
theorem ty_rec {n : Nat} {el : List PV} (h : TyOk Try.prog n 51 el) : ∃ r : R, el = eR r ∧ True := by
  cases n with
  | zero => exact h.elim
  | succ n =>
    simp only [TyOk, Try.underlying51, TyFs] at h
    obtain ⟨a, b, rfl, ha, a2, b2, rfl, hb, a3, b3, rfl, hc, a4, b4, rfl, hd, rfl⟩ := h
    obtain ⟨i, rfl, _⟩ := ty_int ha
    obtain ⟨d, rfl⟩ := ty_bytes hb
    obtain ⟨c, rfl, _⟩ := ty_ints hc
    obtain ⟨j, rfl, _⟩ := ty_int hd
    exact ⟨⟨i, d, c, j⟩, rfl, trivial⟩
theorem ty_recs {n : Nat} {el : List PV} (h : TyOk Try.prog n 22 el) : ∃ l : List R, el = [.sl 4 (l.map eR)] := by
  cases n with
  | zero => exact h.elim
  | succ n =>
    simp only [TyOk, Try.underlying22] at h
    obtain ⟨els, rfl, _, h3⟩ := h
    obtain ⟨l, rfl, _⟩ := each_of eR (fun _ => True) (fun el hel => ty_rec hel) h3
    exact ⟨l, rfl⟩
end Go.Pv.Cb
