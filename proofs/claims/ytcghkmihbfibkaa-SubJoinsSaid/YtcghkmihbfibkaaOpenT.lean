/- What the functions that SubJoins reaches compute: a part. -/
import Derived.Test.YtcghkmihbfibkaaOpenR
import Derived.Test.YtcghkmihbfibkaaSubJ
import Derived.Test.YtcghkmihbfibkaaFnsOk
set_option linter.all false
namespace Go.Pv.Cb
open Go.Pv Go.Proofs Go.RowKit
set_option linter.unusedSimpArgs false
theorem bytes_rec' : Try.prog.bytesOf 51 = 64 := by kernel_rfl
theorem ty_recsL' {n : Nat} {el : List PV} (h : TyOk Try.prog n 22 el) : ∃ l : List R, l.length ≤ 140737488351232 ∧ el = [.sl 4 (l.map eR)] := by
  cases n with
  | zero => exact h.elim
  | succ n =>
    simp only [TyOk, Try.underlying22] at h
    obtain ⟨els, rfl, h2, h3⟩ := h
    obtain ⟨l, rfl, hl⟩ := each_of eR (fun _ => True) (fun el hel => ty_rec hel) h3
    rw [bytes_rec', List.length_map] at h2
    exact ⟨l, by omega, rfl⟩
theorem ty_stream {n : Nat} {el : List PV} (h : TyOk Try.prog n 39 el) : ∃ s : S, el = eS s ∧ s.recs.length ≤ 140737488351232 := by
  cases n with
  | zero => exact h.elim
  | succ n =>
    simp only [TyOk, Try.underlying39, TyFs] at h
    obtain ⟨a, b, rfl, ha, a2, b2, rfl, hb, rfl⟩ := h
    obtain ⟨i, rfl, _⟩ := ty_int ha
    obtain ⟨l, hl, rfl⟩ := ty_recsL' hb
    exact ⟨⟨i, l⟩, rfl, hl⟩
theorem ty_streams {n : Nat} {el : List PV} (h : TyOk Try.prog n 31 el) : ∃ l : List S, (∀ s ∈ l, s.recs.length ≤ 140737488351232) ∧ el = [.sl 2 (l.map eS)] := by
  cases n with
  | zero => exact h.elim
  | succ n =>
    simp only [TyOk, Try.underlying31] at h
    obtain ⟨els, rfl, h2, h3⟩ := h
    obtain ⟨l, rfl, hl⟩ := each_of eS (fun s => s.recs.length ≤ 140737488351232) (fun el hel => ty_stream hel) h3
    exact ⟨l, hl, rfl⟩
end Go.Pv.Cb
