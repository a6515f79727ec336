/- What the functions that SubSplits reaches compute: a part. -/
import Derived.Test.YtcghkmihbfibkaaOpenR
import Derived.Test.YtcghkmihbfibkaaSubS
import Derived.Test.YtcghkmihbfibkaaFnsOk
set_option linter.all false
namespace Go.Pv.Cb
open Go.Pv Go.Proofs Go.RowKit
set_option linter.unusedSimpArgs false
theorem bytes_rec : Try.prog.bytesOf 51 = 64 := by kernel_rfl
theorem ty_recsL {n : Nat} {el : List PV} (h : TyOk Try.prog n 22 el) : ∃ l : List R, l.length ≤ 140737488351232 ∧ el = [.sl 4 (l.map eR)] := by
  cases n with
  | zero => exact h.elim
  | succ n =>
    simp only [TyOk, Try.underlying22] at h
    obtain ⟨els, rfl, h2, h3⟩ := h
    obtain ⟨l, rfl, hl⟩ := each_of eR (fun _ => True) (fun el hel => ty_rec hel) h3
    rw [bytes_rec, List.length_map] at h2
    exact ⟨l, by omega, rfl⟩
end Go.Pv.Cb
