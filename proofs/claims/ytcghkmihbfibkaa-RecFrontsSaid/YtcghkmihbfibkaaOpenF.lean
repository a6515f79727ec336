/- What the functions that RecFronts reaches compute: a part. -/
import Derived.Test.YtcghkmihbfibkaaOpenR
import Derived.Test.YtcghkmihbfibkaaRecF
import Derived.Test.YtcghkmihbfibkaaFnsOk
set_option linter.all false
namespace Go.Pv.Cb
open Go.Pv Go.Proofs Go.RowKit
set_option linter.unusedSimpArgs false
theorem ty_n16' {n : Nat} {el : List PV} (h : TyOk Try.prog n 65 el) : ∃ m : Nat, m ≤ 65535 ∧ el = [.int .u16 m] := by
  cases n with
  | zero => exact h.elim
  | succ n =>
    simp only [TyOk, Try.underlying65] at h
    obtain ⟨i, rfl, hw⟩ := h
    simp [Lit.wf, IntKind.min, IntKind.max, IntKind.signed, IntKind.bits] at hw
    refine ⟨i.toNat, by omega, ?_⟩
    have : (i.toNat : Int) = i := by omega
    rw [this]
end Go.Pv.Cb
