/- What the functions that RecCuts reaches compute: a part. -/
import Derived.Test.YtcghkmihbfibkaaOpenR
import Derived.Test.YtcghkmihbfibkaaRecC
import Derived.Test.YtcghkmihbfibkaaFnsOk
set_option linter.all false
namespace Go.Pv.Cb
open Go.Pv Go.Proofs Go.RowKit
set_option linter.unusedSimpArgs false
theorem ty_n16 {n : Nat} {el : List PV} (h : TyOk Try.prog n 65 el) : ∃ m : Nat, m ≤ 65535 ∧ el = [.int .u16 m] := by
  cases n with
  | zero => exact h.elim
  | succ n =>
    simp only [TyOk, Try.underlying65] at h
    obtain ⟨i, rfl, hw⟩ := h
    simp [Lit.wf, IntKind.min, IntKind.max, IntKind.signed, IntKind.bits] at hw
    refine ⟨i.toNat, by omega, ?_⟩
    have : (i.toNat : Int) = i := by omega
    rw [this]
theorem ty_n8 {n : Nat} {el : List PV} (h : TyOk Try.prog n 5 el) : ∃ m : Nat, m ≤ 255 ∧ el = [.int .u8 m] := by
  obtain ⟨b, rfl, _⟩ := ty_u8 h
  exact ⟨b.toNat, by have := u8_lt b; omega, rfl⟩
theorem ty_ints0 {n : Nat} {el : List PV} (h : TyOk Try.prog n 47 el) : ∃ l : List Int, el = [.sl 1 (eI l)] := by
  obtain ⟨l, rfl, _⟩ := ty_ints h
  exact ⟨l, rfl⟩
theorem RecCuts_law (n : Nat) (hn : n ≤ 65535) (c : Nat) (hc : c ≤ 255) (cuts : List Int) : ansOf E F_law1_RecCuts [.w (.p (.int .u16 n)), .w (.p (.int .u8 c)), .w (.p (.sl 1 (eI cuts)))] = some ([(false, [.p (.bool true)])], []) := RecCuts_spec n c cuts hn hc
end Go.Pv.Cb
