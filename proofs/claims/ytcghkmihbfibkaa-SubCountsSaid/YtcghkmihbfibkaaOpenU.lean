/- What the functions that SubCounts reaches compute: a part. -/
import Derived.Test.YtcghkmihbfibkaaOpenR
import Derived.Test.YtcghkmihbfibkaaSubC
import Derived.Test.YtcghkmihbfibkaaFnsOk
set_option linter.all false
namespace Go.Pv.Cb
open Go.Pv Go.Proofs Go.RowKit
set_option linter.unusedSimpArgs false
theorem ty_n8' {n : Nat} {el : List PV} (h : TyOk Try.prog n 5 el) : ∃ m : Nat, m ≤ 255 ∧ el = [.int .u8 m] := by
  obtain ⟨b, rfl, _⟩ := ty_u8 h
  exact ⟨b.toNat, by have := u8_lt b; omega, rfl⟩
theorem SubCounts_law (n : Nat) (hn : n ≤ 255) (c : Nat) (hc : c ≤ 255) : ansOf E F_law2_SubCounts [.w (.p (.int .u8 n)), .w (.p (.int .u8 c))] = some ([(false, [.p (.bool true)])], []) := SubCounts_spec n c hn hc
end Go.Pv.Cb
