/- What the functions that RecJoins reaches compute: a part. -/
import Derived.Test.YtcghkmihbfibkaaOpenR
import Derived.Test.YtcghkmihbfibkaaRecJ
import Derived.Test.YtcghkmihbfibkaaFnsOk
set_option linter.all false
namespace Go.Pv.Cb
open Go.Pv Go.Proofs Go.RowKit
set_option linter.unusedSimpArgs false
theorem bytes_u8 : Try.prog.bytesOf 5 = 1 := by kernel_rfl
theorem bytes_int : Try.prog.bytesOf 3 = 8 := by kernel_rfl
theorem ty_intsB {n : Nat} {el : List PV} (h : TyOk Try.prog n 47 el) : ∃ l : List Int, el = [.sl 1 (eI l)] ∧ l.length * 8 ≤ 140737488351232 := by
  cases n with
  | zero => exact h.elim
  | succ n =>
    simp only [TyOk, Try.underlying47] at h
    obtain ⟨els, rfl, h2, h3⟩ := h
    obtain ⟨l, rfl, hl⟩ := each_of (fun c : Int => [PV.int .i64 c]) (fun i => (Lit.int .i64 i).wf = true) (fun el hel => ty_int hel) h3
    rw [bytes_int, List.length_map] at h2
    exact ⟨l, rfl, h2⟩
theorem ty_bytesB {n : Nat} {el : List PV} (h : TyOk Try.prog n 46 el) : ∃ l : List UInt8, el = [.sl 1 (ofBytes l)] ∧ l.length ≤ 140737488351232 := by
  cases n with
  | zero => exact h.elim
  | succ n =>
    simp only [TyOk, Try.underlying46] at h
    obtain ⟨els, rfl, h2, h3⟩ := h
    obtain ⟨l, rfl, _⟩ := each_of (fun b : UInt8 => [PV.int .u8 b.toNat]) (fun _ => True) (fun el hel => ty_u8 hel) h3
    rw [bytes_u8, List.length_map, Nat.mul_one] at h2
    exact ⟨l, rfl, h2⟩
theorem ty_recB {n : Nat} {el : List PV} (h : TyOk Try.prog n 51 el) : ∃ r : R, el = eR r ∧ bigR r := by
  cases n with
  | zero => exact h.elim
  | succ n =>
    simp only [TyOk, Try.underlying51, TyFs] at h
    obtain ⟨a, b, rfl, ha, a2, b2, rfl, hb, a3, b3, rfl, hc, a4, b4, rfl, hd, rfl⟩ := h
    obtain ⟨i, rfl, _⟩ := ty_int ha
    obtain ⟨d, rfl, hd1⟩ := ty_bytesB hb
    obtain ⟨c, rfl, hc1⟩ := ty_intsB hc
    obtain ⟨j, rfl, _⟩ := ty_int hd
    exact ⟨⟨i, d, c, j⟩, rfl, hd1, hc1⟩
theorem ty_recsB {n : Nat} {el : List PV} (h : TyOk Try.prog n 22 el) : ∃ l : List R, (∀ r ∈ l, bigR r) ∧ el = [.sl 4 (l.map eR)] := by
  cases n with
  | zero => exact h.elim
  | succ n =>
    simp only [TyOk, Try.underlying22] at h
    obtain ⟨els, rfl, _, h3⟩ := h
    obtain ⟨l, rfl, hl⟩ := each_of eR bigR (fun el hel => ty_recB hel) h3
    exact ⟨l, hl, rfl⟩
theorem RecJoins_law (a : List R) (ha : ∀ r ∈ a, bigR r) (b : List R) (hb : ∀ r ∈ b, bigR r) : ansOf E F_law1_RecJoins [.w (.p (.sl 4 (a.map eR))), .w (.p (.sl 4 (b.map eR)))] = some ([(false, [.p (.bool true)])], []) := RecJoins_spec a b ha hb
end Go.Pv.Cb
