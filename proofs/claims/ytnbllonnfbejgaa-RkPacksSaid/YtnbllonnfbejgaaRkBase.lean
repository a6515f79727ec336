/- What the printed functions of rk compute, told by plain numbers (no program, no memory). -/
import Derived.Test.YtnbllonnfbejgaaRkx
namespace Go.Proofs.Ytnbllonnfbejgaa.Pure
open Go.RowKit Go.Proofs.Ytnbllonnfbejgaa.Rk Go.Proofs.YtnbllonnfbejgaaW.PrintWords Go.Proofs.YtnbllonnfbejgaaW.PrintLast

def chk (m s : Int) : Int := if s < 0 then 1 else if s > 9 then 1 else if s > 0 then (if Int.tmod m 10 = 0 then 1 else 0) else 0
theorem chk_eq (m s : Int) : dec_Check.f m s = some (chk m s) := by
  unfold dec_Check.f chk
  repeat' split
  all_goals rfl
theorem chk_ref (m s : Int) : cashbookref7_CheckDec.f m s = some (chk m s) := by
  unfold cashbookref7_CheckDec.f chk
  repeat' split
  all_goals rfl
theorem chk_01 (m s : Int) : chk m s = 0 ∨ chk m s = 1 := by
  unfold chk
  repeat' split
  all_goals simp
theorem chk_zero (m s : Int) (h : chk m s = 0) : 0 ≤ s ∧ s ≤ 9 ∧ (0 < s → Int.tmod m 10 ≠ 0) := by
  unfold chk at h
  split at h
  · simp at h
  · split at h
    · simp at h
    · split at h
      · split at h
        · simp at h
        · exact ⟨by omega, by omega, fun _ => by assumption⟩
      · exact ⟨by omega, by omega, fun h0 => by omega⟩
def fit (m s : Int) : Bool := decide (chk m s = 0 ∧ -134217728 ≤ m ∧ m ≤ 134217727)
theorem fits_eq (m s : Int) : rk_Fits.f m s = some (fit m s) := by
  unfold rk_Fits.f fit
  rw [chk_eq]
  simp only [Option.bind_some]
  by_cases h : chk m s = 0
  · rw [if_pos h]
    by_cases h1 : m ≥ -134217728
    · rw [if_pos h1]
      congr 1
      rw [Bool.eq_iff_iff]
      simp only [decide_eq_true_eq]
      omega
    · rw [if_neg h1]
      congr 1
      symm
      rw [decide_eq_false_iff_not]
      omega
  · rw [if_neg h]
    congr 1
    symm
    rw [decide_eq_false_iff_not]
    omega
theorem fits_ref (m s : Int) : cashbookref7_FitsRK.f m s = some (fit m s) := by
  unfold cashbookref7_FitsRK.f fit
  rw [chk_ref]
  simp only [Option.bind_some]
  by_cases h : chk m s = 0
  · rw [if_pos h]
    by_cases h1 : m ≥ -134217728
    · rw [if_pos h1]
      congr 1
      rw [Bool.eq_iff_iff]
      simp only [decide_eq_true_eq]
      omega
    · rw [if_neg h1]
      congr 1
      symm
      rw [decide_eq_false_iff_not]
      omega
  · rw [if_neg h]
    congr 1
    symm
    rw [decide_eq_false_iff_not]
    omega
theorem wraps_u32 (n : Int) (h₀ : 0 ≤ n) (h₁ : n < 2 ^ 32) : IntKind.u32.wrap n = n := by rw [IntKind.wrap_u32]; omega
theorem wraps_i64 (n : Int) (h₀ : 0 ≤ n) (h₁ : n < 2 ^ 63) : IntKind.i64.wrap n = n := by rw [IntKind.wrap_i64]; omega
def pk (m s : Int) : Int := (m % 268435456) * 16 + s
theorem pk_bits (m s : Int) (h0 : 0 ≤ s) (h1 : s ≤ 9) : wrap64 (Go.bits .or .u32 ((((m) % 4294967296) * 16) % 4294967296) ((s) % 4294967296)) = pk m s := by
  rw [bits_join .u32 32 (by decide) wraps_u32 4 _ _ (by omega) (by omega) (by omega) (by omega) (by omega) (by omega)]
  unfold wrap64 pk
  omega
theorem pack_eq (m s : Int) : rk_Pack.f m s = some (if chk m s = 0 then (if fit m s then (pk m s, 0) else (0, 8)) else (0, chk m s)) := by
  unfold rk_Pack.f
  rw [chk_eq]
  simp only [Option.bind_some]
  by_cases h : chk m s = 0
  · rw [if_pos h, if_pos h, fits_eq]
    simp only [Option.bind_some]
    by_cases h1 : fit m s = true
    · obtain ⟨h2, h3, _⟩ := chk_zero m s h
      rw [if_pos h1, if_pos h1, pk_bits m s h2 h3]
    · rw [if_neg h1, if_neg h1]
  · rw [if_neg h, if_neg h]
theorem pack_ref (m s : Int) : cashbookref7_PackRK.f m s = some (if chk m s = 0 then (if fit m s then (pk m s, 0) else (0, 8)) else (0, chk m s)) := by
  unfold cashbookref7_PackRK.f
  rw [chk_ref]
  simp only [Option.bind_some]
  by_cases h : chk m s = 0
  · rw [if_pos h, if_pos h, fits_ref]
    simp only [Option.bind_some]
    by_cases h1 : fit m s = true
    · obtain ⟨h2, h3, _⟩ := chk_zero m s h
      rw [if_pos h1, if_pos h1, pk_bits m s h2 h3]
    · rw [if_neg h1, if_neg h1]
  · rw [if_neg h, if_neg h]
/-- The number that n is, if it is one. -/
def um (n : Int) : Int := (n + 2147483648) % 4294967296 / 16 - 134217728
def us (n : Int) : Int := n % 16
theorem um_eq (n : Int) : wrap64 ((wrap32 ((n) % 4294967296)) / 16) = um n := by
  unfold wrap64 wrap32 um
  omega
theorem us_eq (n : Int) (h0 : 0 ≤ n) (h1 : n ≤ 4294967295) : Go.bits .and .i64 n 15 = us n := by
  have := bits_mask .i64 63 (by decide) wraps_i64 4 (by decide) n h0 (by omega)
  exact this
theorem unpack_eq (k : Nat) (n : Int) : rk_Unpack.f (k + 1) n = some (if 0 ≤ n ∧ n ≤ 4294967295 then (if chk (um n) (us n) = 0 then (um n, us n, 0) else (0, 0, chk (um n) (us n))) else (0, 0, 1)) := by
  unfold rk_Unpack.f
  by_cases h0 : n < 0
  · rw [if_pos h0, if_neg (by omega)]
    simp only [rk_Unpack.j0]
    rw [if_pos trivial]
  · rw [if_neg h0]
    simp only [rk_Unpack.j0]
    by_cases h1 : n > 4294967295
    · rw [if_pos (decide_eq_true h1), if_neg (by omega)]
    · rw [if_neg (by simpa using h1), if_pos ⟨by omega, by omega⟩, um_eq, us_eq n (by omega) (by omega), chk_eq]
      simp only [Option.bind_some]
      split <;> rfl
theorem unpack_ref (k : Nat) (n : Int) : cashbookref7_UnpackRK.f (k + 1) n = some (if 0 ≤ n ∧ n ≤ 4294967295 then (if chk (um n) (us n) = 0 then (um n, us n, 0) else (0, 0, chk (um n) (us n))) else (0, 0, 1)) := by
  unfold cashbookref7_UnpackRK.f
  by_cases h0 : n < 0
  · rw [if_pos h0, if_neg (by omega)]
    simp only [cashbookref7_UnpackRK.j0]
    rw [if_pos trivial]
  · rw [if_neg h0]
    simp only [cashbookref7_UnpackRK.j0]
    by_cases h1 : n > 4294967295
    · rw [if_pos (decide_eq_true h1), if_neg (by omega)]
    · rw [if_neg (by simpa using h1), if_pos ⟨by omega, by omega⟩, um_eq, us_eq n (by omega) (by omega), chk_ref]
      simp only [Option.bind_some]
      split <;> rfl
theorem um_pk (m s : Int) (h0 : 0 ≤ s) (h1 : s ≤ 9) (h2 : -134217728 ≤ m) (h3 : m ≤ 134217727) : um (pk m s) = m ∧ us (pk m s) = s ∧ 0 ≤ pk m s ∧ pk m s ≤ 4294967295 := by
  unfold um us pk
  omega
theorem pk_um (n : Int) (h0 : 0 ≤ n) (h1 : n ≤ 4294967295) : pk (um n) (us n) = n ∧ -134217728 ≤ um n ∧ um n ≤ 134217727 := by
  unfold um us pk
  omega
theorem known_eq (k : Nat) : cashbooklaw5_known.f (k + 1) = some true := by
  unfold cashbooklaw5_known.f
  simp only [pack_eq, unpack_eq, fits_eq, dec_Int.f, Option.bind_some]
  decide +kernel
end Go.Proofs.Ytnbllonnfbejgaa.Pure
