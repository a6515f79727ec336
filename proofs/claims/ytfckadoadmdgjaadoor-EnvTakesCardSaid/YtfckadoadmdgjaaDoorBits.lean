/- What the functions that EnvTakes reaches compute: a part. -/
import Derived.Test.YtfckadoadmdgjaaDoorCb0
import Derived.IntWalk
set_option linter.all false
namespace Go.Pv.Cb
set_option linter.unusedSimpArgs false
open Go.Pv
theorem wrap_i32 {x : Int} (h : -2147483648 ≤ x ∧ x ≤ 2147483647) : IntKind.i32.wrap x = x := IntWalk.i32_in x h
theorem nat_bits {n a b : Nat} : (BitVec.ofInt n (a : Int) &&& BitVec.ofInt n (b : Int)).toNat = a % 2 ^ n &&& b % 2 ^ n := by
  rw [BitVec.ofInt_natCast, BitVec.ofInt_natCast, BitVec.toNat_and, BitVec.toNat_ofNat, BitVec.toNat_ofNat]
theorem nat_bitsO {n a b : Nat} : (BitVec.ofInt n (a : Int) ||| BitVec.ofInt n (b : Int)).toNat = a % 2 ^ n ||| b % 2 ^ n := by
  rw [BitVec.ofInt_natCast, BitVec.ofInt_natCast, BitVec.toNat_or, BitVec.toNat_ofNat, BitVec.toNat_ofNat]
theorem bin_and_n64 (a b : Nat) (ha : a < 9223372036854775808) (hb : b < 9223372036854775808) : binInt .and .i64 (a : Int) (b : Int) = some (.int .i64 ((a &&& b : Nat) : Int)) := by
  show some (PV.int IntKind.i64 (IntKind.i64.wrap ((BitVec.ofInt 64 (a : Int) &&& BitVec.ofInt 64 (b : Int)).toNat : Nat))) = _
  have h64 : (2 : Nat) ^ 64 = 18446744073709551616 := rfl
  rw [nat_bits, Nat.mod_eq_of_lt (by omega), Nat.mod_eq_of_lt (by omega), wrap_i64]
  have := Nat.and_le_left (n := a) (m := b)
  omega
theorem bin_and_n32 (a b : Nat) (ha : a < 2147483648) (hb : b < 2147483648) : binInt .and .i32 (a : Int) (b : Int) = some (.int .i32 ((a &&& b : Nat) : Int)) := by
  show some (PV.int IntKind.i32 (IntKind.i32.wrap ((BitVec.ofInt 32 (a : Int) &&& BitVec.ofInt 32 (b : Int)).toNat : Nat))) = _
  have h64 : (2 : Nat) ^ 32 = 4294967296 := rfl
  rw [nat_bits, Nat.mod_eq_of_lt (by omega), Nat.mod_eq_of_lt (by omega), wrap_i32]
  have := Nat.and_le_left (n := a) (m := b)
  omega
theorem bin_or_n64 (a b c : Nat) (h : a ||| b = c) (ha : a < 9223372036854775808) (hb : b < 9223372036854775808) (hc : c < 9223372036854775808) : binInt .or .i64 (a : Int) (b : Int) = some (.int .i64 (c : Int)) := by
  show some (PV.int IntKind.i64 (IntKind.i64.wrap ((BitVec.ofInt 64 (a : Int) ||| BitVec.ofInt 64 (b : Int)).toNat : Nat))) = _
  have h64 : (2 : Nat) ^ 64 = 18446744073709551616 := rfl
  rw [nat_bitsO, Nat.mod_eq_of_lt (by omega), Nat.mod_eq_of_lt (by omega), h, wrap_i64 (by omega)]
theorem or_shl (x y k : Nat) (h : y < 2 ^ k) : x * 2 ^ k ||| y = x * 2 ^ k + y := by
  rw [Nat.mul_comm, Nat.two_pow_add_eq_or_of_lt h]
def toN (x : Int) : Nat := x.toNat
theorem and_m64 (k m : Nat) (hk : m + 1 = 2 ^ k) (hm : m < 9223372036854775808) (x : Int) (h : 0 ≤ x ∧ x ≤ 9223372036854775807) : binInt .and .i64 x (m : Int) = some (.int .i64 (x % ((m + 1 : Nat) : Int))) := by
  obtain ⟨n, rfl⟩ := Int.eq_ofNat_of_zero_le h.1
  rw [bin_and_n64 n m (by omega) hm]
  have e : n &&& m = n % (m + 1) := by
    rw [hk, ← Nat.and_two_pow_sub_one_eq_mod, ← hk]; rfl
  rw [e]; rfl
theorem and_m32 (k m : Nat) (hk : m + 1 = 2 ^ k) (hm : m < 2147483648) (x : Int) (h : 0 ≤ x ∧ x ≤ 2147483647) : binInt .and .i32 x (m : Int) = some (.int .i32 (x % ((m + 1 : Nat) : Int))) := by
  obtain ⟨n, rfl⟩ := Int.eq_ofNat_of_zero_le h.1
  rw [bin_and_n32 n m (by omega) hm]
  have e : n &&& m = n % (m + 1) := by
    rw [hk, ← Nat.and_two_pow_sub_one_eq_mod, ← hk]; rfl
  rw [e]; rfl
theorem and_7 {x : Int} (h : 0 ≤ x ∧ x ≤ 9223372036854775807) : binInt .and .i64 x 7 = some (.int .i64 (x % 8)) := and_m64 3 7 rfl (by decide) x h
theorem and_15 {x : Int} (h : 0 ≤ x ∧ x ≤ 9223372036854775807) : binInt .and .i64 x 15 = some (.int .i64 (x % 16)) := and_m64 4 15 rfl (by decide) x h
theorem and_31 {x : Int} (h : 0 ≤ x ∧ x ≤ 9223372036854775807) : binInt .and .i64 x 31 = some (.int .i64 (x % 32)) := and_m64 5 31 rfl (by decide) x h
theorem and_63 {x : Int} (h : 0 ≤ x ∧ x ≤ 9223372036854775807) : binInt .and .i64 x 63 = some (.int .i64 (x % 64)) := and_m64 6 63 rfl (by decide) x h
theorem and_1023 {x : Int} (h : 0 ≤ x ∧ x ≤ 9223372036854775807) : binInt .and .i64 x 1023 = some (.int .i64 (x % 1024)) := and_m64 10 1023 rfl (by decide) x h
theorem and_1023i {x : Int} (h : 0 ≤ x ∧ x ≤ 2147483647) : binInt .and .i32 x 1023 = some (.int .i32 (x % 1024)) := and_m32 10 1023 rfl (by decide) x h
theorem and_192 {x : Int} (h : 0 ≤ x ∧ x < 256) : binInt .and .i64 x 192 = some (.int .i64 (x / 64 * 64)) := by
  obtain ⟨n, rfl⟩ := Int.eq_ofNat_of_zero_le h.1
  have hn : n < 256 := by omega
  rw [show (192 : Int) = ((192 : Nat) : Int) from rfl, bin_and_n64 n 192 (by omega) (by decide)]
  have : ∀ n < 256, n &&& 192 = n / 64 * 64 := by decide +kernel
  rw [this n hn]; rfl
theorem or_64 {x y : Int} (h : 0 ≤ x ∧ x ≤ 1000000000000 ∧ 0 ≤ y ∧ y < 64) : binInt .or .i64 (x * 64) y = some (.int .i64 (x * 64 + y)) := by
  obtain ⟨n, rfl⟩ := Int.eq_ofNat_of_zero_le h.1
  obtain ⟨m, rfl⟩ := Int.eq_ofNat_of_zero_le h.2.2.1
  exact bin_or_n64 (n * 64) m (n * 64 + m) (or_shl n m 6 (by omega)) (by omega) (by omega) (by omega)
theorem or_d8 {y : Int} (h : 0 ≤ y ∧ y < 1024) : binInt .or .i64 55296 y = some (.int .i64 (55296 + y)) := by
  obtain ⟨m, rfl⟩ := Int.eq_ofNat_of_zero_le h.1
  exact bin_or_n64 55296 m (55296 + m) (or_shl 54 m 10 (by omega)) (by omega) (by omega) (by omega)
theorem or_dc {y : Int} (h : 0 ≤ y ∧ y < 1024) : binInt .or .i64 56320 y = some (.int .i64 (56320 + y)) := by
  obtain ⟨m, rfl⟩ := Int.eq_ofNat_of_zero_le h.1
  exact bin_or_n64 56320 m (56320 + m) (or_shl 55 m 10 (by omega)) (by omega) (by omega) (by omega)
end Go.Pv.Cb
