/- Numbers in bytes, told by plain lists: what the printed functions of le compute (no program, no memory). -/
import Derived.Test.YtnbllonnfbejgaaNum
import Derived.Test.YtnbllonnfbejgaaWMore
import Derived.Laws.BitsLemmas
namespace Go.Proofs.Ytnbllonnfbejgaa.Pure
open Go.RowKit Go.Proofs.YtnbllonnfbejgaaW.PrintWords Go.Proofs.YtnbllonnfbejgaaW.PrintLast Go.Proofs.YtnbllonnfbejgaaW.PrintMore

def Bts (b : List Int) : Prop := ∀ x ∈ b, 0 ≤ x ∧ x ≤ 255
theorem Bts.nil : Bts [] := fun _ h => by simp at h
theorem Bts.app {a b : List Int} (ha : Bts a) (hb : Bts b) : Bts (a ++ b) := fun x h => (List.mem_append.1 h).elim (ha x) (hb x)
theorem Bts.take {a : List Int} (ha : Bts a) (n : Nat) : Bts (a.take n) := fun x h => ha x (List.mem_of_mem_take h)
theorem Bts.drop {a : List Int} (ha : Bts a) (n : Nat) : Bts (a.drop n) := fun x h => ha x (List.mem_of_mem_drop h)
theorem bts_of_wf {b : List Int} (h : ∀ x ∈ b, (Lit.int .u8 x).wf = true) : Bts b := fun x hx => wf_u8 (h x hx)

def leV : List Int → Int
  | [] => 0
  | x :: xs => x + 256 * leV xs
theorem p256 (n : Nat) : (0 : Int) < 256 ^ n := Int.pow_pos (by decide)
theorem p256_mono {i j : Nat} (h : i ≤ j) : (256 : Int) ^ i ≤ 256 ^ j := by
  obtain ⟨d, rfl⟩ := Nat.exists_eq_add_of_le h
  induction d with
  | zero => exact Int.le_refl _
  | succ d ih =>
    have := ih (by omega)
    have h1 := p256 (i + d)
    rw [← Nat.add_assoc, Int.pow_succ]
    omega
theorem leV_bound : ∀ {b : List Int}, Bts b → 0 ≤ leV b ∧ leV b < 256 ^ b.length
  | [], _ => by simp [leV]
  | x :: xs, h => by
    obtain ⟨h0, h1⟩ := leV_bound (b := xs) (fun y hy => h y (List.mem_cons_of_mem _ hy))
    have hx := h x List.mem_cons_self
    simp only [leV, List.length_cons, Int.pow_succ]
    omega
theorem leV_append : ∀ (a b : List Int), leV (a ++ b) = leV a + 256 ^ a.length * leV b
  | [], b => by simp [leV]
  | x :: xs, b => by
    simp only [List.cons_append, leV, leV_append xs b, List.length_cons, Int.pow_succ]
    rw [Int.mul_add, ← Int.mul_assoc, Int.mul_comm (256 ^ xs.length) 256, Int.add_assoc]
theorem rd_get {l : List Int} {i : Nat} (h : i < l.length) : rd l (i : Int) = l[i] := by
  simp [rd, List.getD_eq_getElem?_getD, List.getElem?_eq_getElem h]
theorem leV_take_succ {l : List Int} {i : Nat} (h : i < l.length) : leV (l.take (i + 1)) = leV (l.take i) + 256 ^ i * l[i] := by
  rw [List.take_succ_eq_append_getElem h, leV_append]
  simp [leV, List.length_take, Nat.min_eq_left (Nat.le_of_lt h)]

theorem wraps_u64 (n : Int) (h₀ : 0 ≤ n) (h₁ : n < 2 ^ 64) : IntKind.u64.wrap n = n := by
  have e : IntKind.u64.wrap n = n % 18446744073709551616 := by simp [IntKind.wrap, IntKind.bits, IntKind.signed]
  rw [e]
  omega
theorem bits_or_comm (k : IntKind) (x y : Int) : Go.bits .or k x y = Go.bits .or k y x := by
  simp only [Go.bits]
  rw [BitVec.or_comm]
theorem p256_two (i : Nat) : (2 : Int) ^ (8 * i) = 256 ^ i := by
  rw [Int.pow_mul, show (2 : Int) ^ 8 = 256 by decide]
theorem or_byte {acc x : Int} {i : Nat} (hi : i < 8) (h0 : 0 ≤ acc) (h1 : acc < 256 ^ i) (hx0 : 0 ≤ x) (hx1 : x ≤ 255) :
    Go.bits .or .u64 acc (shl .u64 (IntKind.u64.wrap x) (wrap64 (8 * (i : Int)))) = acc + 256 ^ i * x := by
  have hw : wrap64 (8 * (i : Int)) = ((8 * i : Nat) : Int) := by
    rw [w64 (by omega) (by omega)]
    omega
  have hp : (256 : Int) ^ i * 256 ≤ 256 ^ 8 := by
    rw [← Int.pow_succ]
    exact p256_mono (by omega)
  have hb : (256 : Int) ^ i * x < 2 ^ 64 := by
    have := p256 i
    have h2 : (256 : Int) ^ i * x ≤ 256 ^ i * 255 := Int.mul_le_mul_of_nonneg_left hx1 (Int.le_of_lt this)
    have h3 : (256 : Int) ^ i * 256 = 256 ^ i * 255 + 256 ^ i := by omega
    have e8 : (256 : Int) ^ 8 = 2 ^ 64 := by decide
    omega
  have hb0 : 0 ≤ (256 : Int) ^ i * x := Int.mul_nonneg (Int.le_of_lt (p256 i)) hx0
  have hs : shl .u64 (IntKind.u64.wrap x) (wrap64 (8 * (i : Int))) = 256 ^ i * x := by
    unfold shl
    rw [hw, wraps_u64 x hx0 (by omega), Int.toNat_natCast, Nat.min_eq_left (by simp only [IntKind.bits]; omega), p256_two, Int.mul_comm]
    exact wraps_u64 _ hb0 hb
  rw [hs, bits_or_comm]
  have h256 : (256 : Int) ^ i ≤ 256 ^ 7 := p256_mono (by omega)
  have e7 : (256 : Int) ^ 7 < 2 ^ 64 := by decide
  rw [bits_join .u64 64 (by decide) wraps_u64 (8 * i) _ _ hb0 ?_ hb h0 ?_ (by omega)]
  · omega
  · rw [p256_two]
    exact Int.mul_emod_right _ _
  · rw [p256_two]
    exact h1

/-- n bytes of b from place p on. -/
def sl (b : List Int) (p n : Int) : List Int := (b.drop p.toNat).take n.toNat
theorem sl_length {b : List Int} {p n : Int} (h0 : 0 ≤ p) (h1 : 0 ≤ n) (h2 : p + n ≤ b.length) : (sl b p n).length = n.toNat := by
  unfold sl
  rw [List.length_take, List.length_drop]
  omega
theorem Bts.sl {b : List Int} (h : Bts b) (p n : Int) : Bts (sl b p n) := (h.drop _).take _
theorem take_drop_sl {b : List Int} {p n : Int} (h0 : 0 ≤ p) (h1 : 0 ≤ n) : (b.take (p + n).toNat).drop p.toNat = sl b p n := by
  unfold sl
  rw [List.drop_take]
  congr 1
  omega
/-- What reading n bytes as a number tells. -/
def rdR (b : List Int) (p n : Int) : Int × List Int × Int × Int :=
  if p < 0 ∨ (b.length : Int) < p then (0, b, p, 1) else if (b.length : Int) - p < n then (0, b, p, 5) else (leV (sl b p n), b, p + n, 0)
/-- What reading n bytes as bytes tells. -/
def rdB (b : List Int) (p n : Int) : List Int × List Int × Int × Int :=
  if p < 0 ∨ (b.length : Int) < p ∨ n < 0 then ([], b, p, 1) else if (b.length : Int) - p < n then ([], b, p, 5) else (sl b p n, b, p + n, 0)
def endR (b : List Int) (p : Int) : Int := if p < 0 ∨ (b.length : Int) < p then 1 else if p < b.length then 4 else 0

/-- The n lowest bytes of a number. -/
def lb : Int → Nat → List Int
  | _, 0 => []
  | x, n + 1 => x % 256 :: lb (x / 256) n
theorem lb_length : ∀ (x : Int) (n : Nat), (lb x n).length = n
  | _, 0 => rfl
  | x, n + 1 => by simp [lb, lb_length]
theorem lb_snoc : ∀ (x : Int) (n : Nat), lb x (n + 1) = lb x n ++ [x / 256 ^ n % 256]
  | x, 0 => by simp [lb]
  | x, n + 1 => by
    rw [lb, lb_snoc (x / 256) n, lb, List.cons_append]
    congr 4
    rw [Int.pow_succ, Int.mul_comm, Int.ediv_ediv_of_nonneg (by decide)]
theorem lb_bts : ∀ (x : Int) (n : Nat), Bts (lb x n)
  | _, 0 => Bts.nil
  | x, n + 1 => by
    intro y hy
    rw [lb, List.mem_cons] at hy
    rcases hy with rfl | hy
    · omega
    · exact lb_bts _ _ y hy
theorem leV_lb : ∀ (x : Int) (n : Nat), leV (lb x n) = x % 256 ^ n
  | x, 0 => by simp [lb, leV, Int.emod_one]
  | x, n + 1 => by
    rw [lb, leV, leV_lb (x / 256) n, Int.pow_succ, Int.mul_comm (256 ^ n) 256]
    have h1 := Int.emod_add_mul_ediv x 256
    have h2 : x % (256 * 256 ^ n) = x - 256 * 256 ^ n * (x / (256 * 256 ^ n)) := Int.emod_def _ _
    have h3 : x / 256 % 256 ^ n = x / 256 - 256 ^ n * (x / 256 / 256 ^ n) := Int.emod_def _ _
    have h4 : x / 256 / 256 ^ n = x / (256 * 256 ^ n) := Int.ediv_ediv_of_nonneg (by decide)
    rw [h2, h3, h4, Int.mul_sub, ← Int.mul_assoc]
    omega
theorem shr_byte {x : Int} {i : Nat} (hi : i < 8) : shr .u64 x (wrap64 (8 * (i : Int))) % 256 = x / 256 ^ i % 256 := by
  have hw : wrap64 (8 * (i : Int)) = ((8 * i : Nat) : Int) := by
    rw [w64 (by omega) (by omega)]
    omega
  unfold shr
  rw [hw, Int.toNat_natCast, Nat.min_eq_left (by simp only [IntKind.bits]; omega), p256_two]
end Go.Proofs.Ytnbllonnfbejgaa.Pure
