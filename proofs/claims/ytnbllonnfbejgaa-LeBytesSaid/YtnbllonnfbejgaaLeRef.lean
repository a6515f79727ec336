/- What the reference's printed functions on numbers in bytes compute (group Le). -/
import Derived.Test.YtnbllonnfbejgaaLeFns
namespace Go.Proofs.Ytnbllonnfbejgaa.PureLe
open Go.RowKit Go.Proofs.Ytnbllonnfbejgaa.Le Go.Proofs.Ytnbllonnfbejgaa.Pure Go.Proofs.YtnbllonnfbejgaaW.PrintWords Go.Proofs.YtnbllonnfbejgaaW.PrintLast Go.Proofs.YtnbllonnfbejgaaW.PrintMore
theorem bad_eq (b : List Int) (p : Int) : cashbookref7_bad.f b p = some (decide (p < 0 ∨ (b.length : Int) < p)) := by
  unfold cashbookref7_bad.f
  by_cases h : p < 0
  · rw [if_pos h, decide_eq_true (.inl h)]
  · rw [if_neg h]
    congr 1
    rw [Bool.eq_iff_iff]
    simp only [decide_eq_true_eq]
    omega
theorem or_low {v x : Int} {i : Nat} (hi : i < 8) (h0 : 0 ≤ v) (h1 : v < 256 ^ i) (hx0 : 0 ≤ x) (hx1 : x ≤ 255) :
    Go.bits .or .u64 (IntKind.u64.wrap (v * 256)) (IntKind.u64.wrap x) = x + 256 * v := by
  have h256 : (256 : Int) ^ i ≤ 256 ^ 7 := p256_mono (by omega)
  have e7 : (256 : Int) ^ 7 = 72057594037927936 := by decide
  rw [wraps_u64 x hx0 (by omega), wraps_u64 (v * 256) (by omega) (by omega)]
  rw [bits_join .u64 64 (by decide) wraps_u64 8 _ _ (by omega) (by omega) (by omega) hx0 (by omega) (by omega)]
  omega
theorem low_l0 (b : List Int) (p : Nat) (n : Nat) (hB : Bts b) (hL : Len b) (h8 : n ≤ 8) (hpn : p + n ≤ b.length) : ∀ (d k : Nat), d ≤ n → d < k →
    cashbookref7_Low.l0 k (n : Int) (leV ((b.drop (p + d)).take (n - d))) ((d : Int) - 1) b (p : Int) = some (leV ((b.drop p).take n), b, (p : Int) + n, 0) := by
  unfold Len at hL
  intro d
  induction d with
  | zero =>
    intro k hd hk
    obtain ⟨k, rfl⟩ : ∃ j, k = j + 1 := ⟨k - 1, by omega⟩
    simp only [cashbookref7_Low.l0]
    rw [if_neg (by omega), w64 (by omega) (by omega)]
    simp
  | succ d ih =>
    intro k hd hk
    obtain ⟨k, rfl⟩ : ∃ j, k = j + 1 := ⟨k - 1, by omega⟩
    have hlt : p + d < b.length := by omega
    have hnd : n - (d + 1) < 8 := by omega
    have e4 : wrap64 ((d : Int) - 1) = (d : Int) - 1 := w64 (by omega) (by omega)
    have e2 : wrap64 ((p : Int) + (d : Int)) = ((p + d : Nat) : Int) := by
      rw [w64 (by omega) (by omega)]
      omega
    have e1 : ((d + 1 : Nat) : Int) - 1 = (d : Int) := by omega
    have hx := hB b[p + d] (List.getElem_mem hlt)
    have hb := leV_bound ((hB.drop (p + (d + 1))).take (n - (d + 1)))
    have hlen : ((b.drop (p + (d + 1))).take (n - (d + 1))).length = n - (d + 1) := by
      rw [List.length_take, List.length_drop]
      omega
    rw [hlen] at hb
    simp only [cashbookref7_Low.l0]
    rw [e1, if_pos (Int.natCast_nonneg d), e2, if_pos (Int.natCast_nonneg _), if_pos (Int.ofNat_lt.2 hlt), rd_get hlt, or_low (i := n - (d + 1)) hnd hb.1 hb.2 hx.1 hx.2, e4]
    have e3 : b[p + d] + 256 * leV ((b.drop (p + (d + 1))).take (n - (d + 1))) = leV ((b.drop (p + d)).take (n - d)) := by
      have hd2 : b.drop (p + d) = b[p + d] :: b.drop (p + (d + 1)) := by
        rw [List.drop_eq_getElem_cons hlt]
        rfl
      rw [hd2, show n - d = (n - (d + 1)) + 1 by omega, List.take_succ_cons, leV]
    rw [e3]
    exact ih k (by omega) (by omega)
theorem Low_eq {k : Nat} (hk : 10 ≤ k) {b : List Int} {p n : Int} (hb : Len b) (hB : Bts b) (hp : I64 p) (h0 : 0 ≤ n) (h8 : n ≤ 8) : cashbookref7_Low.f k b p n = some (rdR b p n) := by
  unfold cashbookref7_Low.f rdR
  rw [bad_eq]
  simp only [Option.bind_some]
  have hL := hb
  unfold Len at hb
  unfold I64 at hp
  by_cases h1 : p < 0 ∨ (b.length : Int) < p
  · rw [if_pos (decide_eq_true h1), if_pos h1]
  · rw [if_neg (by simpa using h1), if_neg h1, show wrap64 ((b.length : Int) - p) = (b.length : Int) - p from w64 (by omega) (by omega)]
    by_cases h2 : (b.length : Int) - p < n
    · rw [if_pos h2, if_pos h2]
    · rw [if_neg h2, if_neg h2, w64 (by omega) (by omega)]
      obtain ⟨q, rfl⟩ := Int.eq_ofNat_of_zero_le (show 0 ≤ p by omega)
      obtain ⟨m, rfl⟩ := Int.eq_ofNat_of_zero_le h0
      have := low_l0 b q m hB hL (by omega) (by omega) m k (Nat.le_refl _) (by omega)
      rw [Nat.sub_self, List.take_zero] at this
      simp only [leV] at this
      rw [this]
      simp only [sl, Int.toNat_natCast]
theorem GetBytes_eq (k : Nat) {b : List Int} {p n : Int} (hb : Len b) (hp : I64 p) (hn : I64 n) : cashbookref7_GetBytes.f (k + 1) b p n = some (rdB b p n) := by
  unfold cashbookref7_GetBytes.f
  rw [bad_eq]
  simp only [Option.bind_some, cashbookref7_GetBytes.j0]
  have hL := hb
  unfold Len at hb
  unfold I64 at hp hn
  by_cases h1 : p < 0 ∨ (b.length : Int) < p
  · rw [if_pos (decide_eq_true h1), if_pos trivial]
    unfold rdB
    rw [if_pos (by omega)]
  · rw [if_neg (by simpa using h1)]
    by_cases h2 : n < 0
    · rw [if_pos (decide_eq_true h2)]
      unfold rdB
      rw [if_pos (by omega)]
    · rw [if_neg (by simpa using h2), show wrap64 ((b.length : Int) - p) = (b.length : Int) - p from w64 (by omega) (by omega)]
      by_cases h3 : (b.length : Int) - p < n
      · rw [if_pos h3]
        unfold rdB
        rw [if_neg (by omega), if_pos h3]
      · have hl := sl_length (b := b) (p := p) (n := n) (by omega) (by omega) (by omega)
        rw [if_neg h3, show wrap64 (p + n) = p + n from w64 (by omega) (by omega), if_pos (by omega), if_pos (by omega), if_pos (by omega), take_drop_sl (by omega) (by omega)]
        simp only [List.length_nil, List.nil_append]
        rw [if_pos (by omega)]
        unfold rdB
        rw [if_neg (by omega), if_neg h3]
theorem refEnd_eq (b : List Int) (p : Int) : cashbookref7_End.f b p = some (endR b p) := by
  unfold cashbookref7_End.f endR
  rw [bad_eq]
  simp only [Option.bind_some]
  by_cases h1 : p < 0 ∨ (b.length : Int) < p
  · rw [if_pos (decide_eq_true h1), if_pos h1]
  · rw [if_neg (by simpa using h1), if_neg h1]
    split <;> rfl
theorem same_eq (b c : List Int) (p q : Int) (h : p = q) (h2 : b = c) : cashbooklaw3_same.f b p c q = some true := by
  unfold cashbooklaw3_same.f
  rw [if_pos h, h2]
  simp
theorem rdR_b (b : List Int) (p n : Int) : (rdR b p n).2.1 = b := by
  unfold rdR
  split
  · rfl
  · split <;> rfl
theorem rdB_b (b : List Int) (p n : Int) : (rdB b p n).2.1 = b := by
  unfold rdB
  split
  · rfl
  · split <;> rfl
end Go.Proofs.Ytnbllonnfbejgaa.PureLe
