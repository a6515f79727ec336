/- A number of two bytes is both one by one, the lower first; bytes taken are a copy: the Cursor's own stay: for all bytes and counts. -/
import Derived.Test.YtnbllonnfbejgaaLeRef
namespace Go.Proofs.Ytnbllonnfbejgaa.Pure
open Go.RowKit Go.Proofs.Ytnbllonnfbejgaa.Le Go.Proofs.Ytnbllonnfbejgaa.PureLe Go.Proofs.YtnbllonnfbejgaaW.PrintWords Go.Proofs.YtnbllonnfbejgaaW.PrintLast Go.Proofs.YtnbllonnfbejgaaW.PrintMore

theorem bytes_l0 (b : List Int) (n : Nat) (hn : n < 1000) : ∀ (d k : Nat) (i : Nat) (s : List Int) (c : List Int) (p : Int), s.length = n → n = i + d → c = b → d < k →
    cashbooklaw3_LeBytes.l0 k b s (i : Int) c p = some true := by
  intro d
  induction d with
  | zero =>
    intro k i s c p hs hi hc hk
    obtain ⟨k, rfl⟩ : ∃ j, k = j + 1 := ⟨k - 1, by omega⟩
    simp only [cashbooklaw3_LeBytes.l0]
    rw [if_neg (by omega), hc]
    simp
  | succ d ih =>
    intro k i s c p hs hi hc hk
    obtain ⟨k, rfl⟩ : ∃ j, k = j + 1 := ⟨k - 1, by omega⟩
    simp only [cashbooklaw3_LeBytes.l0]
    rw [if_pos (by omega), if_pos (by omega), w64 (by omega) (by omega)]
    exact ih k (i + 1) _ c p (by rw [List.length_set]; exact hs) (by omega) hc (by omega)

theorem two_up : ∀ (b : List Int), 2 ≤ b.length → ∃ x y r, b = x :: y :: r
  | [], h => by simp at h
  | [x], h => by simp at h
  | x :: y :: r, _ => ⟨x, y, r, rfl⟩

theorem e_first (b : List Int) (h : 2 ≤ b.length) : rdR b 0 1 = (rd b 0, b, 1, 0) ∧ rdR b 1 1 = (rd b 1, b, 2, 0) ∧ rdR b 0 2 = (rd b 0 + 256 * rd b 1, b, 2, 0) := by
  obtain ⟨x, y, r, rfl⟩ := two_up b h
  have hl : ((x :: y :: r).length : Int) = r.length + 2 := by
    simp
    omega
  refine ⟨?_, ?_, ?_⟩
  all_goals
    unfold rdR
    rw [if_neg (by omega), if_neg (by omega)]
    simp [Pure.sl, leV, rd]

theorem LeBytes : cashbooklaw3_LeBytes.Pure := by
  intro b n hm hs hw hn0
  have hn := wf_u8 hn0
  have hB := bts_of_wf hw
  obtain ⟨k0, hk0⟩ := PureLe.known_eq
  obtain ⟨K, hK0, hK1⟩ : ∃ K, k0 ≤ K ∧ 200 ≤ K := ⟨k0 + 200, by omega, by omega⟩
  refine ⟨K + 1, ?_⟩
  have hk : 10 ≤ K + 1 := by omega
  clear hm hs hw hn0
  by_cases h2 : (b.length : Int) < 2
  · unfold cashbooklaw3_LeBytes.f
    rw [hk0 _ (by omega), Option.bind_some, if_pos rfl, if_pos h2]
  · by_cases hl : (b.length : Int) > 100
    · unfold cashbooklaw3_LeBytes.f
      rw [hk0 _ (by omega), Option.bind_some, if_pos rfl, if_neg h2, if_pos hl]
    · have hL : Len b := by unfold Len; omega
      obtain ⟨e1, e2, e3⟩ := e_first b (by omega)
      have hx : 0 ≤ rd b 0 ∧ rd b 0 ≤ 255 := by
        have := rd_get (l := b) (i := 0) (by omega)
        rw [show ((0 : Nat) : Int) = 0 from rfl] at this
        rw [this]
        exact hB _ (List.getElem_mem _)
      have hy : 0 ≤ rd b 1 ∧ rd b 1 ≤ 255 := by
        have := rd_get (l := b) (i := 1) (by omega)
        rw [show ((1 : Nat) : Int) = 1 from rfl] at this
        rw [this]
        exact hB _ (List.getElem_mem _)
      have hw1 : wrap64 ((b.length : Int) + 1) = (b.length : Int) + 1 := w64 (by omega) (by omega)
      have hw2 : wrap64 n = n := w64 (by omega) (by omega)
      have ht : Int.tmod n ((b.length : Int) + 1) = n % ((b.length : Int) + 1) := Int.tmod_eq_emod_of_nonneg (by omega)
      have hm0 : 0 ≤ n % ((b.length : Int) + 1) := Int.emod_nonneg _ (by omega)
      have hm1 : n % ((b.length : Int) + 1) < (b.length : Int) + 1 := Int.emod_lt_of_pos _ (by omega)
      have e5 : wrap64 (rd b 0) = rd b 0 := w64 (by omega) (by omega)
      have e6 : wrap64 (rd b 1) = rd b 1 := w64 (by omega) (by omega)
      have e7 : wrap64 (rd b 0 + wrap64 (256 * rd b 1)) = rd b 0 + 256 * rd b 1 := by rw [w64 (n := 256 * rd b 1) (by omega) (by omega), w64 (by omega) (by omega)]
      have e8 : wrap64 (wrap64 (wrap64 (0 + 0) + 0) + 0) = 0 := by decide +kernel
      have hlt : b.length < 140737488355328 := by omega
      have hne : ¬ ((b.length : Int) + 1 = 0) := by omega
      have e9 : wrap64 (rd b 0 + wrap64 (256 * rd b 1)) = rd b 0 + 256 * rd b 1 := e7
      obtain ⟨m, hmd⟩ : ∃ m, m = n % ((b.length : Int) + 1) := ⟨_, rfl⟩
      rw [← hmd] at hm0 hm1 ht
      have hlen := sl_length (b := b) (p := 0) (n := m) (by omega) (by omega) (by omega)
      have e4 : rdB b 0 m = (Pure.sl b 0 m, b, 0 + m, 0) := by
        unfold rdB
        rw [if_neg (by omega), if_neg (by omega)]
      have hb1 : (0 : Int) < (b.length : Int) := by omega
      have hb2 : (1 : Int) < (b.length : Int) := by omega
      have i1 : I64 1 := by unfold I64; omega
      have i0 : I64 0 := by unfold I64; omega
      have im : I64 m := by unfold I64; omega
      have ap : ([] : List Int).length + b.length < 140737488355328 := (Nat.zero_add b.length).symm ▸ hlt
      have last : cashbooklaw3_LeBytes.l0 (K + 1) b (Pure.sl b 0 m) 0 b 0 = some true :=
        bytes_l0 b m.toNat (by omega) m.toNat (K + 1) 0 _ _ _ hlen (by omega) rfl (by omega)
      have hz : (0 : Int) + m = m := by omega
      have hle : ((Pure.sl b 0 m).length : Int) = m := by omega
      clear hx hy hlen
      unfold cashbooklaw3_LeBytes.f
      rw [hk0 _ (by omega), Option.bind_some, if_pos rfl, if_neg h2, if_neg hl, Option.bind_some, if_pos ap, List.nil_append, Option.bind_some]
      rw [U8_eq hk hL hB i0, e1, Option.bind_some]
      rw [U8_eq hk hL hB i1, e2, Option.bind_some]
      rw [U16_eq hk hL hB i0, e3, Option.bind_some]
      rw [hw1, hw2, ht, if_neg hne, Bytes_eq K hL i0 im, e4, Option.bind_some]
      simp only [hz]
      rw [if_pos e8, if_pos hb1, if_pos e5.symm, if_pos hb2, if_pos e6.symm, if_pos e7.symm, if_pos hle, if_pos trivial]
      exact last
end Go.Proofs.Ytnbllonnfbejgaa.Pure
