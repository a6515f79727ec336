/- Two numbers that fit are packed unlike just where they are unlike: for every two numbers of 32 bits and scales of 8 bits. -/
import Derived.Test.YtnbllonnfbejgaaRkBase
import Derived.Test.YtnbllonnfbejgaaNum
namespace Go.Proofs.Ytnbllonnfbejgaa.Pure
open Go.RowKit Go.Proofs.Ytnbllonnfbejgaa.Rk Go.Proofs.YtnbllonnfbejgaaW.PrintWords Go.Proofs.YtnbllonnfbejgaaW.PrintLast

theorem norm_l0 (d : Nat) : ∀ (k : Nat) (m s : Int), s ≤ d → 0 ≤ s → s ≤ 9 → -134217728 ≤ m → m ≤ 134217727 → d < k →
    ∃ m' s', dec_Norm.l0 k m s = some (m', s') ∧ chk m' s' = 0 ∧ fit m' s' = true := by
  induction d with
  | zero =>
    intro k m s hd h0 h9 hm0 hm1 hk
    obtain ⟨k, rfl⟩ : ∃ j, k = j + 1 := ⟨k - 1, by omega⟩
    have hs : s = 0 := by omega
    subst hs
    refine ⟨m, 0, ?_, ?_, ?_⟩
    · simp only [dec_Norm.l0]
      rw [if_neg (by omega)]
    · unfold chk
      rw [if_neg (by omega), if_neg (by omega), if_neg (by omega)]
    · unfold fit
      rw [decide_eq_true_eq]
      refine ⟨?_, hm0, hm1⟩
      unfold chk
      rw [if_neg (by omega), if_neg (by omega), if_neg (by omega)]
  | succ d ih =>
    intro k m s hd h0 h9 hm0 hm1 hk
    obtain ⟨k, rfl⟩ : ∃ j, k = j + 1 := ⟨k - 1, by omega⟩
    simp only [dec_Norm.l0]
    by_cases hs : s > 0
    · rw [if_pos hs]
      by_cases ht : Int.tmod m 10 = 0
      · rw [if_pos ht]
        have hw1 : wrap64 (Int.tdiv m 10) = Int.tdiv m 10 := by
          have := Int.tdiv_eq_ediv_of_dvd (a := m) (b := 10) (Int.dvd_of_tmod_eq_zero ht)
          unfold wrap64
          omega
        have hw2 : wrap64 (s - 1) = s - 1 := by
          unfold wrap64
          omega
        have hb : -134217728 ≤ Int.tdiv m 10 ∧ Int.tdiv m 10 ≤ 134217727 := by
          have := Int.tdiv_eq_ediv_of_dvd (a := m) (b := 10) (Int.dvd_of_tmod_eq_zero ht)
          omega
        rw [hw1, hw2]
        exact ih k _ _ (by omega) (by omega) (by omega) hb.1 hb.2 (by omega)
      · rw [if_neg ht]
        have hc : chk m s = 0 := by
          unfold chk
          rw [if_neg (by omega), if_neg (by omega), if_pos hs, if_neg ht]
        refine ⟨m, s, rfl, hc, ?_⟩
        unfold fit
        rw [decide_eq_true_eq]
        exact ⟨hc, hm0, hm1⟩
    · rw [if_neg hs]
      have hc : chk m s = 0 := by
        unfold chk
        rw [if_neg (by omega), if_neg (by omega), if_neg hs]
      refine ⟨m, s, rfl, hc, ?_⟩
      unfold fit
      rw [decide_eq_true_eq]
      exact ⟨hc, hm0, hm1⟩

theorem fit_bounds {m s : Int} (h : fit m s = true) : chk m s = 0 ∧ -134217728 ≤ m ∧ m ≤ 134217727 := by
  unfold fit at h
  exact of_decide_eq_true h

theorem pk_inj {m s n t : Int} (h1 : fit m s = true) (h2 : fit n t = true) : pk m s = pk n t ↔ m = n ∧ s = t := by
  obtain ⟨a0, a1, a2⟩ := fit_bounds h1
  obtain ⟨b0, b1, b2⟩ := fit_bounds h2
  obtain ⟨a3, a4, _⟩ := chk_zero m s a0
  obtain ⟨b3, b4, _⟩ := chk_zero n t b0
  have e1 := um_pk m s a3 a4 a1 a2
  have e2 := um_pk n t b3 b4 b1 b2
  constructor
  · intro h
    rw [h] at e1
    exact ⟨e1.1.symm.trans e2.1, e1.2.1.symm.trans e2.2.1⟩
  · rintro ⟨rfl, rfl⟩
    rfl

theorem arg_small (a : Int) (h : (Lit.int .i32 a).wf = true) : -134217728 ≤ wrap64 (wrap32 (Int.tdiv a 32)) ∧ wrap64 (wrap32 (Int.tdiv a 32)) ≤ 134217727 := by
  have h := wf_i32 h
  have hb : -67108864 ≤ Int.tdiv a 32 ∧ Int.tdiv a 32 ≤ 67108864 := by
    rcases Int.lt_or_le a 0 with h0 | h0
    · have e : Int.tdiv a 32 = -((-a) / 32) := by
        rw [← Int.tdiv_eq_ediv_of_nonneg (by omega), Int.neg_tdiv, Int.neg_neg]
      omega
    · rw [Int.tdiv_eq_ediv_of_nonneg h0]
      omega
  unfold wrap64 wrap32
  omega
theorem scale_small (a : Int) (h : (Lit.int .u8 a).wf = true) : 0 ≤ wrap64 (Int.tmod a 10) ∧ wrap64 (Int.tmod a 10) ≤ 9 ∧ wrap64 (Int.tmod a 10) = a % 10 := by
  have h := wf_u8 h
  rw [Int.tmod_eq_emod_of_nonneg (by omega)]
  unfold wrap64
  omega

theorem RkApart : cashbooklaw5_RkApart.Pure := by
  intro a0 a1 a2 a3 w0 w1 w2 w3
  refine ⟨11, ?_⟩
  obtain ⟨hm0, hm1⟩ := arg_small a0 w0
  obtain ⟨hn0, hn1⟩ := arg_small a1 w1
  obtain ⟨hs0, hs1, _⟩ := scale_small a2 w2
  obtain ⟨ht0, ht1, _⟩ := scale_small a3 w3
  obtain ⟨m, s, e1, c1, f1⟩ := norm_l0 9 11 _ _ hs1 hs0 hs1 hm0 hm1 (by omega)
  obtain ⟨n, t, e2, c2, f2⟩ := norm_l0 9 11 _ _ ht1 ht0 ht1 hn0 hn1 (by omega)
  unfold cashbooklaw5_RkApart.f
  rw [known_eq]
  simp only [Option.bind_some, if_true, dec_Norm.f]
  rw [e1, e2]
  simp only [Option.bind_some, pack_eq, c1, c2, f1, f2, if_true]
  rw [if_pos (show wrap64 (0 + 0) = 0 by decide +kernel)]
  have := pk_inj f1 f2
  by_cases h : m = n ∧ s = t
  · obtain ⟨rfl, rfl⟩ := h
    simp
  · have hne : ¬ pk m s = pk n t := fun e => h (this.1 e)
    have h2 : ¬ (m == n && s == t) = true := by
      intro h3
      rw [Bool.and_eq_true, beq_iff_eq, beq_iff_eq] at h3
      exact h h3
    rw [if_neg hne, if_neg h2]

end Go.Proofs.Ytnbllonnfbejgaa.Pure
