/- What the functions that SubSplits reaches compute: a part. -/
import Derived.Test.YtcghkmihbfibkaaKnown2
set_option linter.all false
namespace Go.Pv.Cb
open Go.Pv
set_option maxRecDepth 10000
set_option linter.unusedSimpArgs false
/-- Records alike, but for places. -/
def alike : List R → List R → Prop
  | [], [] => True
  | x :: a, y :: b => (x.ty = y.ty ∧ x.data = y.data ∧ x.cuts = y.cuts) ∧ alike a b
  | _, _ => False
theorem alike_length : ∀ {a b : List R}, alike a b → a.length = b.length
  | [], [], _ => rfl
  | x :: a, y :: b, h => by simp [alike_length h.2]
  | [], _ :: _, h => h.elim
  | _ :: _, [], h => h.elim
theorem alike_get : ∀ {a b : List R}, alike a b → ∀ (i : Nat) (x y : R), a[i]? = some x → b[i]? = some y → sameR false x y
  | [], [], _, i, x, y, hx, _ => by simp at hx
  | x :: a, y :: b, h, 0, x', y', hx, hy => by
    simp at hx hy; subst hx; subst hy
    exact ⟨h.1.1, h.1.2.1, h.1.2.2, by simp⟩
  | x :: a, y :: b, h, i + 1, x', y', hx, hy => alike_get h.2 i x' y' (by simpa using hx) (by simpa using hy)
  | [], _ :: _, h, _, _, _, _, _ => h.elim
  | _ :: _, [], h, _, _, _, _, _ => h.elim
theorem kindOf_range (a b : UInt8) : 0 ≤ kindOf [a, b] ∧ kindOf [a, b] ≤ 65535 := by
  have h1 := u8_lt a
  have h2 := u8_lt b
  simp only [kindOf]; omega
theorem by8_kind (a b : UInt8) : by8 (kindOf [a, b]) = a ∧ by8 (kindOf [a, b] / 256) = b := by
  have h1 := u8_lt a
  have h2 := u8_lt b
  constructor
  · apply UInt8.toNat_inj.1
    unfold by8
    rw [UInt8.toNat_ofNat']
    simp only [kindOf]; omega
  · apply UInt8.toNat_inj.1
    unfold by8
    rw [UInt8.toNat_ofNat']
    simp only [kindOf]; omega
theorem any_app {a b : List R} : (a ++ b).any badR = (a.any badR || b.any badR) := List.any_append
/-- What is parted without fault is joined as it was. -/
theorem split_join : ∀ (l : List R),
    (∀ acc ss p, split acc none l = (ss, p, 0) → ∃ t, ss = acc ++ t ∧ (acc.length ≤ 9 → acc.length + t.length ≤ 9) ∧ ∀ b, ∃ jl, join b t = (b ++ jl, 0) ∧ alike jl l) ∧
    (∀ acc k rs q ss p, split acc (some (k, rs, q)) l = (ss, p, 0) → (0 ≤ k ∧ k ≤ 65535) → rs.any badR = false → ∃ rs' t, ss = acc ++ ⟨k, rs ++ rs'⟩ :: t ∧ (acc.length + 1 ≤ 9 → acc.length + 1 + t.length ≤ 9) ∧ (rs ++ rs').any badR = false ∧ ∀ b, ∃ jl, join b t = (b ++ jl, 0) ∧ alike (rs'.map flatR ++ (eofR :: jl)) l)
  | [] => by
    refine ⟨fun acc ss p h => ?_, fun acc k rs q ss p h => ?_⟩
    · simp only [split, Prod.mk.injEq] at h
      exact ⟨[], by simp [h.1], by simp, fun b => ⟨[], by simp [join], trivial⟩⟩
    · simp [split] at h
  | r :: l => by
    obtain ⟨ih1, ih2⟩ := split_join l
    refine ⟨fun acc ss p h => ?_, fun acc k rs q ss p h hk hrs => ?_⟩
    · rw [split] at h
      split at h
      · simp at h
      rename_i hT
      split at h
      · simp at h
      rename_i h9
      split at h
      · simp at h
      rename_i hf
      have hd : r.data.length = 2 := by omega
      have hc : r.cuts = [] := List.eq_nil_of_length_eq_zero (by omega)
      obtain ⟨x, y, hxy⟩ : ∃ x y, r.data = [x, y] := by
        match r.data, hd with
        | [x, y], _ => exact ⟨x, y, rfl⟩
      rw [hxy] at h
      obtain ⟨rs', t, e1, e2, e3, e4⟩ := ih2 acc _ _ _ ss p h (kindOf_range x y) rfl
      refine ⟨⟨kindOf [x, y], [] ++ rs'⟩ :: t, e1, fun hle => by have := e2 (by omega); simp only [List.length_cons]; omega, fun b => ?_⟩
      obtain ⟨jl, j1, j2⟩ := e4 (b ++ (bofR (kindOf [x, y]) :: ([] ++ rs').map flatR ++ [eofR]))
      refine ⟨bofR (kindOf [x, y]) :: (rs'.map flatR ++ (eofR :: jl)), ?_, ?_, j2⟩
      · have := kindOf_range x y
        rw [join, if_neg (by simp only; omega), if_neg (by simpa using e3), j1]
        simp
      · obtain ⟨k1, k2⟩ := by8_kind x y
        refine ⟨?_, ?_, ?_⟩
        · simp only [bofR]; omega
        · simp only [bofR, k1, k2, hxy]
        · simp only [bofR, hc]
    · rw [split] at h
      split at h
      · simp at h
      rename_i hT
      split at h
      · rename_i hE
        split at h
        · simp at h
        rename_i hz
        have hd : r.data = [] := List.eq_nil_of_length_eq_zero (by omega)
        have hc : r.cuts = [] := List.eq_nil_of_length_eq_zero (by omega)
        obtain ⟨t, e1, e2, e4⟩ := ih1 _ ss p h
        refine ⟨[], t, by simpa using e1, fun hle => by have := e2 (by simpa using hle); simpa using this, by simpa using hrs, fun b => ?_⟩
        obtain ⟨jl, j1, j2⟩ := e4 b
        exact ⟨jl, j1, ⟨by simp only [eofR]; omega, by simp only [eofR, hd], by simp only [eofR, hc]⟩, j2⟩
      · rename_i hE
        have hb : badR r = false := by simp [badR, hT, hE]
        obtain ⟨rs', t, e1, e2, e3, e4⟩ := ih2 acc k (rs ++ [r]) q ss p h hk (by rw [any_app, hrs]; simp [hb])
        refine ⟨r :: rs', t, by simpa using e1, e2, by simpa using e3, fun b => ?_⟩
        obtain ⟨jl, j1, j2⟩ := e4 b
        exact ⟨jl, j1, ⟨rfl, rfl, rfl⟩, j2⟩
/-- What is parted is made of what was there. -/
theorem split_small (N : Nat) (hp : R → Prop) : ∀ (l : List R) (acc : List S) (o : Option (Int × List R × Int)), (∀ s ∈ acc, s.recs.length ≤ N ∧ ∀ r ∈ s.recs, hp r) → (∀ k rs q, o = some (k, rs, q) → rs.length + l.length ≤ N ∧ ∀ r ∈ rs, hp r) → l.length ≤ N → (∀ r ∈ l, hp r) →
    ∀ s ∈ (split acc o l).1, s.recs.length ≤ N ∧ ∀ r ∈ s.recs, hp r
  | [], acc, none, h1, _, _, _ => by simpa [split] using h1
  | [], acc, some (k, rs, q), _, _, _, _ => by simp [split]
  | r :: l, acc, none, h1, h2, h3, h4 => by
    rw [split]
    split
    · simp
    split
    · simp
    split
    · simp
    refine split_small N hp l acc _ h1 (fun k rs q e => ?_) (by simp at h3; omega) fun x hx => h4 x (by simp [hx])
    simp only [Option.some.injEq, Prod.mk.injEq] at e
    obtain ⟨_, rfl, _⟩ := e
    simp at h3 ⊢; omega
  | r :: l, acc, some (k, rs, q), h1, h2, h3, h4 => by
    obtain ⟨g1, g2⟩ := h2 k rs q rfl
    rw [split]
    split
    · simp
    split
    · split
      · simp
      refine split_small N hp l _ none (fun s hs => ?_) (fun k rs q e => by simp at e) (by simp at h3; omega) fun x hx => h4 x (by simp [hx])
      rcases List.mem_append.1 hs with hs | hs
      · exact h1 s hs
      · simp only [List.mem_singleton] at hs
        subst hs
        exact ⟨by simp only; omega, g2⟩
    · refine split_small N hp l acc _ h1 (fun k' rs' q' e => ?_) (by simp at h3; omega) fun x hx => h4 x (by simp [hx])
      simp only [Option.some.injEq, Prod.mk.injEq] at e
      obtain ⟨_, rfl, _⟩ := e
      refine ⟨by simp at g1 ⊢; omega, fun x hx => ?_⟩
      rcases List.mem_append.1 hx with hx | hx
      · exact g2 x hx
      · simp only [List.mem_singleton] at hx; subst hx; exact h4 x (by simp)
theorem split_err : ∀ (l : List R) (acc : List S) (o : Option (Int × List R × Int)), (split acc o l).2.2 ≠ 0 → (split acc o l).1 = []
  | [], acc, none, h => by simp [split] at h
  | [], acc, some (k, rs, q), h => by simp [split]
  | r :: l, acc, none, h => by
    rw [split] at h ⊢
    split
    · rfl
    split
    · rfl
    split
    · rfl
    rename_i h1 h2 h3
    rw [if_neg h1, if_neg h2, if_neg h3] at h
    exact split_err l _ _ h
  | r :: l, acc, some (k, rs, q), h => by
    rw [split] at h ⊢
    split
    · rfl
    rename_i h1
    rw [if_neg h1] at h
    split
    · rename_i h2
      rw [if_pos h2] at h
      split
      · rfl
      rename_i h3
      rw [if_neg h3] at h
      exact split_err l _ _ h
    · rename_i h2
      rw [if_neg h2] at h
      exact split_err l _ _ h
end Go.Pv.Cb
