/- What the functions that RecFronts reaches compute: a part. -/
import Derived.Test.YtcghkmihbfibkaaRec5
set_option linter.all false
namespace Go.Pv.Cb
open Go.Pv
set_option maxRecDepth 10000
set_option linter.unusedSimpArgs false
theorem by8_toNat (x : Int) : (by8 x).toNat = (x % 256).toNat := by
  unfold by8
  rw [UInt8.toNat_ofNat']
  omega
theorem getD_drop {s : List UInt8} {p i : Nat} {t : List UInt8} (h : s.drop p = t) : s.getD (p + i) 0 = t.getD i 0 := by
  subst h
  simp [List.getD_eq_getElem?_getD]
theorem hd_read {s x post : List UInt8} {p : Nat} {k : Int} (h : s.drop p = hd k x.length ++ x ++ post) (hk0 : 0 ≤ k) (hk1 : k ≤ 65535) (hx : x.length ≤ 224) :
    (u16 s p : Int) = k ∧ u16 s (p + 2) = x.length ∧ part s (p + 4) x.length = x ∧ p + (4 + x.length) ≤ s.length ∧ s.drop (p + (4 + x.length)) = post ∧ 4 + x.length ≤ s.length - p := by
  have e : s.drop p = by8 k :: by8 (k / 256) :: by8 x.length :: by8 ((x.length : Int) / 256) :: (x ++ post) := by rw [h]; simp [hd]
  have hl : s.length - p = 4 + (x.length + post.length) := by
    have := congrArg List.length e
    simp at this
    omega
  refine ⟨?_, ?_, ?_, by omega, ?_, by omega⟩
  · simp only [u16]
    have a0 := getD_drop (i := 0) e
    have a1 := getD_drop (i := 1) e
    simp only [Nat.add_zero, List.getD_cons_zero, List.getD_cons_succ] at a0 a1
    rw [a0, a1, by8_toNat, by8_toNat]
    omega
  · simp only [u16]
    have a0 := getD_drop (i := 2) e
    have a1 := getD_drop (i := 3) e
    simp only [List.getD_cons_zero, List.getD_cons_succ] at a0 a1
    rw [show p + 2 + 1 = p + 3 by omega, a0, a1, by8_toNat, by8_toNat]
    omega
  · unfold part
    rw [← List.take_drop, ← List.drop_drop, e]
    simp
  · rw [← List.drop_drop, e, Nat.add_comm 4, ← List.drop_drop]
    simp [List.drop_append]
theorem okCuts_lt {n last : Int} {cs : List Int} {c : Int} (h : okCuts n last (c :: cs) = true) : last < c ∧ c < n ∧ okCuts n c cs = true := by
  simp only [okCuts, Bool.and_eq_true, decide_eq_true_eq] at h
  exact ⟨h.1.1, h.1.2, h.2⟩
theorem okGaps_le {n last : Int} {cs : List Int} {c : Int} (h : okGaps n last (c :: cs) = true) : c - last ≤ 224 ∧ okGaps n c cs = true := by
  simp only [okGaps, Bool.and_eq_true, decide_eq_true_eq] at h
  exact h
theorem rd_more (s d : List UInt8) (ty at_ : Int) (acc : List R) (post : List UInt8) (hd0 : d.length ≤ 65536) : ∀ (cs : List Int) (f p : Nat) (a : Nat) (done : List Int), s.drop p = encP d 60 a cs ++ post → 0 < a → a < d.length → okCuts d.length a cs = true → okGaps d.length a cs = true → cs.length + 1 ≤ f →
    rd s f (acc ++ [⟨ty, d.take a, done, at_⟩]) p = rd s (f - (cs.length + 1)) (acc ++ [⟨ty, d, done ++ (a : Int) :: cs, at_⟩]) (p + (encP d 60 a cs).length) ∧ s.drop (p + (encP d 60 a cs).length) = post
  | [], f, p, a, done, h, ha, hal, hc, hg, hf => by
    obtain ⟨f, rfl⟩ : ∃ g, f = g + 1 := ⟨f - 1, by simp at hf; omega⟩
    rw [encP] at h
    have hx : (d.drop a).length ≤ 224 := by
      simp only [okGaps, decide_eq_true_eq] at hg
      simp; omega
    have hxl : (d.drop a).length = d.length - a := by simp
    obtain ⟨e1, e2, e3, e4, e5, e6⟩ := hd_read h (by omega) (by omega) hx
    have hta : (d.take a).length = a := by simp; omega
    refine ⟨?_, ?_⟩
    · rw [rd, if_neg (by omega), if_neg (by omega), if_neg (by omega), if_neg (by omega), if_neg (by omega), List.getLast?_concat]
      dsimp only
      rw [if_neg (by omega), if_neg (by omega), List.dropLast_concat, e2, e3, hta, List.take_append_drop, show (encP d 60 a []).length = 4 + (d.drop a).length by rw [encP]; simp [hd]; omega]
      simp
    · rw [encP, show (hd 60 (d.drop a).length ++ d.drop a).length = 4 + (d.drop a).length by simp [hd]; omega]
      exact e5
  | c :: cs, f, p, a, done, h, ha, hal, hc, hg, hf => by
    obtain ⟨f, rfl⟩ : ∃ g, f = g + 1 := ⟨f - 1, by simp at hf; omega⟩
    obtain ⟨c1, c2, c3⟩ := okCuts_lt hc
    obtain ⟨g1, g2⟩ := okGaps_le hg
    obtain ⟨c, rfl⟩ := Int.eq_ofNat_of_zero_le (show 0 ≤ c by omega)
    rw [encP, Int.toNat_natCast] at h
    have hxl : ((d.take c).drop a).length = c - a := by simp; omega
    have h' : s.drop p = hd 60 ((d.take c).drop a).length ++ (d.take c).drop a ++ (encP d 60 c cs ++ post) := by rw [h]; simp only [List.append_assoc]
    obtain ⟨e1, e2, e3, e4, e5, e6⟩ := hd_read h' (by omega) (by omega) (by omega)
    have hta : (d.take a).length = a := by simp; omega
    have htc : d.take a ++ (d.take c).drop a = d.take c := by
      have := List.take_append_drop a (d.take c)
      rw [List.take_take, Nat.min_eq_left (by omega)] at this
      exact this
    obtain ⟨r1, r2⟩ := rd_more s d ty at_ acc post hd0 cs f (p + (4 + (c - a))) c (done ++ [(a : Int)]) (by rw [← hxl]; exact e5) (by omega) (by omega) c3 g2 (by simp at hf; omega)
    have hel : (encP d 60 a ((c : Int) :: cs)).length = 4 + (c - a) + (encP d 60 c cs).length := by
      rw [encP, Int.toNat_natCast, List.length_append, List.length_append, hxl]; simp [hd]
    refine ⟨?_, ?_⟩
    · rw [rd, if_neg (by omega), if_neg (by omega), if_neg (by omega), if_neg (by omega), if_neg (by omega), List.getLast?_concat]
      dsimp only
      rw [if_neg (by omega), if_neg (by omega), List.dropLast_concat, e2, e3, hta, htc, hxl, r1, hel]
      congr 1
      · simp
      · simp
      · omega
    · rw [hel, show p + (4 + (c - a) + (encP d 60 c cs).length) = p + (4 + (c - a)) + (encP d 60 c cs).length by omega]
      exact r2
/-- A record that is whole is read. -/
theorem rd_rec (s : List UInt8) (r : R) (acc : List R) (post : List UInt8) (f p : Nat) (h : s.drop p = encP r.data r.ty 0 r.cuts ++ post) (hc : chk r.ty r.data r.cuts = 0) (hf : r.cuts.length + 1 ≤ f) (hl : r.data.length ≤ 65536) :
    rd s f acc p = rd s (f - (r.cuts.length + 1)) (acc ++ [⟨r.ty, r.data, r.cuts, p⟩]) (p + (encP r.data r.ty 0 r.cuts).length) ∧ s.drop (p + (encP r.data r.ty 0 r.cuts).length) = post := by
  obtain ⟨ty, d, cs, at_⟩ := r
  dsimp only at h hc hf hl ⊢
  obtain ⟨ok, gp, t0, t1, t2⟩ := chk_cuts hc
  obtain ⟨f, rfl⟩ : ∃ g, f = g + 1 := ⟨f - 1, by omega⟩
  cases cs with
  | nil =>
    rw [encP, List.drop_zero] at h
    have hx : d.length ≤ 224 := by
      simp only [okGaps, decide_eq_true_eq] at gp
      omega
    obtain ⟨e1, e2, e3, e4, e5, e6⟩ := hd_read h t0 t1 hx
    refine ⟨?_, ?_⟩
    · rw [rd, if_neg (by omega), if_neg (by omega), if_neg (by omega), if_neg (by omega), if_pos (by omega), e2, e3, e1, show (encP d ty 0 []).length = 4 + d.length by rw [encP, List.drop_zero]; simp [hd]; omega]
      simp
    · rw [encP, List.drop_zero, show (hd ty d.length ++ d).length = 4 + d.length by simp [hd]; omega]
      exact e5
  | cons c cs =>
    obtain ⟨c1, c2, c3⟩ := okCuts_lt ok
    obtain ⟨g1, g2⟩ := okGaps_le gp
    obtain ⟨c, rfl⟩ := Int.eq_ofNat_of_zero_le (show 0 ≤ c by omega)
    rw [encP, Int.toNat_natCast, List.drop_zero] at h
    have hxl : (d.take c).length = c := by simp; omega
    have h' : s.drop p = hd ty (d.take c).length ++ d.take c ++ (encP d 60 c cs ++ post) := by rw [h]; simp only [List.append_assoc]
    obtain ⟨e1, e2, e3, e4, e5, e6⟩ := hd_read h' t0 t1 (by omega)
    obtain ⟨r1, r2⟩ := rd_more s d ty p acc post hl cs f (p + (4 + c)) c [] (by have := e5; rw [hxl] at this; exact this) (by omega) (by omega) c3 g2 (by simp at hf; omega)
    have hel : (encP d ty 0 ((c : Int) :: cs)).length = 4 + c + (encP d 60 c cs).length := by
      rw [encP, Int.toNat_natCast, List.drop_zero, List.length_append, List.length_append, hxl]; simp [hd]
    refine ⟨?_, ?_⟩
    · rw [rd, if_neg (by omega), if_neg (by omega), if_neg (by omega), if_neg (by omega), if_pos (by omega), e2, e3, e1, hxl, r1, hel]
      congr 1
      · simp
      · omega
    · rw [hel, show p + (4 + c + (encP d 60 c cs).length) = p + (4 + c) + (encP d 60 c cs).length by omega]
      exact r2
end Go.Pv.Cb
