/- What the functions that RecFronts reaches compute: a part. -/
import Derived.Test.YtcghkmihbfibkaaRec6
import Derived.Test.YtcghkmihbfibkaaRec4
set_option linter.all false
namespace Go.Pv.Cb
open Go.Pv
set_option maxRecDepth 10000
set_option maxHeartbeats 4000000
set_option linter.unusedSimpArgs false
def encAll : List R → List UInt8
  | [] => []
  | r :: t => encP r.data r.ty 0 r.cuts ++ encAll t
def placeAll : Nat → List R → List R
  | _, [] => []
  | p, r :: t => ⟨r.ty, r.data, r.cuts, p⟩ :: placeAll (p + (encP r.data r.ty 0 r.cuts).length) t
def cost : List R → Nat
  | [] => 0
  | r :: t => r.cuts.length + 1 + cost t
theorem encP_ge (d : List UInt8) : ∀ (cs : List Int) (k : Int) (a : Nat), 4 * (cs.length + 1) ≤ (encP d k a cs).length
  | [], k, a => by simp [encP, hd]
  | c :: cs, k, a => by
    have := encP_ge d cs 60 c.toNat
    simp only [encP, hd, List.length_append, List.length_cons, List.length_nil] at this ⊢
    omega
theorem cost_le : ∀ (l : List R), cost l ≤ (encAll l).length
  | [] => Nat.le_refl _
  | r :: t => by
    have := cost_le t
    have := encP_ge r.data r.cuts r.ty 0
    simp only [cost, encAll, List.length_append]
    omega
theorem wr_ok : ∀ (l : List R) (b : List UInt8), (wr b l).2 = 0 → (∀ r ∈ l, chk r.ty r.data r.cuts = 0) ∧ (wr b l).1 = b ++ encAll l
  | [], b, _ => ⟨by simp, by simp [wr, encAll]⟩
  | r :: t, b, h => by
    rw [wr] at h ⊢
    split at h
    · rename_i hc
      obtain ⟨h1, h2⟩ := wr_ok t _ h
      rw [if_pos hc]
      refine ⟨fun x hx => ?_, by rw [h2, encAll, List.append_assoc]⟩
      rcases List.mem_cons.1 hx with rfl | hx
      · exact hc
      · exact h1 x hx
    · rename_i hc; exact absurd h hc
theorem wr_bad : ∀ (l : List R) (b : List UInt8), (wr b l).2 ≠ 0 → (wr b l).1 = []
  | [], b, h => absurd rfl h
  | r :: t, b, h => by
    rw [wr] at h ⊢
    split at h
    · rename_i hc
      rw [if_pos hc]
      exact wr_bad t _ h
    · rename_i hc; rw [if_neg hc]
theorem rd_all (s : List UInt8) : ∀ (l : List R) (acc : List R) (post : List UInt8) (f p : Nat), s.drop p = encAll l ++ post → (∀ r ∈ l, chk r.ty r.data r.cuts = 0 ∧ r.data.length ≤ 65536) → cost l ≤ f →
    rd s f acc p = rd s (f - cost l) (acc ++ placeAll p l) (p + (encAll l).length) ∧ s.drop (p + (encAll l).length) = post
  | [], acc, post, f, p, h, _, _ => by simpa [cost, placeAll, encAll] using h
  | r :: t, acc, post, f, p, h, hc, hf => by
    rw [encAll, List.append_assoc] at h
    obtain ⟨h1, h2⟩ := hc r (by simp)
    obtain ⟨a1, a2⟩ := rd_rec s r acc (encAll t ++ post) f p h h1 (by simp only [cost] at hf; omega) h2
    obtain ⟨b1, b2⟩ := rd_all s t (acc ++ [⟨r.ty, r.data, r.cuts, p⟩]) post (f - (r.cuts.length + 1)) (p + (encP r.data r.ty 0 r.cuts).length) a2 (fun x hx => hc x (by simp [hx])) (by simp only [cost] at hf; omega)
    simp only [encAll, List.length_append, ← Nat.add_assoc]
    refine ⟨?_, b2⟩
    rw [a1, b1]
    simp only [cost, placeAll, List.append_assoc, List.cons_append, List.nil_append]
    congr 1
    omega
/-- What is written is read. -/
theorem rd_enc (l : List R) (hc : ∀ r ∈ l, chk r.ty r.data r.cuts = 0 ∧ r.data.length ≤ 65536) : rd (encAll l) ((encAll l).length + 1) [] 0 = (placeAll 0 l, 0, 0) := by
  have hcl := cost_le l
  obtain ⟨h1, h2⟩ := rd_all (encAll l) l [] [] ((encAll l).length + 1) 0 (by simp) hc (by omega)
  rw [h1]
  obtain ⟨g, hg⟩ : ∃ g, (encAll l).length + 1 - cost l = g + 1 := ⟨(encAll l).length - cost l, by omega⟩
  rw [hg, rd, if_pos (by omega)]
  simp
theorem encAll_len : ∀ (l : List R), (∀ r ∈ l, chk r.ty r.data r.cuts = 0) → (encAll l).length ≤ l.length * 5000000000
  | [], _ => by simp [encAll]
  | r :: t, h => by
    have h1 := encAll_len t fun x hx => h x (by simp [hx])
    have h2 := encP_len r.data r.cuts r.ty 0
    obtain ⟨h3, h4⟩ := chk_len (h r (by simp))
    have hmul : (r.cuts.length + 1) * (r.data.length + 4) ≤ 65537 * 65540 := Nat.mul_le_mul (by omega) (by omega)
    simp only [encAll, List.length_append, List.length_cons]
    omega
theorem placeAll_length : ∀ (l : List R) (p : Nat), (placeAll p l).length = l.length
  | [], _ => rfl
  | r :: t, p => by simp [placeAll, placeAll_length t]
theorem placeAll_get : ∀ (l : List R) (p i : Nat) (x y : R), (placeAll p l)[i]? = some x → l[i]? = some y → x.ty = y.ty ∧ x.data = y.data ∧ x.cuts = y.cuts
  | [], _, i, x, y, _, hy => by simp at hy
  | r :: t, p, 0, x, y, hx, hy => by
    simp [placeAll] at hx hy
    subst hx; subst hy; exact ⟨rfl, rfl, rfl⟩
  | r :: t, p, i + 1, x, y, hx, hy => placeAll_get t _ i x y (by simpa [placeAll] using hx) (by simpa using hy)
theorem placeAll_cuts (l : List R) (p : Nat) (h : ∀ r ∈ l, chk r.ty r.data r.cuts = 0) : ∀ r ∈ placeAll p l, r.cuts.length ≤ 100000 := by
  intro r hr
  obtain ⟨i, hi⟩ := List.getElem?_of_mem hr
  obtain ⟨y, hy⟩ := get_lt (l := l) (i := i) (by have := (List.getElem?_eq_some_iff.1 hi).1; rwa [placeAll_length] at this)
  rw [(placeAll_get l p i r y hi hy).2.2]
  have := (chk_len (h y (mem_get hy))).2
  omega
/-- What Read answers to what Write wrote. -/
theorem Read_wr (l : List R) (hb : (wr [] l).2 = 0) (hl : l.length ≤ 100) : ansOf E F_rec_Read [.w (.p (.sl 1 (ofBytes (wr [] l).1)))] = some ([(false, [.own 4 ((placeAll 0 l).map oR)]), (false, [.p (.int .i64 0)]), (false, [.p (.int .i64 0)])], []) := by
  obtain ⟨hck, hw⟩ := wr_ok l [] hb
  rw [hw, List.nil_append]
  have := encAll_len l hck
  rw [Read_spec _ (by omega), rd_enc l fun r hr => ⟨hck r hr, (chk_len (hck r hr)).1⟩]
  rfl
theorem SameAll_placed (l : List R) (p : Nat) (h : ∀ r ∈ l, chk r.ty r.data r.cuts = 0) (hl : l.length ≤ 100) : ansOf E F_law1_SameAll [.w (.p (.sl 4 ((placeAll p l).map eR))), .w (.p (.sl 4 (l.map eR))), .w (.p (.bool false))] = some ([(false, [.p (.bool true)])], []) :=
  SameAll_true _ _ _ (placeAll_length l p) (by rw [placeAll_length]; omega) (placeAll_cuts l p h) fun i x y hx hy => by
    obtain ⟨h1, h2, h3⟩ := placeAll_get l p i x y hx hy
    exact ⟨h1, h2, h3, by simp⟩
end Go.Pv.Cb
