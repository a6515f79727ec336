/- What the functions that RecFronts reaches compute: a part. -/
import Derived.Test.YtcghkmihbfibkaaRec7
set_option linter.all false
namespace Go.Pv.Cb
open Go.Pv
set_option maxRecDepth 10000
set_option linter.unusedSimpArgs false
/-- Where the part behind one begins. -/
def nxt (w : List UInt8) (p : Nat) : Nat := p + (4 + u16 w (p + 2))
/-- Of a front: none where it ends with a part; else where the part begins that is cut off. -/
def fr (w : List UInt8) (k : Nat) : Nat → Nat → Option Nat
  | 0, _ => none
  | f + 1, p => if k = p then none else if k < nxt w p then some p else fr w k f (nxt w p)
/-- From here on the bytes are read without fault. -/
def good (w : List UInt8) (p : Nat) : Prop := ∃ f acc L, w.length - p < f ∧ rd w f acc p = (L, 0, 0)
theorem good_step {w : List UInt8} {p : Nat} (h : good w p) (hp : p < w.length) : nxt w p ≤ w.length ∧ good w (nxt w p) := by
  obtain ⟨f, acc, L, hf, h⟩ := h
  obtain ⟨f, rfl⟩ : ∃ g, f = g + 1 := ⟨f - 1, by omega⟩
  rw [rd, if_neg (by omega)] at h
  split at h
  · simp at h
  rename_i h4
  split at h
  · simp at h
  rename_i h5
  split at h
  · simp at h
  rename_i h6
  have hn : nxt w p ≤ w.length := by unfold nxt; omega
  refine ⟨hn, ?_⟩
  have hlt : w.length - nxt w p < f := by unfold nxt at hn ⊢; omega
  split at h
  · exact ⟨f, _, L, hlt, h⟩
  · split at h
    · simp at h
    split at h
    · simp at h
    split at h
    · simp at h
    exact ⟨f, _, L, hlt, h⟩
theorem getD_take (w : List UInt8) (k i : Nat) (h : i < k) : (w.take k).getD i 0 = w.getD i 0 := by
  simp [List.getD_eq_getElem?_getD, List.getElem?_take, h]
theorem u16_take (w : List UInt8) (k i : Nat) (h : i + 1 < k) : u16 (w.take k) i = u16 w i := by
  simp only [u16, getD_take w k i (by omega), getD_take w k (i + 1) h]
theorem part_take (w : List UInt8) (k p n : Nat) (h : p + n ≤ k) : part (w.take k) p n = part w p n := by
  unfold part
  rw [List.take_take, Nat.min_eq_left h]
/-- A front is read just where it ends with a part; else it is told where the part begins that is cut off. -/
theorem rd_front (w : List UInt8) (k : Nat) (hk : k ≤ w.length) : ∀ (f f' g : Nat) (acc : List R) (p : Nat) (L : List R), p ≤ k → w.length - p < f → k - p < f' → k - p < g → rd w f acc p = (L, 0, 0) →
    match fr w k g p with
    | none => ∃ L', rd (w.take k) f' acc p = (L', 0, 0)
    | some b => rd (w.take k) f' acc p = ([], (b : Int), 5)
  | 0, f', g, acc, p, L, _, hf, _, _, _ => absurd hf (by omega)
  | f + 1, 0, g, acc, p, L, _, _, hf, _, _ => absurd hf (by omega)
  | f + 1, f' + 1, 0, acc, p, L, _, _, _, hg, _ => absurd hg (by omega)
  | f + 1, f' + 1, g + 1, acc, p, L, hp, hf, hf', hg, h => by
    have hl : (w.take k).length = k := by simp; omega
    rw [fr]
    by_cases e : k = p
    · rw [if_pos e]
      refine ⟨acc, ?_⟩
      rw [rd, if_pos (by omega)]
    rw [if_neg e]
    rw [rd, if_neg (by omega)] at h
    split at h
    · simp at h
    rename_i h4
    split at h
    · simp at h
    rename_i h5
    split at h
    · simp at h
    rename_i h6
    have hl0 : ¬ (w.take k).length ≤ p := by omega
    by_cases q4 : k - p < 4
    · rw [if_pos (show k < nxt w p by unfold nxt; omega)]
      show rd (w.take k) (f' + 1) acc p = _
      rw [rd, if_neg hl0, hl, if_pos q4]
    have u2 := u16_take w k (p + 2) (by omega)
    by_cases q6 : k - p - 4 < u16 w (p + 2)
    · rw [if_pos (show k < nxt w p by unfold nxt; omega)]
      show rd (w.take k) (f' + 1) acc p = _
      rw [rd, if_neg hl0, hl, if_neg q4, u2, if_neg h5, if_pos q6]
    rw [if_neg (show ¬ k < nxt w p by unfold nxt; omega)]
    rw [rd, if_neg hl0, hl, if_neg q4, u2, if_neg h5, if_neg q6, u16_take w k p (by omega), part_take w k (p + 4) (u16 w (p + 2)) (by omega)]
    have hr : ∀ acc', rd w f acc' (p + (4 + u16 w (p + 2))) = (L, 0, 0) → match fr w k g (nxt w p) with
        | none => ∃ L', rd (w.take k) f' acc' (p + (4 + u16 w (p + 2))) = (L', 0, 0)
        | some b => rd (w.take k) f' acc' (p + (4 + u16 w (p + 2))) = ([], (b : Int), 5) := fun acc' h' =>
      rd_front w k hk f f' g acc' (p + (4 + u16 w (p + 2))) L (by omega) (by omega) (by omega) (by omega) h'
    split at h
    · rename_i hk6
      rw [if_pos hk6]
      exact hr _ h
    · rename_i hk6
      rw [if_neg hk6]
      cases hlast : acc.getLast? with
      | none => rw [hlast] at h; simp at h
      | some r =>
        rw [hlast] at h
        dsimp only at h ⊢
        split at h
        · simp at h
        rename_i h7
        split at h
        · simp at h
        rename_i h8
        rw [if_neg h7, if_neg h8]
        exact hr _ h
/-- A map of ends. -/
def kvE (E : List Nat) : List (PV × PV) := E.map fun e : Nat => (.int .i64 (e : Int), .bool true)
def insE (p : Nat) (E : List Nat) : List Nat := if p ∈ E then E else E ++ [p]
theorem mfind_kvE (k : Nat) : ∀ (E : List Nat), mfind (.int .i64 k) (kvE E) = some (if k ∈ E then some (.bool true) else none)
  | [] => rfl
  | e :: E => by
    have ih := mfind_kvE k E
    simp only [kvE, List.map_cons, mfind, keyEq, if_true] at ih ⊢
    by_cases h : k = e
    · subst h; simp
    · have : ((k : Int) == (e : Int)) = false := by simpa using (by omega : ¬ (k : Int) = e)
      rw [this]
      simp only [ih]
      simp [h]
theorem mput_kvE (p : Nat) : ∀ (E : List Nat), mput (.int .i64 p) (.bool true) (kvE E) = kvE (insE p E)
  | [] => rfl
  | e :: E => by
    have ih := mput_kvE p E
    simp only [kvE, List.map_cons, mput, keyEq, if_true] at ih ⊢
    by_cases h : p = e
    · subst h; simp [insE]
    · have h2 : ((p : Int) == (e : Int)) = false := by simpa using (by omega : ¬ (p : Int) = e)
      simp only [h2, Option.some.injEq, Bool.false_eq_true, if_false, ih]
      unfold insE
      by_cases hm : p ∈ E
      · rw [if_pos hm, if_pos (by simp [hm])]; rfl
      · rw [if_neg hm, if_neg (by simp [hm, h])]; simp
theorem mem_insE {p k : Nat} {E : List Nat} : k ∈ insE p E ↔ k = p ∨ k ∈ E := by
  unfold insE
  split
  · rename_i h
    constructor
    · exact .inr
    · rintro (rfl | q)
      · exact h
      · exact q
  · simp [or_comm]
theorem wr_good : ∀ (l : List R) (b : List UInt8), (∀ r ∈ l, chk r.ty r.data r.cuts = 0) → wr b l = (b ++ encAll l, 0)
  | [], b, _ => by simp [wr, encAll]
  | r :: t, b, h => by
    rw [wr, if_pos (h r (by simp)), wr_good t _ fun x hx => h x (by simp [hx])]
    simp [encAll]
end Go.Pv.Cb
