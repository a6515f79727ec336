/- What the functions that EnvTakes reaches compute: a part. -/
import Derived.Test.YtfckadoadmdgjaaDoorEG
set_option linter.all false
namespace Go.Pv.Cb
set_option linter.unusedSimpArgs false
open Go.Pv
set_option maxRecDepth 10000
set_option maxHeartbeats 4000000
def ins (p : Pl) (v : Vl) : List Sl := if v.k = 0 then [] else [⟨p, v⟩]
theorem split_at {l : List Sl} (h : Srt l) (p : Pl) : ∃ A M B : List Sl, l = A ++ M ++ B ∧ (∀ x ∈ A, plt x.p p) ∧ (∀ x ∈ B, plt p x.p) ∧ (M = [] ∨ ∃ u, M = [⟨p, u⟩]) := by
  have e0 : l = l.take (pos l p) ++ l.drop (pos l p) := (List.take_append_drop _ _).symm
  have hA : ∀ x ∈ l.take (pos l p), plt x.p p := fun x hx => by
    obtain ⟨i, hi⟩ := List.getElem?_of_mem hx
    have hlt := (List.getElem?_eq_some_iff.1 hi).1
    rw [List.length_take] at hlt
    rw [List.getElem?_take, if_pos (by omega)] at hi
    exact pos_lt (by omega) hi
  have hge : ∀ x ∈ l.drop (pos l p), ¬ plt x.p p := fun x hx => by
    obtain ⟨i, hi⟩ := List.getElem?_of_mem hx
    rw [List.getElem?_drop] at hi
    exact pos_ge h (by omega) hi
  have hs : Srt (l.drop (pos l p)) := List.Pairwise.sublist (List.drop_sublist _ _) h
  cases hd : l.drop (pos l p) with
  | nil => exact ⟨_, [], [], by rw [List.append_nil, List.append_nil]; rw [hd, List.append_nil] at e0; exact e0, hA, by simp, .inl rfl⟩
  | cons x B =>
    rw [hd] at e0 hge hs
    unfold Srt at hs
    rw [List.pairwise_cons] at hs
    have hx := hge x (by simp)
    by_cases he : x.p = p
    · refine ⟨_, [x], B, by rw [List.append_assoc]; exact e0, hA, fun y hy => ?_, .inr ⟨x.v, by rw [← he]⟩⟩
      have := hs.1 y hy
      rw [he] at this; exact this
    · have hpx : plt p x.p := by
        rcases Decidable.em (plt p x.p) with q | q
        · exact q
        · exact absurd (plt_tri hx q) he
      refine ⟨_, [], x :: B, by rw [List.append_nil]; exact e0, hA, fun y hy => ?_, .inl rfl⟩
      rcases List.mem_cons.1 hy with rfl | hy
      · exact hpx
      · exact plt_trans hpx (hs.1 y hy)
section
variable {A M B : List Sl} {p : Pl} (hA : ∀ x ∈ A, plt x.p p) (hB : ∀ x ∈ B, plt p x.p)
include hA hB
theorem ge_of (hM : M = [] ∨ ∃ u, M = [⟨p, u⟩]) : ∀ x ∈ M ++ B, ¬ plt x.p p := by
  intro x hx
  rcases List.mem_append.1 hx with h | h
  · rcases hM with rfl | ⟨u, rfl⟩
    · simp at h
    · simp at h; subst h; exact plt_irr p
  · exact fun q => plt_irr p (plt_trans (hB x h) q)
theorem pos_app (hM : M = [] ∨ ∃ u, M = [⟨p, u⟩]) : pos (A ++ M ++ B) p = A.length := by
  refine pos_of (by simp) (fun i x hi hx => ?_) fun x hx => ?_
  · rw [List.append_assoc, List.getElem?_append_left hi] at hx
    exact hA x (List.mem_of_getElem? hx)
  · rw [List.append_assoc, List.getElem?_append_right (Nat.le_refl _), Nat.sub_self] at hx
    exact ge_of hA hB hM x (List.mem_of_getElem? hx)
theorem has_none : hasP (A ++ [] ++ B) p = false := by
  unfold hasP
  rw [pos_app hA hB (.inl rfl), List.append_nil, List.getElem?_append_right (Nat.le_refl _), Nat.sub_self]
  cases B with
  | nil => rfl
  | cons b B => simp only [List.getElem?_cons_zero, Option.map_some, Option.some.injEq]; exact decide_eq_false fun e => by have := hB b (by simp); rw [e] at this; exact plt_irr _ this
theorem has_some (u : Vl) : hasP (A ++ [⟨p, u⟩] ++ B) p = true := by
  unfold hasP
  rw [pos_app hA hB (.inr ⟨u, rfl⟩), List.append_assoc, List.getElem?_append_right (Nat.le_refl _), Nat.sub_self]
  simp
theorem put_none (v : Vl) : putF (A ++ [] ++ B) p v = A ++ ins p v ++ B := by
  unfold putF ins
  rw [if_neg (by rw [has_none hA hB]; simp), pos_app hA hB (.inl rfl)]
  by_cases hk : v.k = 0
  · rw [if_pos hk, if_pos hk]
  · rw [if_neg hk, if_neg hk, List.append_nil, List.take_left' rfl, List.drop_left' rfl]
theorem put_some (u v : Vl) : putF (A ++ [⟨p, u⟩] ++ B) p v = A ++ ins p v ++ B := by
  unfold putF ins
  rw [if_pos (has_some hA hB u), pos_app hA hB (.inr ⟨u, rfl⟩)]
  by_cases hk : v.k = 0
  · rw [if_pos hk, if_pos hk, List.append_nil, List.append_assoc, List.take_left' rfl, ← List.append_assoc, List.drop_left' (by simp)]
  · rw [if_neg hk, if_neg hk, List.append_assoc, List.set_append_right _ _ (Nat.le_refl _), Nat.sub_self, List.append_assoc]; rfl
theorem get_none : getL (A ++ [] ++ B) p = zv := by
  unfold getL
  rw [pos_app hA hB (.inl rfl), List.append_nil, List.getElem?_append_right (Nat.le_refl _), Nat.sub_self]
  cases B with
  | nil => rfl
  | cons b B =>
    have := hB b (by simp)
    simp only [List.getElem?_cons_zero]
    rw [if_neg (fun e => by rw [e] at this; exact plt_irr _ this)]
theorem get_some (u : Vl) : getL (A ++ [⟨p, u⟩] ++ B) p = u := by
  unfold getL
  rw [pos_app hA hB (.inr ⟨u, rfl⟩), List.append_assoc, List.getElem?_append_right (Nat.le_refl _), Nat.sub_self]
  simp
theorem srt_mid (h : Srt (A ++ M ++ B)) (N : List Sl) (hN : N = [] ∨ ∃ u, N = [⟨p, u⟩]) : Srt (A ++ N ++ B) := by
  unfold Srt at *
  rw [List.append_assoc, List.pairwise_append] at *
  obtain ⟨h1, h2, h3⟩ := h
  rw [List.pairwise_append] at *
  refine ⟨h1, ⟨?_, h2.2.1, ?_⟩, ?_⟩
  · rcases hN with rfl | ⟨u, rfl⟩ <;> simp
  · intro x hx y hy
    rcases hN with rfl | ⟨u, rfl⟩
    · simp at hx
    · simp at hx; subst hx; exact hB y hy
  · intro x hx y hy
    rcases List.mem_append.1 hy with q | q
    · rcases hN with rfl | ⟨u, rfl⟩
      · simp at q
      · simp at q; subst q; exact hA x hx
    · exact h3 x hx y (by simp [q])
end
theorem ins_or (p : Pl) (v : Vl) : ins p v = [] ∨ ∃ u, ins p v = [⟨p, u⟩] := by
  unfold ins; split
  · exact .inl rfl
  · exact .inr ⟨v, rfl⟩
theorem vC_blank {v : Vl} (h : vC v = 0) (hk : v.k = 0) : v = zv := by
  unfold vC at h
  split at h
  · simp at h
  · rename_i q
    have q1 : v.m = 0 := Decidable.byContradiction fun e => q (by simp [e, hk])
    have q2 : v.c = 0 := Decidable.byContradiction fun e => q (by simp [e, hk])
    have q3 : v.s = [] := Decidable.byContradiction fun e => q (by simp [e, hk])
    have q4 : v.b = false := by
      cases hb : v.b with
      | false => rfl
      | true => exact absurd (by simp [hk, hb]) q
    have q5 : v.e = 0 := Decidable.byContradiction fun e => q (by simp [e, hk])
    cases v
    simp only [zv, Vl.mk.injEq] at *
    exact ⟨hk, q1, q2, q3, q4, q5⟩
theorem chkS_ok (n : Int) : ∀ (l : List Sl) (pr : Option Pl), chkS n pr l = 0 → (∀ x ∈ l, gdP n x.p ∧ vC x.v = 0 ∧ ¬ x.v.k = 0) ∧ Srt l ∧ ∀ q, pr = some q → ∀ x ∈ l, plt q x.p
  | [], pr, _ => ⟨by simp, List.Pairwise.nil, by simp⟩
  | x :: l, pr, h => by
    rw [chkS] at h
    split at h
    · rename_i hb
      obtain ⟨i1, i2, i3⟩ := chkS_ok n l _ h
      have i3 := i3 x.p rfl
      unfold badS at hb
      split at hb
      · simp at hb
      rename_i g1
      split at hb
      · rename_i g2; exact absurd hb g2
      rename_i g2
      split at hb
      · simp at hb
      rename_i g3
      have hq : ∀ q, pr = some q → plt q x.p := by
        rintro q rfl
        simp only at hb
        split at hb
        · assumption
        · simp at hb
      refine ⟨?_, List.pairwise_cons.2 ⟨i3, i2⟩, ?_⟩
      · intro y hy
        rcases List.mem_cons.1 hy with rfl | hy
        · exact ⟨Decidable.not_not.1 g1, Decidable.not_not.1 g2, g3⟩
        · exact i1 y hy
      · intro q hpr y hy
        rcases List.mem_cons.1 hy with rfl | hy
        · exact hq q hpr
        · exact plt_trans (hq q hpr) (i3 y hy)
    · rename_i hb; exact absurd h hb
theorem chkE_ok {n : Int} {l : List Sl} {nm : List Tr} (h : chkE n l nm = 0) : (∀ x ∈ l, gdP n x.p ∧ vC x.v = 0 ∧ ¬ x.v.k = 0) ∧ Srt l := by
  unfold chkE at h
  split at h
  · simp at h
  split at h
  · simp at h
  split at h
  · rename_i q
    exact ⟨(chkS_ok n l none q).1, (chkS_ok n l none q).2.1⟩
  · rename_i q; exact absurd h q
theorem few_ok' {l : List Sl} {nm : List Tr} (h : fewE l nm = true) : l.length ≤ 60 ∧ nm.length ≤ 20 ∧ (∀ x ∈ l, x.v.s.length ≤ 3000) ∧ ∀ t ∈ nm, t.n ≤ 200 ∧ t.st := by
  unfold fewE at h
  rw [Bool.and_eq_true, Bool.and_eq_true, decide_eq_true_eq, List.all_eq_true, List.all_eq_true] at h
  exact ⟨h.1.1, h.1.2, fun x hx => by simpa using h.2.1 x hx, fun t ht => (fwT_spec t).2 (h.2.2 t ht)⟩
theorem takes {l : List Sl} {p : Pl} {v : Vl} (hs : Srt l) (hk : ∀ x ∈ l, ¬ x.v.k = 0) (hv : vC v = 0) :
    Srt (putF l p v) ∧ putF (putF l p v) p (getL l p) = l ∧ putF (putF l p v) p v = putF l p v ∧ getL (putF l p v) p = v ∧
      ((putF l p v).length : Int) - l.length = (if (getL l p).k = 0 ∧ ¬ v.k = 0 then 1 else if ¬ (getL l p).k = 0 ∧ v.k = 0 then -1 else 0) := by
  obtain ⟨A, M, B, rfl, hA, hB, hM⟩ := split_at hs p
  have hput : ∀ (N : List Sl) (w : Vl), (N = [] ∨ ∃ u, N = [⟨p, u⟩]) → putF (A ++ N ++ B) p w = A ++ ins p w ++ B := by
    rintro N w (rfl | ⟨u, rfl⟩)
    · exact put_none hA hB w
    · exact put_some hA hB u w
  have hins : ∀ w : Vl, vC w = 0 → getL (A ++ ins p w ++ B) p = w := by
    intro w hw
    unfold ins
    split
    · rename_i q; rw [get_none hA hB, vC_blank hw q]
    · exact get_some hA hB w
  have hg : ins p (getL (A ++ M ++ B) p) = M := by
    rcases hM with rfl | ⟨u, rfl⟩
    · rw [get_none hA hB]; rfl
    · rw [get_some hA hB]
      have := hk ⟨p, u⟩ (by simp)
      unfold ins; rw [if_neg this]
  refine ⟨?_, ?_, ?_, ?_, ?_⟩
  · rw [hput M v hM]; exact srt_mid hA hB hs _ (ins_or p v)
  · rw [hput M v hM, hput _ _ (ins_or p v), hg]
  · rw [hput M v hM, hput _ _ (ins_or p v)]
  · rw [hput M v hM]; exact hins v hv
  · rw [hput M v hM]
    have e2 : M.length = if (getL (A ++ M ++ B) p).k = 0 then 0 else 1 := by
      conv => lhs; rw [← hg]
      unfold ins; split <;> rfl
    have e3 : (ins p v).length = if v.k = 0 then 0 else 1 := by unfold ins; split <;> rfl
    simp only [List.length_append, e3]
    rw [e2]
    (repeat' split) <;> first | omega | (exfalso; omega)
end Go.Pv.Cb
