/- Own words of this session: what an argument reads as, opened by its kind: whole numbers, bools, strings, slices, structs, structs nested in themselves. -/
import Derived.Test.YtnbllonnfbejgaaWWords
import Derived.Deep.Slices
import Derived.SizedLaws
namespace Go.Proofs.YtnbllonnfbejgaaW.PrintWords
open Go.ChangeShapes Go.WideShapes Go.Deep

/-- What reads as a datum of type t by m steps at the most is of kind d; and F of it. -/
def OpensN (P : Program) (m : Nat) (t : TypeId) {α : Type} (d : Kd α) (F : α → Prop) : Prop :=
  ∀ (H : Type) (enc : TypeId × Value → H) (W : World) (held : Bool) (fuel : Nat) (cs : List Value) (x : DataW H × List MemPlace), fuel ≤ m →
    DataW.trod enc P W 0 (fun _ => true) held fuel t cs = some x → (∀ n ∈ x.1.weights P t, n ≤ reachBytes) → ∃ a, d.K W a cs ∧ F a
/-- The fields of a struct, from off on. -/
def OpensL (P : Program) (m : Nat) (fs : List Field) (off : Nat) {α : Type} (d : Kd α) (F : α → Prop) : Prop :=
  ∀ (H : Type) (enc : TypeId × Value → H) (W : World) (held : Bool) (fuel : Nat) (cs : List Value) (xs : List (DataW H × List MemPlace)), fuel ≤ m → xs.length = fs.length → cs.length = off + d.sz →
    (∀ (i : Nat) (f : Field), fs[i]? = some f → DataW.trod enc P W 0 (fun _ => true) held fuel f.type ((cs.drop f.offset).take (P.cellsOf f.type)) = xs[i]?) →
    (∀ n ∈ DataW.weightsEach P (fs.map (·.type)) (xs.map (·.1)), n ≤ reachBytes) → ∃ a, d.K W a (cs.drop off) ∧ F a
section
variable {P : Program} {t e : TypeId} {m : Nat}
theorem opens_int {k : IntKind} (ht : P.underlying t = some (.int k)) : OpensN P m t (Kd.int k) (fun n => (Lit.int k n).wf = true) := by
  intro H enc W held fuel cs x _ h _
  obtain ⟨n, rfl, rfl, hw⟩ := DataW.trod_int ht h
  exact ⟨n, rfl, hw⟩
theorem opens_bool (ht : P.underlying t = some .bool) : OpensN P m t Kd.bool (fun _ => True) := by
  intro H enc W held fuel cs x _ h _
  obtain ⟨b, rfl, rfl⟩ := DataW.trod_bool ht h
  exact ⟨b, rfl, trivial⟩
theorem opens_string (ht : P.underlying t = some .string) : OpensN P m t Kd.string (fun s => s.size ≤ 140737488351232) := by
  intro H enc W held fuel cs x _ h hw
  obtain ⟨s, rfl, rfl, _⟩ := DataW.trod_string ht h
  refine ⟨s, rfl, ?_⟩
  have := hw _ (by simp [DataW.weights]; rfl)
  simpa [reachBytes] using this
theorem weightsAll_mem {H : Type} {ds : List (DataW H)} {i : Nat} {d : DataW H} (h : ds[i]? = some d) : ∀ n ∈ d.weights P e, n ∈ DataW.weightsAll P e ds := by
  induction ds generalizing i with
  | nil => simp at h
  | cons d0 r ih =>
    intro n hn
    cases i with
    | zero =>
      simp only [List.getElem?_cons_zero, Option.some.injEq] at h
      subst h
      simp only [DataW.weightsAll, List.mem_append]
      exact .inl hn
    | succ i =>
      simp only [List.getElem?_cons_succ] at h
      simp only [DataW.weightsAll, List.mem_append]
      exact .inr (ih h n hn)
theorem opens_slice {α : Type} {d : Kd α} {F : α → Prop} {B : Nat} (ht : P.underlying t = some (.slice e)) (hs : P.cellsOf e = d.sz) (hB : P.bytesOf e = B) (he : OpensN P m e d F) :
    OpensN P m t (Kd.slice e d) (fun xs => xs.length * B ≤ 140737488351232 ∧ xs.length ≤ maxLen ∧ ∀ x ∈ xs, F x) := by
  intro H enc W held fuel cs x hf h hw
  rcases DataW.trod_slice ht h with ⟨rfl, rfl⟩ | ⟨a, len, cap, elems, rest, n, rfl, rfl, rfl, _, hl, hm, hlen, hel, _, _⟩
  · refine ⟨[], ⟨none, 0, rfl, Nat.le_refl _, ?_⟩, by simp, by simp, by simp⟩
    exact ⟨rfl, by simp, fun h0 => absurd h0 (by simp)⟩
  · simp only [DataW.weights, ht] at hw
    have hk : ∀ i, i < len → ∃ p : α, ∃ c : List Value, W.cells? 0 (a.add (i * P.cellsOf e)) (P.cellsOf e) = some c ∧ d.K W p c ∧ F p := by
      intro i hi
      have h1 := hel i hi
      have hie : i < elems.length := by omega
      rw [List.getElem?_eq_getElem hie] at h1
      obtain ⟨c, hc, ht1⟩ := Option.bind_eq_some_iff.1 h1
      obtain ⟨p, hp, hF⟩ := he H enc W held n c _ (by omega) ht1 (fun q hq => hw q (List.mem_cons_of_mem _ (List.mem_append_left _ (weightsAll_mem (i := i) (by simp [List.getElem?_map, List.getElem?_eq_getElem hie]) q hq))))
      exact ⟨p, c, hc, hp, hF⟩
    have hlist : ∀ j, j ≤ len → ∃ xs : List α, xs.length = j ∧ (∀ i p, xs[i]? = some p → ∃ c, W.cells? 0 (a.add (i * P.cellsOf e)) (P.cellsOf e) = some c ∧ d.K W p c ∧ F p) := by
      intro j
      induction j with
      | zero => exact fun _ => ⟨[], rfl, fun i p hp => by simp at hp⟩
      | succ j ih =>
        intro hj
        obtain ⟨xs, hx, hp⟩ := ih (by omega)
        obtain ⟨p, c, h1, h2, h3⟩ := hk j (by omega)
        refine ⟨xs ++ [p], by simp [hx], fun i q hq => ?_⟩
        rcases Nat.lt_or_ge i xs.length with hi | hi
        · rw [List.getElem?_append_left hi] at hq
          exact hp i q hq
        · rw [List.getElem?_append_right hi] at hq
          have hi0 : i = j := by
            rcases Nat.eq_zero_or_pos (i - xs.length) with h0 | h0
            · omega
            · rw [List.getElem?_eq_none (by simp; omega)] at hq
              simp at hq
          subst hi0
          rw [hx, Nat.sub_self] at hq
          simp only [List.getElem?_cons_zero, Option.some.injEq] at hq
          subst hq
          exact ⟨c, h1, h2, h3⟩
    obtain ⟨xs, hx, hp⟩ := hlist len (Nat.le_refl _)
    have hreach := hw _ List.mem_cons_self
    simp only [List.length_map, hlen, hB] at hreach
    refine ⟨xs, ⟨some a, cap, by rw [hx], by omega, ?_⟩, ?_, by omega, fun p hp1 => ?_⟩
    · refine ⟨rfl, by rw [hx]; unfold maxLen at hm; omega, fun _ => ⟨a, rfl, fun j p hj => ?_⟩⟩
      obtain ⟨c, h1, h2, _⟩ := hp j p hj
      obtain ⟨_, hcl, hcc⟩ := World.cells?_some h1
      refine ⟨c, by rw [hcl, hs], h2, fun i u hu => ?_⟩
      have hi : i < P.cellsOf e := by
        have := (List.getElem?_eq_some_iff.1 hu).1
        omega
      have h3 := hcc i hi
      rw [hu, Deep.add_add, hs] at h3
      exact h3
    · rw [hx]
      have h4 : len * B ≤ (len + rest.length) * B := Nat.mul_le_mul_right _ (by omega)
      simp only [reachBytes] at hreach
      omega
    · obtain ⟨i, hi⟩ := List.getElem?_of_mem hp1
      obtain ⟨_, _, _, h3⟩ := hp i p hi
      exact h3
theorem opensL_one {f : Field} {off : Nat} {α : Type} {d : Kd α} {F : α → Prop} (ho : f.offset = off) (hc : P.cellsOf f.type = d.sz) (h : OpensN P m f.type d F) : OpensL P m [f] off d F := by
  intro H enc W held fuel cs xs hf hx hl hr hw
  obtain ⟨x, rfl⟩ : ∃ x, xs = [x] := List.length_eq_one_iff.1 hx
  have h1 := hr 0 f rfl
  rw [ho, hc, List.take_of_length_le (by simp; omega)] at h1
  exact h H enc W held fuel _ x hf h1 (fun n hn => hw n (by simp only [List.map_cons, DataW.weightsEach, List.mem_append]; exact .inl hn))
theorem opensL_cons {f : Field} {fs : List Field} {off : Nat} {α β : Type} {d : Kd α} {d2 : Kd β} {F : α → Prop} {F2 : β → Prop} (ho : f.offset = off) (hc : P.cellsOf f.type = d.sz) (h : OpensN P m f.type d F)
    (h2 : OpensL P m fs (off + d.sz) d2 F2) : OpensL P m (f :: fs) off (Kd.pair d d2) (fun x => F x.1 ∧ F2 x.2) := by
  intro H enc W held fuel cs xs hf hx hl hr hw
  cases xs with
  | nil => simp at hx
  | cons x xs =>
    have hsz : (Kd.pair d d2).sz = d.sz + d2.sz := rfl
    have h1 := hr 0 f rfl
    rw [ho, hc] at h1
    simp only [List.map_cons, DataW.weightsEach, List.mem_append] at hw
    obtain ⟨a, ha, hFa⟩ := h H enc W held fuel _ x hf h1 (fun n hn => hw n (.inl hn))
    obtain ⟨b, hb, hFb⟩ := h2 H enc W held fuel cs xs hf (by simpa using hx) (by omega) (fun i g hg => by simpa using hr (i + 1) g (by simpa using hg)) (fun n hn => hw n (.inr hn))
    refine ⟨(a, b), ⟨(cs.drop off).take d.sz, cs.drop (off + d.sz), ?_, ha, hb⟩, hFa, hFb⟩
    rw [← List.drop_drop, List.take_append_drop]
theorem opens_struct {fs : Array Field} {α β : Type} {d : Kd α} {F : α → Prop} {f : β → α} (g : α → β) (hg : ∀ a, f (g a) = a) (ht : P.underlying t = some (.struct fs)) (hc : P.cellsOf t = d.sz) (h : OpensL P m fs.toList 0 d F) :
    OpensN P (m + 1) t (Kd.iso d f) (fun x => F (f x)) := by
  intro H enc W held fuel cs x hf hx hw
  obtain ⟨xs, n, rfl, rfl, hl, hxl, hr⟩ := DataW.trod_struct ht hx
  simp only [DataW.weights, ht] at hw
  obtain ⟨a, ha, hF⟩ := h H enc W held n cs xs (by omega) (by simpa using hxl) (by omega) (fun i f hi => hr i f (by simpa using hi)) hw
  refine ⟨g a, ?_, (by show F (f (g a)); rw [hg]; exact hF)⟩
  show d.K W (f (g a)) cs
  rw [hg]
  exact ha
theorem OpensN.le {α : Type} {d : Kd α} {F : α → Prop} {n : Nat} (h : OpensN P m t d F) (hn : n ≤ m) : OpensN P n t d F :=
  fun H enc W held fuel cs x hf => h H enc W held fuel cs x (by omega)
theorem OpensN.imp {α : Type} {d : Kd α} {F G : α → Prop} (h : OpensN P m t d F) (hi : ∀ x, F x → G x) : OpensN P m t d G :=
  fun H enc W held fuel cs x hf hx hw => let ⟨a, ha, hF⟩ := h H enc W held fuel cs x hf hx hw; ⟨a, ha, hi a hF⟩
/-- A struct nested in itself: step by step. -/
theorem opens_fix {α : Type} {Fd : Kd α → Kd α} {sz : Nat} {E : List Nat} {hs : ∀ n, (Kd.upto Fd sz E n).sz = sz} {hE : ∀ n q, q ∈ (Kd.upto Fd sz E n).E → q ∈ E} {G : Nat → α → Prop}
    (step : ∀ n, OpensN P n t (Kd.upto Fd sz E n) (G n) → OpensN P (n + 1) t (Kd.upto Fd sz E (n + 1)) (G (n + 1))) : OpensN P m t (Kd.fix Fd sz E hs hE) (fun x => ∃ n, G n x) := by
  have key : ∀ n, OpensN P n t (Kd.upto Fd sz E n) (G n) := by
    intro n
    induction n with
    | zero =>
      intro H enc W held fuel cs x hf hx _
      obtain rfl : fuel = 0 := by omega
      simp [DataW.trod] at hx
    | succ n ih => exact step n ih
  intro H enc W held fuel cs x hf hx hw
  obtain ⟨a, ha, hG⟩ := key m H enc W held fuel cs x hf hx hw
  exact ⟨a, ⟨m, ha⟩, m, hG⟩
end
end Go.Proofs.YtnbllonnfbejgaaW.PrintWords
