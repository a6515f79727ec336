/- Own words of these sessions: a small interpreter over plain values, and the proof that the model computes what it answers. -/
import Derived.Test.YtfckadoadmdgjaaDoorPvb
import Derived.Laws.Sem
import Derived.Deep.Slices
import Derived.SizedLaws
set_option linter.all false
section
namespace Go.Pv
open Go.RowKit
set_option linter.unusedVariables false
set_option linter.unusedSimpArgs false
section
variable {G : List Nat} {v0 : Nat → Option Value} {P : Program} {I : World → Prop} {B : Base I} {K : Kills} {σ σ' σ1 : List AV} {w w' : World} {a a' : Act} {Q : Exit → Act → World → Prop} {Fz Fz' : BSet} {S S' : Nat → BSet} {vals vals' : Nat → Value} {E : Env} {l n : Nat}
theorem InvM.leaf (h : InvM B K G v0 σ a w) : ∃ B1 : Base I, B1.ds = a.defers ∧ InvK B1 K G v0 σ a w ∧ ∀ σ' a' w', InvK B1 K G v0 σ' a' w' → InvM B K G v0 σ' a' w' ∧ a'.defers = a.defers := by
  obtain ⟨Ds, h1, h2, h3, h4, Fz, S, h5, h6, h7⟩ := h
  refine ⟨B.at_ h5 a.defers, rfl, ⟨⟨rfl, h3, Fz, S, h5.rebase _, h6⟩, h4⟩, fun σ' a' w' hI => ?_⟩
  obtain ⟨⟨k1, k2, Fz', S', k3, k4⟩, k5⟩ := hI
  exact ⟨⟨Ds, k1.trans h1, h2, k2, k5, Fz', S', h5.unbase k3, k4, fun D hD => (h7 D hD).step h5 k3⟩, k1⟩
theorem ev_round : ∀ (code : Code) (k : Nat), (∀ j, j < k → GoodF I P (callBody E (evC E j))) → ∀ {H : Hints} {c : IC} {σ σ' : List AV} {ex : Ex} {a : Act} {w : World}, simpleC code = true → codeOf P G H code = some c → evC E k K c σ = some (ex, σ') →
    InvM B K G v0 σ a w → code.wpIn (Fence.wide.inRound l) n P (fun e a' w' => e = ex.exit' ∧ InvM B K G v0 σ' a' w' ∧ a'.defers = a.defers) a w := by
  intro code
  induction code with
  | skip =>
    intro k hg H c σ σ' ex a w hs hc h hI
    cases k with
    | zero => simp [evC] at h
    | succ k =>
      simp only [codeOf, Option.some.injEq] at hc
      subst hc
      simp only [evC, Option.some.injEq, Prod.mk.injEq] at h
      obtain ⟨rfl, rfl⟩ := h
      exact wpIn_skip ⟨rfl, hI, rfl⟩
  | exit id =>
    intro k hg H c σ σ' ex a w hs hc h hI
    cases k with
    | zero => simp [evC] at h
    | succ k =>
      simp only [codeOf, Option.some.injEq] at hc
      subst hc
      simp only [evC, Option.some.injEq, Prod.mk.injEq] at h
      obtain ⟨rfl, rfl⟩ := h
      exact wpIn_exit ⟨rfl, hI, rfl⟩
  | region id ops b =>
    intro k hg H c σ σ' ex a w hs hc h hI
    cases k with
    | zero => simp [evC] at h
    | succ k =>
      cases b with
      | true => simp [simpleC] at hs
      | false =>
        simp only [codeOf, Option.map_eq_some_iff] at hc
        obtain ⟨ios, hios, rfl⟩ := hc
        simp only [evC, Option.map_eq_some_iff, Prod.mk.injEq] at h
        obtain ⟨σ2, h1, rfl, rfl⟩ := h
        obtain ⟨B1, _, hK, hM⟩ := hI.leaf
        exact wpIn_mono (region_round (hg k (Nat.lt_succ_self k)) hios hK h1) fun e a' w' ⟨he, hq⟩ => ⟨he, hM _ _ _ hq⟩
  | seq x y ihx ihy =>
    intro k hg H c σ σ' ex a w hs hc h hI
    cases k with
    | zero => simp [evC] at h
    | succ k =>
      simp only [simpleC, Bool.and_eq_true] at hs
      have hg' : ∀ j, j < k → GoodF I P (callBody E (evC E j)) := fun j hj => hg j (by omega)
      simp only [codeOf] at hc
      split at hc
      · rename_i x' y' hx hy
        simp only [Option.some.injEq] at hc
        subst hc
        simp only [evC] at h
        refine wpIn_seq ?_
        split at h
        · rename_i σ2 h1
          refine wpIn_mono (ihx k hg' hs.1 hx h1 hI) ?_
          rintro e a1 w1 ⟨rfl, hI1, hd1⟩
          exact wpIn_mono (ihy k hg' hs.2 hy h hI1) fun e a' w' ⟨he, hq, hd⟩ => ⟨he, hq, hd.trans hd1⟩
        · rename_i hno
          refine wpIn_mono (ihx k hg' hs.1 hx h hI) ?_
          rintro e a1 w1 ⟨rfl, hI1, hd1⟩
          cases ex with
          | nor => exact absurd h (hno _)
          | exit id => exact ⟨rfl, hI1, hd1⟩
          | goto l => exact ⟨rfl, hI1, hd1⟩
          | ret => exact ⟨rfl, hI1, hd1⟩
      · simp at hc
  | cond x a1 b1 iha ihb =>
    intro k hg H c σ σ' ex a w hs hc h hI
    cases k with
    | zero => simp [evC] at h
    | succ k =>
      simp only [simpleC, Bool.and_eq_true] at hs
      have hg' : ∀ j, j < k → GoodF I P (callBody E (evC E j)) := fun j hj => hg j (by omega)
      simp only [codeOf] at hc
      split at hc
      · rename_i c' a' b' hx ha hb
        simp only [Option.some.injEq] at hc
        subst hc
        simp only [evC] at h
        split at h
        · rename_i t σ2 ht
          have hcx : a.eval x = .bool t := by
            obtain ⟨_, Fz, S, h3, _⟩ := hI.st
            exact repP_bool (sc_ok h3 (odS_ok (a := a) hx) ht).2
          refine wpIn_cond hcx ?_
          cases t with
          | true => exact iha k hg' hs.1 ha h hI
          | false => exact ihb k hg' hs.2 hb h hI
        · simp at h
      · simp at hc
  | block id x ihx =>
    intro k hg H c σ σ' ex a w hs hc h hI
    cases k with
    | zero => simp [evC] at h
    | succ k =>
      simp only [simpleC] at hs
      have hg' : ∀ j, j < k → GoodF I P (callBody E (evC E j)) := fun j hj => hg j (by omega)
      simp only [codeOf, Option.map_eq_some_iff] at hc
      obtain ⟨x', hx, rfl⟩ := hc
      simp only [evC] at h
      refine wpIn_block ?_
      split at h
      · rename_i id' σ2 h1
        refine wpIn_mono (ihx k hg' hs hx h1 hI) ?_
        rintro e a1 w1 ⟨rfl, hI1, hd1⟩
        split at h
        · rename_i hid
          simp only [Option.some.injEq, Prod.mk.injEq] at h
          obtain ⟨rfl, rfl⟩ := h
          simp only [Ex.exit', Exit.inBlock, if_pos hid]
          exact ⟨trivial, hI1, hd1⟩
        · rename_i hid
          simp only [Option.some.injEq, Prod.mk.injEq] at h
          obtain ⟨rfl, rfl⟩ := h
          simp only [Ex.exit', Exit.inBlock, if_neg hid]
          exact ⟨trivial, hI1, hd1⟩
      · rename_i hno
        refine wpIn_mono (ihx k hg' hs hx h hI) ?_
        rintro e a1 w1 ⟨rfl, hI1, hd1⟩
        cases ex with
        | exit id' => exact absurd h (hno _ _)
        | nor => exact ⟨rfl, hI1, hd1⟩
        | goto l => exact ⟨rfl, hI1, hd1⟩
        | ret => exact ⟨rfl, hI1, hd1⟩
  | _ => intro k hg H c σ σ' ex a w hs; simp [simpleC] at hs
theorem St.grow (h : St B K σ vals w Fz S) (hw : ∀ b, b < w.heap.size → w'.heap[b]? = w.heap[b]?) (hs : w.heap.size ≤ w'.heap.size) (h1 : w'.os = w.os) (h2 : w'.tape = w.tape) (h3 : w'.output = w.output) : St B K σ vals w' Fz S := by
  have hFS : ∀ t b, Fz b ∨ S t b → w'.heap[b]? = w.heap[b]? := fun t b q => hw b (q.elim (h.frz b) fun q => (h.tok t b q).1)
  refine ⟨fun t => ?_, h.dis, fun t b hb => ⟨Nat.lt_of_lt_of_le (h.tok t b hb).1 hs, (h.tok t b hb).2⟩, h.hol, fun b hb => Nat.lt_of_lt_of_le (h.frz b hb) hs, h1.trans h.os, h2.trans h.tape, h3.trans h.output, Nat.le_trans h.size hs, fun b hb hn => ?_, h.fz0, h.fz1⟩
  · exact (h.rep t).keep (fun _ q => q) (hFS t) (fun _ q => q) fun h' hon => Held.same _ _ _ rfl (fun _ q => .inl q) fun b hb => hFS h' b (.inr hb)
  · exact (hw b (Nat.lt_of_lt_of_le hb h.size)).trans (h.old b hb hn)
theorem ApartO.grow {o : Obj} {D : Nat} (h : ApartO B w Fz S o D) (hw : ∀ b, b < w.heap.size → w'.heap[b]? = w.heap[b]?) : ApartO B w' Fz S o D := ⟨(hw D h.lt).trans h.obj, h.nf, h.no, h.new⟩
theorem simple_on {A : AV} (h : simpleAV A = true) : ∀ x, A.on x = false := by
  intro x
  cases A with
  | clo f caps =>
    simp only [simpleAV] at h
    simp only [AV.on]
    induction caps with
    | nil => rfl
    | cons c caps ih =>
      cases c with
      | fp cs =>
        simp only [fpCaps, Option.isSome_map] at h
        simp only [List.any_cons, Bool.false_or]
        exact ih h
      | _ => simp [fpCaps] at h
  | w c => rfl
  | a cs => rfl
  | box cs => rfl
  | fp cs => rfl
  | _ => simp [simpleAV] at h
theorem keepG_getD (G : List Nat) (σ : List AV) (t : Nat) : (keepG G σ).getD t .u = if G.contains t && simpleAV (σ.getD t .u) then σ.getD t .u else .u := by
  unfold keepG
  rw [List.getD_eq_getElem?_getD, List.getElem?_mapIdx, List.getD_eq_getElem?_getD]
  cases h : σ[t]? with
  | none => simp
  | some v => simp
theorem keepG_length (G : List Nat) (σ : List AV) : (keepG G σ).length = σ.length := by simp [keepG]
theorem keepG_on (G : List Nat) (σ : List AV) (t x : Nat) : ((keepG G σ).getD t .u).on x = false := by
  rw [keepG_getD]
  split
  · rename_i h
    simp only [Bool.and_eq_true] at h
    exact simple_on h.2 x
  · rfl
theorem St.keepG (h : St B K σ vals w Fz S) (hv : ∀ t ∈ G, vals' t = vals t) : St B K (keepG G σ) vals' w Fz S := by
  refine ⟨fun t => ?_, h.dis, h.tok, fun t x hon => ?_, h.frz, h.os, h.tape, h.output, h.size, h.old, h.fz0, h.fz1⟩
  · rw [keepG_getD]
    split
    · rename_i hc
      simp only [Bool.and_eq_true, List.contains_iff_mem] at hc
      rw [hv t hc.1]
      exact (h.rep t).keep (fun _ q => q) (fun _ _ => rfl) (fun _ q => q) fun x hon => by rw [simple_on hc.2 x] at hon; simp at hon
    · trivial
  · rw [keepG_on] at hon; simp at hon
def PlainAV (w : World) (Fz : BSet) (A : AV) (v : Value) : Prop := (∃ c, A = .w (.p c) ∧ RepP w Fz c v) ∨ (∃ (cs : List PV) (us : List Value), A = .a (cs.map .p) ∧ v = .agg us.toArray ∧ RepL w Fz (cs.map .p) us (fun _ => False))
theorem PlainAV.keep {A : AV} {v : Value} (h : PlainAV w Fz A v) (hF : ∀ b, Fz b → Fz' b) (hw : ∀ b, Fz b → w'.heap[b]? = w.heap[b]?) : PlainAV w' Fz' A v := by
  rcases h with ⟨c, e, h⟩ | ⟨cs, us, e, e2, h⟩
  · exact .inl ⟨c, e, h.keep hF hw⟩
  · exact .inr ⟨cs, us, e, e2, h.keep hF (fun b q => q.elim (hw b) fun q => q.elim) fun _ q => q⟩
theorem PlainAV.on {A : AV} {v : Value} (h : PlainAV w Fz A v) (x : Nat) : A.on x = false := by
  rcases h with ⟨c, rfl, h⟩ | ⟨cs, us, rfl, e2, h⟩ <;> rfl
def RowRep (w : World) (Fz : BSet) : List AV → List Value → Prop
  | [], [] => True
  | A :: r, v :: vs => PlainAV w Fz A v ∧ RowRep w Fz r vs
  | _, _ => False
theorem RowRep.len : ∀ {r : List AV} {vs : List Value}, RowRep w Fz r vs → vs.length = r.length
  | [], [], _ => rfl
  | A :: r, v :: vs, h => by simp [RowRep.len h.2]
  | [], _ :: _, h => h.elim
  | _ :: _, [], h => h.elim
theorem RowRep.keep (hF : ∀ b, Fz b → Fz' b) (hw : ∀ b, Fz b → w'.heap[b]? = w.heap[b]?) : ∀ {r : List AV} {vs : List Value}, RowRep w Fz r vs → RowRep w' Fz' r vs
  | [], [], _ => trivial
  | A :: r, v :: vs, h => ⟨h.1.keep hF hw, h.2.keep hF hw⟩
  | [], _ :: _, h => h.elim
  | _ :: _, [], h => h.elim
theorem St.putP {p : Nat} {A : AV} {x : Value} (h : St B K σ vals w Fz S) (hs : ∀ t y, (σ.getD t .u).on y = false) (hp : p < σ.length) (hA : PlainAV w Fz A x) : St B K (σ.set p A) (upd vals p x) w Fz S ∧ ∀ t y, ((σ.set p A).getD t .u).on y = false := by
  have hon : ∀ t y, ((σ.set p A).getD t .u).on y = false := fun t y => by
    rw [getD_set]
    by_cases ht : t = p
    · rw [if_pos ht, if_pos hp]; exact hA.on y
    · rw [if_neg ht]; exact hs t y
  refine ⟨⟨fun t => ?_, h.dis, h.tok, fun t y ho => by rw [hon] at ho; simp at ho, h.frz, h.os, h.tape, h.output, h.size, h.old, h.fz0, h.fz1⟩, hon⟩
  rw [getD_set]
  by_cases ht : t = p
  · subst ht
    rw [if_pos rfl, if_pos hp]
    simp only [upd, if_true]
    rcases hA with ⟨c, rfl, hc⟩ | ⟨cs, us, rfl, rfl, hc⟩
    · exact .p hc
    · exact ⟨us, rfl, hc.mono fun _ q => q.elim⟩
  · rw [if_neg ht]
    simp only [upd, if_neg ht]
    exact (h.rep t).keep (fun _ q => q) (fun _ _ => rfl) (fun _ q => q) fun y ho => by rw [hs] at ho; simp at ho
def setTs : List Tmp → List Value → Array Value → Array Value
  | p :: ps, v :: vs, t => setTs ps vs (t.setIfInBounds p v)
  | _, _, t => t
theorem setTs_eq : ∀ (ps : List Tmp) (vs : List Value) (t : Array Value), (ps.zip vs).foldl (fun t (p, v) => t.setIfInBounds p v) t = setTs ps vs t
  | [], _, t => by simp [setTs]
  | _ :: _, [], t => by simp [setTs]
  | p :: ps, v :: vs, t => by rw [List.zip_cons_cons, List.foldl_cons, setTs_eq ps vs]; rfl
theorem setTs_size : ∀ (ps : List Tmp) (vs : List Value) (t : Array Value), (setTs ps vs t).size = t.size
  | [], _, t => by simp [setTs]
  | _ :: _, [], t => by simp [setTs]
  | p :: ps, v :: vs, t => by rw [setTs, setTs_size ps vs]; simp
theorem setTs_keep : ∀ (ps : List Tmp) (vs : List Value) (t : Array Value) (x : Nat), x ∉ ps → (setTs ps vs t)[x]? = t[x]?
  | [], _, t, x, _ => by simp [setTs]
  | _ :: _, [], t, x, _ => by simp [setTs]
  | p :: ps, v :: vs, t, x, h => by
    simp only [List.mem_cons, not_or] at h
    rw [setTs, setTs_keep ps vs _ x h.2, Array.getElem?_setIfInBounds, if_neg (fun e => h.1 e.symm)]
theorem St.putPs : ∀ {ps : List Tmp} {row : List AV} {vs : List Value} {σ : List AV} {tm : Array Value}, St B K σ (fun t => tm.getD t undef) w Fz S → tm.size = σ.length → (∀ t y, (σ.getD t .u).on y = false) → (∀ p ∈ ps, p < σ.length) → RowRep w Fz row vs →
    St B K (putPs ps row σ) (fun t => (setTs ps vs tm).getD t undef) w Fz S ∧ (putPs ps row σ).length = σ.length
  | [], row, vs, σ, tm, h, _, _, _, _ => by simp only [Go.Pv.putPs, setTs]; exact ⟨h, trivial⟩
  | p :: ps, [], [], σ, tm, h, _, _, _, _ => by simp only [Go.Pv.putPs, setTs]; exact ⟨h, trivial⟩
  | p :: ps, A :: row, v :: vs, σ, tm, h, hsz, hs, hps, hr => by
    simp only [Go.Pv.putPs, setTs]
    have hp := hps p (by simp)
    obtain ⟨h1, h2⟩ := h.putP hs hp hr.1
    have e : (fun t => (tm.setIfInBounds p v).getD t undef) = upd (fun t => tm.getD t undef) p v := by
      funext t
      simp only [upd, Array.getD_eq_getD_getElem?, Array.getElem?_setIfInBounds]
      by_cases ht : t = p
      · subst ht; rw [if_pos rfl, if_pos (by rw [hsz]; exact hp), if_pos rfl]; rfl
      · rw [if_neg (fun e => ht e.symm), if_neg ht]
    rw [← e] at h1
    obtain ⟨h3, h4⟩ := St.putPs (ps := ps) h1 (by simp [hsz]) h2 (fun q hq => by rw [List.length_set]; exact hps q (by simp [hq])) hr.2
    exact ⟨h3, h4.trans (List.length_set ..)⟩
  | _ :: _, [], _ :: _, _, _, _, _, _, _, h => h.elim
  | _ :: _, _ :: _, [], _, _, _, _, _, _, h => h.elim
theorem run_len {α : Type} {x : α} (p : Pg α) : ∀ {σ σ' : List AV}, p.run σ = some (x, σ') → σ'.length = σ.length := by
  induction p with
  | ret y => intro σ σ' h; simp only [Pg.run, Option.some.injEq, Prod.mk.injEq] at h; rw [← h.2]
  | fail => intro σ σ' h; simp [Pg.run] at h
  | get t k ih => intro σ σ' h; exact ih _ h
  | put t v k ih => intro σ σ' h; exact (ih h).trans (List.length_set ..)
  | kill c ts k ih => intro σ σ' h; exact (ih h).trans (killL_len c ts σ)
  | getl t k ih => intro σ σ' h; exact ih _ h
  | pute t v k ih =>
    intro σ σ' h
    simp only [Pg.run] at h
    split at h
    · exact (ih h).trans (List.length_set ..)
    · simp at h
theorem ops_len {callf : Nat → List AV → Option CRes} : ∀ (os : List IOper) {σ σ' : List AV}, runOps K callf os σ = some σ' → σ'.length = σ.length
  | [], σ, σ', h => by simp only [runOps, Option.some.injEq] at h; rw [h]
  | o :: os, σ, σ', h => by
    simp only [runOps, Option.bind_eq_some_iff] at h
    obtain ⟨⟨u, σ1⟩, h1, h2⟩ := h
    exact (ops_len os h2).trans (run_len _ h1)
theorem ev_len : ∀ (code : Code) (k : Nat) {H : Hints} {c : IC} {σ σ' : List AV} {ex : Ex}, simpleC code = true → codeOf P G H code = some c → evC E k K c σ = some (ex, σ') → σ'.length = σ.length := by
  intro code
  induction code with
  | seq x y ihx ihy =>
    intro k H c σ σ' ex hs hc h
    cases k with
    | zero => simp [evC] at h
    | succ k =>
      simp only [simpleC, Bool.and_eq_true] at hs
      simp only [codeOf] at hc
      split at hc
      · rename_i x' y' hx hy
        simp only [Option.some.injEq] at hc
        subst hc
        simp only [evC] at h
        split at h
        · rename_i σ2 h1
          exact (ihy k hs.2 hy h).trans (ihx k hs.1 hx h1)
        · exact ihx k hs.1 hx h
      · simp at hc
  | cond x a1 b1 iha ihb =>
    intro k H c σ σ' ex hs hc h
    cases k with
    | zero => simp [evC] at h
    | succ k =>
      simp only [simpleC, Bool.and_eq_true] at hs
      simp only [codeOf] at hc
      split at hc
      · rename_i c' a' b' hx ha hb
        simp only [Option.some.injEq] at hc
        subst hc
        simp only [evC] at h
        split at h
        · rename_i t σ2 ht
          cases t with
          | true => exact iha k hs.1 ha h
          | false => exact ihb k hs.2 hb h
        · simp at h
      · simp at hc
  | block id x ihx =>
    intro k H c σ σ' ex hs hc h
    cases k with
    | zero => simp [evC] at h
    | succ k =>
      simp only [simpleC] at hs
      simp only [codeOf, Option.map_eq_some_iff] at hc
      obtain ⟨x', hx, rfl⟩ := hc
      simp only [evC] at h
      split at h
      · rename_i id' σ2 h1
        have := ihx k hs hx h1
        split at h
        · simp only [Option.some.injEq, Prod.mk.injEq] at h
          rw [← h.2]; exact this
        · simp only [Option.some.injEq, Prod.mk.injEq] at h
          rw [← h.2]; exact this
      · exact ihx k hs hx h
  | region id ops b =>
    intro k H c σ σ' ex hs hc h
    cases k with
    | zero => simp [evC] at h
    | succ k =>
      cases b with
      | true => simp [simpleC] at hs
      | false =>
        simp only [codeOf, Option.map_eq_some_iff] at hc
        obtain ⟨ios, hios, rfl⟩ := hc
        simp only [evC, Option.map_eq_some_iff, Prod.mk.injEq] at h
        obtain ⟨σ2, h1, _, rfl⟩ := h
        exact ops_len _ h1
  | skip =>
    intro k H c σ σ' ex hs hc h
    cases k with
    | zero => simp [evC] at h
    | succ k =>
      simp only [codeOf, Option.some.injEq] at hc
      subst hc
      simp only [evC, Option.some.injEq, Prod.mk.injEq] at h
      rw [h.2]
  | exit id =>
    intro k H c σ σ' ex hs hc h
    cases k with
    | zero => simp [evC] at h
    | succ k =>
      simp only [codeOf, Option.some.injEq] at hc
      subst hc
      simp only [evC, Option.some.injEq, Prod.mk.injEq] at h
      rw [h.2]
  | _ => intro k H c σ σ' ex hs; simp [simpleC] at hs
theorem go_lens {fa fb : List AV → Option (Ex × List AV)} {ps : List Nat} {r : Ex × List AV} : ∀ {rows : List (List AV)} {σ : List AV}, rangeGo fa fb ps G rows σ = some r → ∀ row ∈ rows, row.length = ps.length
  | [], σ, h, row, hr => by simp at hr
  | row1 :: rows, σ, h, row, hr => by
    simp only [rangeGo] at h
    split at h
    case isFalse => simp at h
    rename_i hl
    split at h
    case h_2 => simp at h
    split at h
    case h_2 => simp at h
    rcases List.mem_cons.1 hr with rfl | q
    · exact hl
    · exact go_lens h row q
theorem fp_caps {t : Nat} : ∀ {caps : List AV} {cvs : List Value} {cs : List (List PV)}, RepCaps vals w Fz S K t caps cvs → fpCaps caps = some cs → cvs.length = cs.length ∧ ∀ (j : Nat) (c : List PV) (v : Value), cs[j]? = some c → cvs[j]? = some v → RepFp w Fz c v
  | [], [], cs, _, h => by
    simp only [fpCaps, Option.some.injEq] at h
    subst h
    exact ⟨rfl, fun j c v hc => by simp at hc⟩
  | .fp c0 :: r, v :: vs, cs, ⟨h1, h3⟩, h => by
    simp only [fpCaps, Option.map_eq_some_iff] at h
    obtain ⟨cs', hcs, rfl⟩ := h
    obtain ⟨e1, e2⟩ := fp_caps h3 hcs
    refine ⟨by simp [e1], fun j c v' hc hv => ?_⟩
    cases j with
    | zero => simp at hc hv; subst hc; subst hv; exact h1
    | succ j => exact e2 j c v' (by simpa using hc) (by simpa using hv)
  | [], _ :: _, _, h, _ => by simp [RepCaps] at h
  | .fp _ :: _, [], _, h, _ => by simp [RepCaps] at h
  | .w _ :: _, _, _, _, h => by simp [fpCaps] at h
  | .a _ :: _, _, _, _, h => by simp [fpCaps] at h
  | .ptr _ :: _, _, _, _, h => by simp [fpCaps] at h
  | .u :: _, _, _, _, h => by simp [fpCaps] at h
  | .t _ :: _, _, _, _, h => by simp [fpCaps] at h
  | .box _ :: _, _, _, _, h => by simp [fpCaps] at h
  | .al _ _ _ :: _, _, _, _, h => by simp [fpCaps] at h
  | .sv _ _ _ _ :: _, _, _, _, h => by simp [fpCaps] at h
  | .clo _ _ :: _, _, _, _, h => by simp [fpCaps] at h
  | .mp _ :: _, _, _, _, h => by simp [fpCaps] at h
  | .it _ _ :: _, _, _, _, h => by simp [fpCaps] at h
  | .ln _ :: _, _, _, _, h => by simp [fpCaps] at h
structure IterOk (P : Program) (gf : Nat) (kd : ItKind) (z : Nat) : Prop where
  enters : ∀ args w, (callFunc gf args).run P w = .ok (.enter gf args) w
  gives : ∀ (cells : List (List PV)) (rows : List (List AV)) (w : World) (Fz : BSet) (cvs : List Value), rowsOf kd z cells = some rows → cvs.length = cells.length →
    (∀ (j : Nat) (c : List PV) (v : Value), cells[j]? = some c → cvs[j]? = some v → RepFp w Fz c v) → (∀ b, Fz b → b < w.heap.size) →
    ∃ encs : Nat → Array Value, (∀ k row, rows[k]? = some row → RowRep w Fz row (encs k).toList) ∧ Yields P gf cvs.toArray encs rows.length Fz w
structure RSt (B : Base I) (K : Kills) (σ : List AV) (a : Act) (W : World) (F0 : BSet) (w : World) (Ds : List Nat) : Prop where
  out : ∃ Fz S, St B K σ (valsOf a) W Fz S ∧ a.tmps.size = σ.length ∧ (∀ k, σ.length ≤ k → ∀ b, ¬ S k b) ∧ (∀ b, F0 b → Fz b) ∧ KeepB F0 w W ∧ (∃ o, ApartO B W Fz S o (w.heap.size + 1)) ∧ ∀ D ∈ w.heap.size :: Ds, Apart B W Fz S D
theorem RSt.turn {F0 : BSet} {Ds : List Nat} {W : World} {o : Obj} (h : RSt B K σ a W F0 w Ds) (hF : ¬ F0 (w.heap.size + 1)) (hD : ∀ D ∈ w.heap.size :: Ds, D ≤ w.heap.size) : RSt B K σ a (W.putObj (w.heap.size + 1) o) F0 w Ds := by
  obtain ⟨Fz, S, h1, h2, h3, h4, h5, ⟨o1, h6⟩, h7⟩ := h
  exact ⟨Fz, S, h1.turn h6, h2, h3, h4, h5.trans (KeepB.put hF), ⟨o, World.putObj_heap_same h6.lt, h6.nf, h6.no, h6.new⟩, fun D q => (h7 D q).turn (by have := hD D q; omega)⟩
theorem RSt.step {F0 : BSet} {Ds : List Nat} {W : World} {G1 : List Nat} {v1 : Nat → Option Value} {code : Code} {ex : Ex}
    (hrun : ∀ B' : Base I, InvM B' K G1 v1 σ a W → code.wpIn (Fence.wide.inRound l) n P (fun e a' w' => e = ex.exit' ∧ InvM B' K G1 v1 σ' a' w' ∧ a'.defers = a.defers) a W)
    (h : RSt B K σ a W F0 w Ds) (hd : a.defers = []) (hv : ∀ t ∈ G1, a.tmps[t]? = v1 t) :
    code.wpIn (Fence.wide.inRound l) n P (fun e a' w' => e = ex.exit' ∧ RSt B K σ' a' w' F0 w Ds ∧ a'.defers = [] ∧ (∀ t ∈ G1, a'.tmps[t]? = v1 t) ∧ KeepB (fun b => F0 b ∨ b = w.heap.size ∨ b = w.heap.size + 1) W w') a W := by
  obtain ⟨Fz, S, h1, h2, h3, h4, h5, ⟨o1, h6⟩, h7⟩ := h
  refine wpIn_mono (hrun (B.at_ h1 []) ⟨[], by rw [hd]; rfl, List.nodup_nil, h2, hv, Fz, S, h1.rebase _, h3, fun D q => by simp at q⟩) ?_
  rintro e a' w' ⟨he, hI, hd'⟩
  obtain ⟨Ds', k1, k2, k3, k4, Fz', S', k5, k6, k7⟩ := hI.out
  have hsame : ∀ b, b < W.heap.size → (∀ t, ¬ S t b) → w'.heap[b]? = W.heap[b]? := fun b hb hn => k5.old b hb fun ⟨t, q⟩ => hn t q
  have hkF : KeepB F0 W w' := fun b hb => hsame b (h1.frz b (h4 b hb)) fun t q => (h1.tok t b q).2.1 (h4 b hb)
  refine ⟨he, ⟨Fz', S', h1.unbase k5, k3, k6, fun b hb => k5.fz0 b (h4 b hb), h5.trans hkF, ⟨o1, h6.step h1 k5⟩, fun D q => (h7 D q).step h1 k5⟩, hd'.trans hd, k4, fun b hb => ?_⟩
  rcases hb with q | rfl | rfl
  · exact hkF b q
  · have := h7 _ (List.mem_cons_self ..)
    exact hsame _ this.lt this.no
  · exact hsame _ h6.lt h6.no
theorem drop_cons {α : Type} {rows : List α} {k : Nat} {row : α} (h : rows[k]? = some row) : rows.drop k = row :: rows.drop (k + 1) := by
  obtain ⟨h1, rfl⟩ := List.getElem?_eq_some_iff.1 h
  exact List.drop_eq_getElem_cons h1
theorem range_ok {x : Nat} {ps : Array Tmp} {asg body : Code} {G1 : List Nat} {ca cb : IC} {H : Hints} {k : Nat} {gf : Nat} {caps : List AV} {cs : List (List PV)} {kd : ItKind} {z : Nat} {rows : List (List AV)} {ex : Ex}
    (hg : ∀ j, j < k → GoodF I P (callBody E (evC E j))) (hit : IterOk P gf kd z) (hsa : simpleC asg = true) (hsb : simpleC body = true) (hpG : ∀ p ∈ ps.toList, p ∉ G1) (hca : codeOf P G1 H asg = some ca) (hcb : codeOf P G1 H body = some cb)
    (hx : σ.getD x .u = .clo gf caps) (hcs : fpCaps caps = some cs) (hrows : rowsOf kd z cs = some rows) (hps : ∀ p ∈ ps.toList, p < σ.length)
    (hgo : rangeGo (evC E k K ca) (evC E k K cb) ps.toList G1 rows (keepG G1 σ) = some (ex, σ')) (hI : InvM B K G v0 σ a w) (hk : ∀ a' w', InvM B K G v0 σ' a' w' → Q ex.exit' a' w') :
    (Code.rangeFunc (.tmp x) ps asg body).wp P Q a w := by
  obtain ⟨Ds, d1, d2, d3, d4, Fz, S, st, hfree, hap⟩ := hI.out
  have hrep := st.rep x
  rw [hx] at hrep
  obtain ⟨cvs, e1, hcaps⟩ := hrep
  obtain ⟨c1, c2⟩ := fp_caps hcaps hcs
  obtain ⟨encs, hrow, hY⟩ := hit.gives cs rows w Fz cvs hrows c1 c2 st.frz
  have hlens := go_lens hgo
  have hnl : ¬ Fz (w.heap.size + 1) := fun q => absurd (st.frz _ q) (by omega)
  have hDle : ∀ D ∈ w.heap.size :: Ds, D ≤ w.heap.size := fun D hD => by
    rcases List.mem_cons.1 hD with rfl | q
    · exact Nat.le_refl _
    · exact Nat.le_of_lt (hap D q).lt
  refine yields_range (F := Fz) (gf := gf) (lb := cvs.toArray) (encs := encs) (N := rows.length) e1 hit.enters (fun k' hk' => ?_) st.frz hY
    (fun k' W => ∃ σk, rangeGo (evC E k K ca) (evC E k K cb) ps.toList G1 (rows.drop k') σk = some (ex, σ') ∧ (∀ t y, (σk.getD t .u).on y = false) ∧ σk.length = σ.length ∧ RSt B K σk { a with defers := [] } W Fz w Ds)
    (fun k' a1 W => ∃ σ1 σ2, evC E k K cb σ1 = some (.nor, σ2) ∧ rangeGo (evC E k K ca) (evC E k K cb) ps.toList G1 (rows.drop (k' + 1)) (keepG G1 σ2) = some (ex, σ') ∧ σ1.length = σ.length ∧ a1.defers = [] ∧ (∀ t ∈ G1, a1.tmps[t]? = a.tmps[t]?) ∧ RSt B K σ1 a1 W Fz w Ds)
    (fun o => ?_) (fun k' W o ⟨σk, h1, h2, h3, h4⟩ => ⟨σk, h1, h2, h3, h4.turn hnl hDle⟩) (fun k' a1 W o ⟨σ1, σ2, h1, h2, h3, h4, h5, h6⟩ => ⟨σ1, σ2, h1, h2, h3, h4, h5, h6.turn hnl hDle⟩) (fun k' W hJ hk' => ?_) (fun k' a1 W hA hk' => ?_) (fun W hJ hD => ?_)
  · -- as many parameters
    obtain ⟨row, hr⟩ : ∃ row, rows[k']? = some row := ⟨_, List.getElem?_eq_getElem hk'⟩
    have := (hrow k' row hr).len
    have := hlens row (List.mem_of_getElem? hr)
    simp only [Array.length_toList] at *
    omega
  · -- the loop's own blocks are laid
    have hw : ∀ b, b < w.heap.size → ((w.alloc (.deferred (some []))).alloc o).heap[b]? = w.heap[b]? := fun b hb =>
      (Below.heap_alloc _ _ _ (by simp; omega)).trans (Below.heap_alloc _ _ _ hb)
    have st1 := (st.keepG (G := G1) (vals' := valsOf a) fun _ _ => rfl).grow (w' := (w.alloc (.deferred (some []))).alloc o) hw (by simp; omega) rfl rfl rfl
    have fresh : ∀ b, w.heap.size ≤ b → ¬ Fz b ∧ (∀ t, ¬ S t b) ∧ B.w0.heap.size ≤ b := fun b hb =>
      ⟨fun q => absurd (st.frz b q) (by omega), fun t q => absurd (st.tok t b q).1 (by omega), Nat.le_trans st.size hb⟩
    refine ⟨keepG G1 σ, by rw [List.drop_zero]; exact hgo, keepG_on G1 σ, keepG_length G1 σ, Fz, S, st1, by rw [keepG_length]; exact d3, fun t ht => hfree t (by rwa [keepG_length] at ht), fun _ q => q, fun b hb => hw b (st.frz b hb), ⟨o, ?_⟩, fun D hD => ?_⟩
    · obtain ⟨f1, f2, f3⟩ := fresh (w.heap.size + 1) (by omega)
      exact ⟨by simpa using World.alloc_heap_new (w.alloc (.deferred (some []))) o, f1, f2, f3⟩
    · rcases List.mem_cons.1 hD with rfl | q
      · obtain ⟨f1, f2, f3⟩ := fresh w.heap.size (Nat.le_refl _)
        exact ⟨(Below.heap_alloc _ _ _ (by simp)).trans (World.alloc_heap_new w _), f1, f2, f3⟩
      · exact (hap D q).grow hw
  · -- the parameters are set, the left sides assigned
    obtain ⟨σk, g1, g2, g3, hR⟩ := hJ
    obtain ⟨row, hr⟩ : ∃ row, rows[k']? = some row := ⟨_, List.getElem?_eq_getElem hk'⟩
    rw [drop_cons hr] at g1
    simp only [rangeGo] at g1
    split at g1
    case isFalse => simp at g1
    rename_i hlen
    split at g1
    case h_2 => simp at g1
    rename_i σ1 ga
    split at g1
    case h_2 => simp at g1
    rename_i σ2 gb
    have ea : (ps.zip (encs k')).foldl (fun t (p, v) => t.setIfInBounds p v) a.tmps = setTs ps.toList (encs k').toList a.tmps := by
      rw [← Array.foldl_toList, Array.toList_zip, setTs_eq]
    rw [ea]
    obtain ⟨Fz1, S1, r1, r2, r3, r4, r5, r6, r7⟩ := hR.out
    obtain ⟨p1, p2⟩ := St.putPs (ps := ps.toList) (tm := a.tmps) r1 r2 g2 (fun p hp => by rw [g3]; exact hps p hp) ((hrow k' row hr).keep r4 r5)
    have hR2 : RSt B K (putPs ps.toList row σk) { tmps := setTs ps.toList (encs k').toList a.tmps, defers := [] } W Fz w Ds :=
      ⟨Fz1, S1, p1, by rw [setTs_size, p2]; exact r2, fun t ht => r3 t (by rwa [p2] at ht), r4, r5, r6, r7⟩
    refine wpIn_mono (hR2.step (G1 := G1) (v1 := fun t => a.tmps[t]?) (ex := .nor) (fun B' hI' => ev_round asg k hg hsa hca ga hI') rfl fun t ht => setTs_keep _ _ _ _ fun q => hpG t q ht) ?_
    rintro e a1 W1 ⟨he, hS, hd, hv, hkb⟩
    exact ⟨he, ⟨σ1, σ2, gb, g1, (ev_len asg k hsa hca ga).trans (p2.trans g3), hd, hv, hS⟩, hkb⟩
  · -- the body
    obtain ⟨σ1, σ2, gb, g1, g3, hd, hv, hR⟩ := hA
    refine wpIn_mono (hR.step (G1 := G1) (v1 := fun t => a.tmps[t]?) (ex := .nor) (fun B' hI' => ev_round body k hg hsb hcb gb hI') hd hv) ?_
    rintro e a2 W2 ⟨he, hS, _, hv2, hkb⟩
    obtain ⟨Fz2, S2, r1, r2, r3, r4, r5, r6, r7⟩ := hS.out
    have hl2 := ev_len body k hsb hcb gb
    have r1' := r1.keepG (G := G1) (vals' := valsOf a) fun t ht => by
      simp only [valsOf, Array.getD_eq_getD_getElem?]
      rw [hv2 t ht]
    exact ⟨he, ⟨keepG G1 σ2, g1, keepG_on G1 σ2, by rw [keepG_length, hl2, g3], Fz2, S2, r1', by rw [keepG_length, hl2, g3]; exact d3, fun t ht => r3 t (by rwa [keepG_length] at ht), r4, r5, r6, r7⟩, hkb⟩
  · -- the end
    obtain ⟨σk, g1, g2, g3, hR⟩ := hJ
    rw [List.drop_length] at g1
    simp only [rangeGo, Option.some.injEq, Prod.mk.injEq] at g1
    obtain ⟨rfl, rfl⟩ := g1
    obtain ⟨Fz1, S1, r1, r2, r3, r4, r5, r6, r7⟩ := hR.out
    refine hk _ _ ⟨w.heap.size :: Ds, by rw [d1]; rfl, List.nodup_cons.2 ⟨fun q => absurd (hap _ q).lt (by omega), d2⟩, r2, d4, Fz1, S1, r1, r3, r7⟩
end
end Go.Pv
end

section
namespace Go.Pv
open Go.RowKit
set_option linter.unusedVariables false
set_option linter.unusedSimpArgs false
section
variable {G : List Nat} {v0 : Nat → Option Value} {P : Program} {I : World → Prop} {B : Base I} {K : Kills} {σ σ' σ1 : List AV} {w w' : World} {a : Act} {Q : Exit → Act → World → Prop} {E : Env}
theorem after_ok {H : Hints} {l : Nat} : ∀ {code : Code} {c : IC}, codeOf P G H code = some c → (∀ r, c.after l = some r → ∃ r', findLabel code l = some r' ∧ codeOf P G H r' = some r) ∧ (c.after l = none → findLabel code l = none) := by
  intro code
  induction code with
  | seq a b iha ihb =>
    intro c h
    simp only [codeOf] at h
    split at h
    · rename_i a' b' ha hb
      simp only [Option.some.injEq] at h
      subst h
      obtain ⟨a1, a2⟩ := iha ha
      obtain ⟨b1, b2⟩ := ihb hb
      simp only [IC.after, findLabel]
      cases hca : a'.after l with
      | some r =>
        obtain ⟨r', e1, e2⟩ := a1 r hca
        refine ⟨fun r2 h2 => ?_, fun h2 => by simp at h2⟩
        simp only [Option.some.injEq] at h2
        subst h2
        rw [e1]
        exact ⟨_, rfl, by simp [codeOf, e2, hb]⟩
      | none =>
        rw [a2 hca]
        exact ⟨fun r2 h2 => b1 r2 h2, fun h2 => b2 h2⟩
    · simp at h
  | label l' =>
    intro c h
    simp only [codeOf, Option.some.injEq] at h
    subst h
    simp only [IC.after, findLabel, beq_iff_eq]
    split
    · exact ⟨fun r h => by simp at h; subst h; exact ⟨_, rfl, rfl⟩, fun h => by simp at h⟩
    · exact ⟨fun r h => by simp at h, fun _ => rfl⟩
  | region id ops b =>
    intro c h
    cases b with
    | false => simp only [codeOf, Option.map_eq_some_iff] at h; obtain ⟨x, _, rfl⟩ := h; exact ⟨fun r h => by simp [IC.after] at h, fun _ => rfl⟩
    | true =>
      simp only [codeOf] at h
      split at h
      · simp only [Option.map_eq_some_iff] at h; obtain ⟨x, _, rfl⟩ := h; exact ⟨fun r h => by simp [IC.after] at h, fun _ => rfl⟩
      · simp at h
  | cond x a b iha ihb =>
    intro c h
    simp only [codeOf] at h
    split at h
    · simp only [Option.some.injEq] at h; subst h; exact ⟨fun r h => by simp [IC.after] at h, fun _ => rfl⟩
    · simp at h
  | rangeFunc g ps asg body =>
    intro c h
    cases g with
    | tmp x =>
      simp only [codeOf] at h
      split at h
      · split at h
        · simp only [Option.some.injEq] at h; subst h; exact ⟨fun r h => by simp [IC.after] at h, fun _ => rfl⟩
        · simp at h
      · simp at h
    | _ => simp [codeOf] at h
  | _ => first
    | (intro c h; simp only [codeOf, Option.some.injEq] at h; subst h; exact ⟨fun r h => by simp [IC.after] at h, fun _ => rfl⟩)
    | (intro c h; simp only [codeOf, Option.map_eq_some_iff] at h; obtain ⟨x, _, rfl⟩ := h; exact ⟨fun r h => by simp [IC.after] at h, fun _ => rfl⟩)
    | (intro c h; simp [codeOf] at h)
def EvOk (I : World → Prop) (P : Program) (E : Env) (k : Nat) : Prop :=
  ∀ (B : Base I) (K : Kills) (G : List Nat) (v0 : Nat → Option Value) (H : Hints) (code : Code) (c : IC) (σ σ' : List AV) (ex : Ex) (a : Act) (w : World) (Q : Exit → Act → World → Prop),
    codeOf P G H code = some c → evC E k K c σ = some (ex, σ') → InvM B K G v0 σ a w → (∀ a' w', InvM B K G v0 σ' a' w' → Q ex.exit' a' w') → code.wp P Q a w
theorem leap_ok {H : Hints} {code : Code} {c : IC} (hc : codeOf P G H code = some c) : ∀ (k : Nat), (∀ j, j < k → EvOk I P E j) → ∀ (ex ex' : Ex) (σ1 σ' : List AV), evC.leap E k K c (some (ex, σ1)) = some (ex', σ') →
    ∀ a w, InvM B K G v0 σ1 a w → (∀ a' w', InvM B K G v0 σ' a' w' → Q ex'.exit' a' w') → Leaps P code Q ex.exit' a w
  | 0, _, ex, ex', σ1, σ', h, a, w, hI, hk => by simp [evC.leap] at h
  | k + 1, hE, ex, ex', σ1, σ', h, a, w, hI, hk => by
    cases ex with
    | goto l =>
      simp only [evC.leap] at h
      split at h
      · rename_i rest hr
        obtain ⟨r', e1, e2⟩ := (after_ok (l := l) hc).1 rest hr
        have : ∃ ex2 σ2, evC E k K rest σ1 = some (ex2, σ2) := by
          cases k with
          | zero => simp [evC.leap] at h
          | succ k =>
            cases hx : evC E (k + 1) K rest σ1 with
            | none => rw [hx] at h; simp [evC.leap] at h
            | some x => exact ⟨x.1, x.2, rfl⟩
        obtain ⟨ex2, σ2, h2⟩ := this
        rw [h2] at h
        refine Leaps.leap e1 (hE k (Nat.lt_succ_self k) B K G v0 H r' rest σ1 σ2 ex2 a w _ e2 h2 hI fun a' w' hI' => ?_)
        exact leap_ok hc k (fun j hj => hE j (by omega)) ex2 ex' σ2 σ' h a' w' hI' hk
      · simp at h
    | nor => simp only [evC.leap, Option.some.injEq, Prod.mk.injEq] at h; obtain ⟨rfl, rfl⟩ := h; exact Leaps.normal (hk _ _ hI)
    | ret => simp only [evC.leap, Option.some.injEq, Prod.mk.injEq] at h; obtain ⟨rfl, rfl⟩ := h; exact Leaps.ret (hk _ _ hI)
    | exit id => simp only [evC.leap, Option.some.injEq, Prod.mk.injEq] at h; obtain ⟨rfl, rfl⟩ := h; exact hk _ _ hI
theorem cond_ok {x : Operand} {c : Od} {t : Bool} (hx : odS x = some c) (h : InvM B K G v0 σ a w) (hr : (sc c).run σ = some (.bool t, σ1)) : a.eval x = .bool t := by
  obtain ⟨_, Fz, S, h3, h4⟩ := h.st
  exact repP_bool (sc_ok h3 (odS_ok (a := a) hx) hr).2
theorem rounds_ok {H : Hints} {x : Code} {x' : IC} (hx : codeOf P G H x = some x') : ∀ (k : Nat), (∀ j, j < k → EvOk I P E j) → ∀ (ex : Ex) (σ σ' : List AV), evC E k K (.loop x') σ = some (ex, σ') →
    ∀ a w, InvM B K G v0 σ a w → (∀ a' w', InvM B K G v0 σ' a' w' → Q ex.exit' a' w') → Code.rounds P x Q k a w
  | 0, _, ex, σ, σ', h, a, w, hI, hk => by simp [evC] at h
  | k + 1, hE, ex, σ, σ', h, a, w, hI, hk => by
    have ih0 := hE k (Nat.lt_succ_self k)
    rw [rounds_succ]
    simp only [evC] at h
    split at h
    · rename_i σ2 h1
      exact ih0 B K G v0 H x x' σ σ2 .nor a w _ hx h1 hI fun a' w' hI' => rounds_ok hx k (fun j hj => hE j (by omega)) ex σ2 σ' h a' w' hI' hk
    · rename_i hno
      refine ih0 B K G v0 H x x' σ σ' ex a w _ hx h hI fun a' w' hI' => ?_
      cases ex with
      | nor => exact absurd h (hno _)
      | exit id => exact hk _ _ hI'
      | goto l => exact hk _ _ hI'
      | ret => exact hk _ _ hI'
theorem ev_ok (hm : P.follows .mixedOrders = true) (hit : ∀ gf kd z, E.it gf = some (kd, z) → IterOk P gf kd z) : ∀ k, (∀ j, j < k → GoodF I P (callBody E (evC E j))) → EvOk I P E k := by
  intro k
  induction k using Nat.strongRecOn with
  | _ k ih =>
    intro hg B K G v0 H code c σ σ' ex a w Q hc h hI hk
    have ih' : ∀ j, j < k → EvOk I P E j := fun j hj => ih j hj fun i hi => hg i (by omega)
    cases k with
    | zero => simp [evC] at h
    | succ k =>
    have hg0 := hg k (Nat.lt_succ_self k)
    have ih0 := ih' k (Nat.lt_succ_self k)
    cases code with
    | skip =>
      simp only [codeOf, Option.some.injEq] at hc
      subst hc
      simp only [evC, Option.some.injEq, Prod.mk.injEq] at h
      obtain ⟨rfl, rfl⟩ := h
      exact wp_skip (hk _ _ hI)
    | label l =>
      simp only [codeOf, Option.some.injEq] at hc
      subst hc
      simp only [evC, Option.some.injEq, Prod.mk.injEq] at h
      obtain ⟨rfl, rfl⟩ := h
      exact wp_label (hk _ _ hI)
    | ret =>
      simp only [codeOf, Option.some.injEq] at hc
      subst hc
      simp only [evC, Option.some.injEq, Prod.mk.injEq] at h
      obtain ⟨rfl, rfl⟩ := h
      exact wp_ret (hk _ _ hI)
    | exit id =>
      simp only [codeOf, Option.some.injEq] at hc
      subst hc
      simp only [evC, Option.some.injEq, Prod.mk.injEq] at h
      obtain ⟨rfl, rfl⟩ := h
      exact wp_exit (hk _ _ hI)
    | goto l =>
      simp only [codeOf, Option.some.injEq] at hc
      subst hc
      simp only [evC, Option.some.injEq, Prod.mk.injEq] at h
      obtain ⟨rfl, rfl⟩ := h
      exact wp_goto (hk _ _ hI)
    | region id ops b =>
      cases b with
      | false =>
        simp only [codeOf, Option.map_eq_some_iff] at hc
        obtain ⟨ios, hios, rfl⟩ := hc
        simp only [evC, Option.map_eq_some_iff, Prod.mk.injEq] at h
        obtain ⟨σ2, h1, rfl, rfl⟩ := h
        exact leafM (fun B1 Q hI hk => region_sound hg0 hios hI h1 hk) hI hk
      | true =>
        simp only [codeOf] at hc
        split at hc
        · rename_i he
          simp only [Option.map_eq_some_iff] at hc
          obtain ⟨ios, hios, rfl⟩ := hc
          simp only [evC] at h
          split at h
          · rename_i hap
            simp only [Option.map_eq_some_iff, Prod.mk.injEq] at h
            obtain ⟨σ2, h1, rfl, rfl⟩ := h
            exact leafM (fun B1 Q hI hk => draw_sound hm hg0 hios he hI hap h1 hk) hI hk
          · simp at h
        · simp at hc
    | seq x y =>
      simp only [codeOf] at hc
      split at hc
      · rename_i x' y' hx hy
        simp only [Option.some.injEq] at hc
        subst hc
        simp only [evC] at h
        refine wp_seq ?_
        split at h
        · rename_i σ2 h1
          exact ih0 B K G v0 H x x' σ σ2 .nor a w _ hx h1 hI fun a' w' hI' => ih0 B K G v0 H y y' σ2 σ' ex a' w' Q hy h hI' hk
        · rename_i hno
          refine ih0 B K G v0 H x x' σ σ' ex a w _ hx h hI fun a' w' hI' => ?_
          cases ex with
          | nor => exact absurd h (hno _)
          | exit id => exact hk _ _ hI'
          | goto l => exact hk _ _ hI'
          | ret => exact hk _ _ hI'
      · simp at hc
    | cond x a1 b1 =>
      simp only [codeOf] at hc
      split at hc
      · rename_i c' a' b' hx ha hb
        simp only [Option.some.injEq] at hc
        subst hc
        simp only [evC] at h
        split at h
        · rename_i t σ2 ht
          refine wp_cond (cond_ok hx hI ht) ?_
          cases t with
          | true => exact ih0 B K G v0 H a1 a' σ σ' ex a w Q ha h hI hk
          | false => exact ih0 B K G v0 H b1 b' σ σ' ex a w Q hb h hI hk
        · simp at h
      · simp at hc
    | block id x =>
      simp only [codeOf, Option.map_eq_some_iff] at hc
      obtain ⟨x', hx, rfl⟩ := hc
      simp only [evC] at h
      refine wp_block ?_
      split at h
      · rename_i id' σ2 h1
        split at h
        · rename_i hid
          simp only [Option.some.injEq, Prod.mk.injEq] at h
          obtain ⟨rfl, rfl⟩ := h
          refine ih0 B K G v0 H x x' σ σ2 _ a w _ hx h1 hI fun a' w' hI' => ?_
          simp only [Ex.exit', Exit.inBlock, if_pos hid]
          exact hk _ _ hI'
        · rename_i hid
          simp only [Option.some.injEq, Prod.mk.injEq] at h
          obtain ⟨rfl, rfl⟩ := h
          refine ih0 B K G v0 H x x' σ σ2 _ a w _ hx h1 hI fun a' w' hI' => ?_
          simp only [Ex.exit', Exit.inBlock, if_neg hid]
          exact hk _ _ hI'
      · rename_i hno
        refine ih0 B K G v0 H x x' σ σ' ex a w _ hx h hI fun a' w' hI' => ?_
        cases ex with
        | exit id' => exact absurd h (hno _ _)
        | nor => exact hk _ _ hI'
        | goto l => exact hk _ _ hI'
        | ret => exact hk _ _ hI'
    | loop x =>
      simp only [codeOf, Option.map_eq_some_iff] at hc
      obtain ⟨x', hx, rfl⟩ := hc
      exact wp_loop_rounds (k + 1) (rounds_ok hx (k + 1) ih' ex σ σ' h a w hI hk)
    | scope x =>
      simp only [codeOf, Option.map_eq_some_iff] at hc
      obtain ⟨x', hx, rfl⟩ := hc
      simp only [evC] at h
      refine wp_scope_leaps ?_
      have : ∃ ex2 σ2, evC E k K x' σ = some (ex2, σ2) := by
        cases k with
        | zero => simp [evC.leap] at h
        | succ k =>
          cases hy : evC E (k + 1) K x' σ with
          | none => rw [hy] at h; simp [evC.leap] at h
          | some z => exact ⟨z.1, z.2, rfl⟩
      obtain ⟨ex2, σ2, h2⟩ := this
      rw [h2] at h
      exact ih0 B K G v0 H x x' σ σ2 ex2 a w _ hx h2 hI fun a' w' hI' => leap_ok hx k (fun j hj => ih' j (by omega)) ex2 ex σ2 σ' h a' w' hI' hk
    | rangeFunc g ps asg body =>
      cases g with
      | tmp x =>
        simp only [codeOf] at hc
        split at hc
        case isFalse => simp at hc
        rename_i hcnd
        split at hc
        case h_2 => simp at hc
        rename_i ca cb hca hcb
        simp only [Option.some.injEq] at hc
        subst hc
        simp only [evC] at h
        split at h
        case h_2 => simp at h
        rename_i gf caps hx
        split at h
        case h_2 => simp at h
        rename_i kd z cs hit1 hcs
        split at h
        case h_2 => simp at h
        rename_i rows hrows
        split at h
        case isFalse => simp at h
        rename_i hps
        simp only [Bool.and_eq_true, List.all_eq_true, decide_eq_true_eq] at hcnd hps
        exact range_ok (fun j hj => hg j (by omega)) (hit gf kd z hit1) hcnd.1.1.1 hcnd.1.1.2 (fun p hp q => by have := hcnd.1.2 p hp; simp [q] at this) hca hcb hx hcs hrows hps h hI hk
      | _ => simp [codeOf] at hc
    | _ => simp [codeOf] at hc
end
end Go.Pv
end

section
namespace Go.Pv
open Go.RowKit
set_option linter.unusedVariables false
set_option linter.unusedSimpArgs false
def ResAre (w : World) (Fz : BSet) (T : Nat → BSet) : Nat → List (Bool × List OV) → List Value → Prop
  | _, [], [] => True
  | i, (ag, cs) :: l, u :: us => (∃ vs, valIs ag u vs ∧ RepL w Fz cs vs (T i)) ∧ ResAre w Fz T (i + 1) l us
  | _, _, _ => False
section
variable {G : List Nat} {v0 : Nat → Option Value} {P : Program} {I : World → Prop} {B : Base I} {K : Kills} {σ σ' σ1 : List AV} {vals : Nat → Value} {w w' : World} {Fz Fz' : BSet} {S S' : Nat → BSet} {T : Nat → BSet} {a : Act} {Q : Exit → Act → World → Prop} {E : Env}
theorem ResAre.congr {T' : Nat → BSet} : ∀ {l : List (Bool × List OV)} {us : List Value} {i : Nat}, ResAre w Fz T i l us → (∀ k, i ≤ k → k < i + l.length → T' k = T k) → ResAre w Fz T' i l us
  | [], [], _, _, _ => trivial
  | (ag, cs) :: l, u :: us, i, ⟨⟨vs, h1, h2⟩, h3⟩, hT => ⟨⟨vs, h1, by rw [hT i (Nat.le_refl _) (by simp)]; exact h2⟩, ResAre.congr h3 fun k h1 h2 => hT k (by omega) (by simp; omega)⟩
  | [], _ :: _, _, h, _ => h.elim
  | _ :: _, [], _, h, _ => by simp [ResAre] at h
theorem ResAre.len : ∀ {l : List (Bool × List OV)} {us : List Value} {i : Nat}, ResAre w Fz T i l us → us.length = l.length
  | [], [], _, _ => rfl
  | (ag, cs) :: l, u :: us, i, h => by simp [ResAre.len h.2]
  | [], _ :: _, _, h => h.elim
  | _ :: _, [], _, h => by simp [ResAre] at h
theorem ResAre.repT (hd : ∀ i j b, i ≠ j → T i b → ¬ T j b) : ∀ {l : List (Bool × List OV)} {us : List Value} {i : Nat}, ResAre w Fz T i l us → RepT w Fz l us (fun b => ∃ k, i ≤ k ∧ k < i + l.length ∧ T k b)
  | [], [], _, _ => trivial
  | (ag, cs) :: l, u :: us, i, ⟨⟨vs, h1, h2⟩, h3⟩ =>
    ⟨T i, _, vs, h1, h2, ResAre.repT hd h3, fun b hb => ⟨i, Nat.le_refl _, by simp, hb⟩, fun b ⟨k, e1, e2, e3⟩ => ⟨k, by omega, by simp; omega, e3⟩, fun b hb ⟨k, e1, e2, e3⟩ => hd i k b (by omega) hb e3⟩
  | [], _ :: _, _, h => h.elim
  | _ :: _, [], _, h => by simp [ResAre] at h
def resOne (tmps : Array Value) : ResultVar → Sem Value
  | .tmp t => pure (tmps.getD t undef)
  | .cell a t => do loadVar t (← asAddr (tmps.getD a undef))
theorem run_results {fn : Func} {tmps : Array Value} {us : List Value} (h : (fn.results.toList.mapM (resOne tmps)).run P w = .ok us w) : (results fn tmps).run P w = .ok (match us with | [u] => u | us => .tuple us.toArray) w := by
  have e : results fn tmps = (do let vs ← fn.results.mapM (resOne tmps); pure (if h : vs.size = 1 then vs[0] else .tuple vs)) := by
    unfold results
    congr 1
  rw [e, Sem.run_bind, Array.mapM_eq_mapM_toList]
  have : (List.toArray <$> List.mapM (resOne tmps) fn.results.toList : Sem (Array Value)).run P w = .ok us.toArray w := by
    rw [map_eq_pure_bind, Sem.run_bind, h]
    rfl
  rw [this]
  match us with
  | [] => rfl
  | [u] => rfl
  | _ :: _ :: _ => rfl
theorem resP_ok {tmps : Array Value} : ∀ {rl : List ResultVar} {res : List IRes} {rs : List (Bool × List OV)} {σ σ' : List AV} {S : Nat → BSet} {i hd : Nat}, ressOf P rl = some res → St B K σ (fun t => tmps.getD t undef) w Fz S → (resP K res).run σ = some (rs, σ') →
    σ.length ≤ hd + i → (∀ k, hd + i ≤ k → ∀ b, ¬ S k b) →
    ∃ S' us, St B K σ' (fun t => tmps.getD t undef) w Fz S' ∧ σ'.length = σ.length ∧ rs.length = rl.length ∧ (rl.mapM (resOne tmps)).run P w = .ok us w ∧ ResAre w Fz (fun k => S' (hd + k)) i rs us ∧ ∀ k, σ.length ≤ k → (k < hd + i ∨ hd + i + rl.length ≤ k) → S' k = S k
  | [], res, rs, σ, σ', S, i, hd, hres, h, hr, h0, h1 => by
    simp only [ressOf, Option.some.injEq] at hres
    subst hres
    simp only [resP, Pg.run_ret, Option.some.injEq, Prod.mk.injEq] at hr
    obtain ⟨rfl, rfl⟩ := hr
    exact ⟨S, [], h, rfl, rfl, by simp [List.mapM_nil, Sem.run_pure], trivial, fun _ _ _ => rfl⟩
  | .tmp t :: rl, res, rs, σ, σ', S, i, hd, hres, h, hr, h0, h1 => by
    simp only [ressOf, Option.map_eq_some_iff] at hres
    obtain ⟨res, hres, rfl⟩ := hres
    simp only [resP] at hr
    obtain ⟨v, σ1, g1, r1⟩ := Pg.bind_some hr
    obtain ⟨rfl, hv⟩ := val_ok (y := tmps.getD t undef) h (by simp [OdIs]) g1
    obtain ⟨cs, σ2, g2, r2⟩ := Pg.bind_some r1
    obtain ⟨rfl, hl, S1, vs, q1, q2, q3, q4⟩ := take_ok h hv g2 h0 (h1 _ (Nat.le_refl _))
    obtain ⟨rs', σ3, g3, r3⟩ := Pg.bind_some r2
    simp only [Pg.run_ret, Option.some.injEq, Prod.mk.injEq] at r3
    obtain ⟨rfl, rfl⟩ := r3
    obtain ⟨S2, us, p1, p2, p3, p4, p5, p6⟩ := resP_ok (i := i + 1) (hd := hd) hres q1 g3 (by omega) (fun k hk b hb => by rw [q4 k (by omega) (by omega)] at hb; exact h1 k (by omega) b hb)
    refine ⟨S2, tmps.getD t undef :: us, p1, p2.trans hl, by simp [p3], ?_, ⟨⟨vs, q2, ?_⟩, p5⟩, fun k hk hk' => ?_⟩
    · rw [List.mapM_cons]
      simp only [resOne, pure_bind, Sem.run_bind, p4, Result.andThen_ok, Sem.run_pure]
    · show RepL w Fz v.cs vs (S2 (hd + i))
      rw [p6 (hd + i) (by omega) (.inl (by omega))]
      exact q3
    · simp only [List.length_cons] at hk'
      rw [p6 k (by omega) (by omega), q4 k hk (by omega)]
  | .cell t ty :: rl, res, rs, σ, σ', S, i, hd, hres, h, hr, h0, h1 => by
    simp only [ressOf] at hres
    split at hres
    case isFalse => simp at hres
    rename_i hty
    simp only [Option.map_eq_some_iff] at hres
    obtain ⟨res, hres, rfl⟩ := hres
    simp only [resP, Pg.run_get] at hr
    split at hr
    case h_2 => simp at hr
    rename_i cs hc
    split at hr
    case isFalse => simp at hr
    rename_i hn
    obtain ⟨u, σ1, g1, r1⟩ := Pg.bind_some hr
    obtain ⟨m1, m2, m3⟩ := h.lend hc g1 h0 (h1 _ (Nat.le_refl _))
    have htl : @LT.lt Nat _ t σ.length := lt_of_getD (d := t) (by rw [hc]; simp)
    simp only [Pg.run_put] at r1
    obtain ⟨rs', σ3, g3, r3⟩ := Pg.bind_some r1
    simp only [Pg.run_ret, Option.some.injEq, Prod.mk.injEq] at r3
    obtain ⟨rfl, rfl⟩ := r3
    obtain ⟨S2, us, p1, p2, p3, p4, p5, p6⟩ := resP_ok (i := i + 1) (hd := hd) hres m1 g3 (by omega) (fun k hk b hb => by
      have hkt : ¬ (k = t) := fun e => by subst e; omega
      simp only [updS, if_neg (show k ≠ hd + i by omega), if_neg hkt] at hb
      exact h1 k (by omega) b hb)
    obtain ⟨b, vs, e1, e2, e3, e4, T1, e5, e6, e7⟩ := m3
    have hvs : vs.length = P.cellsOf ty := by rw [← hn]; exact e5.length
    obtain ⟨x, hx⟩ : ∃ x, valIs (isAg P ty) x vs := by
      cases hag : isAg P ty with
      | true => exact ⟨_, .inl ⟨rfl, rfl⟩⟩
      | false =>
        have h1 : P.cellsOf ty = 1 := by
          rcases hty.2 with q | q
          · rw [hag] at q; simp at q
          · exact q
        match vs, hvs.trans h1 with
        | [z], _ => exact ⟨z, .inr ⟨rfl, rfl⟩⟩
    refine ⟨S2, x :: us, p1, p2.trans m2, by simp [p3], ?_, ⟨⟨vs, hx, ?_⟩, p5⟩, fun k hk hk' => ?_⟩
    · have hld := run_loadVar (w := w) hty.1 hty.2 (a := ⟨b, 0, none⟩) rfl hvs e4 hx
      have e1' : tmps.getD t undef = .pointer (some ⟨b, 0, none⟩) := e1
      rw [List.mapM_cons]
      simp only [resOne, Sem.run_bind, e1', asAddr, Sem.run_pure, Result.andThen_ok, hld, p4]
    · show RepL w Fz cs vs (S2 (hd + i))
      rw [p6 (hd + i) (by omega) (.inl (by omega))]
      simp only [updS, if_true]
      exact e5.mono e6
    · simp only [List.length_cons] at hk'
      have hkt : ¬ (k = t) := fun e => by subst e; omega
      rw [p6 k (by omega) (by omega)]
      simp [updS, show k ≠ hd + i by omega, hkt]
theorem backP_ok : ∀ {as : List AV} {vs : List Value} {bs : List (List OV)} {σ σ' : List AV} {S : Nat → BSet} {j hd : Nat}, St B K σ vals w Fz S → (backP K G as j).run σ = some (bs, σ') → vs.length = as.length → (∀ (k : Nat) (v : Value), vs[k]? = some v → j + k ∈ G → vals (j + k) = v) →
    σ.length ≤ hd + j → (∀ k, hd + j ≤ k → ∀ b, ¬ S k b) → ∃ S', St B K σ' vals w Fz S' ∧ σ'.length = σ.length ∧ BoxesIs w Fz (fun k => S' (hd + k)) j as vs bs ∧ ∀ k, σ.length ≤ k → (k < hd + j ∨ hd + j + as.length ≤ k) → S' k = S k
  | [], [], bs, σ, σ', S, j, hd, h, hr, _, _, h0, h1 => by
    simp only [backP, Pg.run_ret, Option.some.injEq, Prod.mk.injEq] at hr
    obtain ⟨rfl, rfl⟩ := hr
    exact ⟨S, h, rfl, trivial, fun _ _ _ => rfl⟩
  | A :: as, v :: vs, bs, σ, σ', S, j, hd, h, hr, hl, hG, h0, h1 => by
    have hG' : ∀ (k : Nat) (v : Value), vs[k]? = some v → j + 1 + k ∈ G → vals (j + 1 + k) = v := fun k v hk hm => by
      have := hG (k + 1) v (by simpa using hk) (by rw [show j + (k + 1) = j + 1 + k by omega]; exact hm)
      rw [show j + (k + 1) = j + 1 + k by omega] at this
      exact this
    by_cases hA : isBox A = true
    · cases A <;> simp [isBox] at hA
      rename_i cs0
      simp only [backP] at hr
      split at hr
      case isFalse => simp at hr
      rename_i hjG
      simp only [Pg.run_get] at hr
      split at hr
      case h_2 => simp at hr
      rename_i cs hc
      obtain ⟨u, σ1, g1, r1⟩ := Pg.bind_some hr
      obtain ⟨m1, m2, m3⟩ := h.lend hc g1 h0 (h1 _ (Nat.le_refl _))
      have htl : j < σ.length := lt_of_getD (by rw [hc]; simp)
      simp only [Pg.run_put] at r1
      obtain ⟨bs', σ3, g3, r3⟩ := Pg.bind_some r1
      simp only [Pg.run_ret, Option.some.injEq, Prod.mk.injEq] at r3
      obtain ⟨rfl, rfl⟩ := r3
      obtain ⟨S2, p1, p2, p3, p4⟩ := backP_ok (j := j + 1) (hd := hd) m1 g3 (by simpa using hl) hG' (by omega) (fun k hk b hb => by
        simp only [updS, if_neg (show k ≠ hd + j by omega), if_neg (show k ≠ j by omega)] at hb
        exact h1 k (by omega) b hb)
      have hv : vals j = v := by
        have := hG 0 v rfl (by simpa using hjG)
        simpa using this
      refine ⟨S2, p1, p2.trans m2, ⟨?_, p3⟩, fun k hk hk' => ?_⟩
      · show RepBox w Fz cs v (S2 (hd + j))
        rw [p4 (hd + j) (by omega) (.inl (by omega))]
        simp only [updS, if_true]
        rw [← hv]
        exact m3
      · simp only [List.length_cons] at hk'
        rw [p4 k (by omega) (by omega)]
        simp [updS, show k ≠ hd + j by omega, show k ≠ j by omega]
    · have hr' : (backP K G as (j + 1)).run σ = some (bs, σ') := by cases A <;> simp [isBox] at hA <;> exact hr
      obtain ⟨S2, p1, p2, p3, p4⟩ := backP_ok (j := j + 1) (hd := hd) h hr' (by simpa using hl) hG' (by omega) (fun k hk => h1 k (by omega))
      refine ⟨S2, p1, p2, ?_, fun k hk hk' => p4 k hk (by simp only [List.length_cons] at hk'; omega)⟩
      cases A <;> simp [isBox] at hA <;> cases bs <;> exact p3
  | [], _ :: _, _, _, _, _, _, _, _, _, h, _, _, _ => by simp at h
  | _ :: _, [], _, _, _, _, _, _, _, _, h, _, _, _ => by simp at h
theorem argOk_repA {A : AV} {y : Value} {t : Nat} (h : ArgOk w Fz A y (S t)) : RepA vals w Fz S K t A y ∧ ∀ g, A.on g = false := by
  cases A with
  | w c => exact ⟨h, fun _ => rfl⟩
  | a cs => exact ⟨h, fun _ => rfl⟩
  | box cs => exact ⟨h, fun _ => rfl⟩
  | fp cs => exact ⟨h, fun _ => rfl⟩
  | clo f caps =>
    obtain ⟨cvs, h1, h2⟩ := h
    refine ⟨⟨cvs, h1, capsAny (fun _ _ => by simp) h2⟩, fun g => ?_⟩
    have key : ∀ {caps : List AV} {cvs : List Value}, RepCaps (fun _ => .bool false) w Fz (fun _ _ => False) [] 0 caps cvs → (caps.any fun | .ptr pl => pl.holder == g | _ => false) = false := by
      intro caps
      induction caps with
      | nil => intro _ _; rfl
      | cons x l ih =>
        intro cvs h
        cases cvs with
        | nil => cases x <;> simp [RepCaps] at h
        | cons v vs =>
          cases x with
          | w c => simp only [List.any_cons, Bool.false_or]; exact ih h.2.2
          | a cs => simp only [List.any_cons, Bool.false_or]; exact ih h.2.2
          | ptr pl =>
            cases pl with
            | b d off => obtain ⟨⟨ad, ⟨b, e1, _⟩, _⟩, _⟩ := h; simp at e1
            | r d => simp [RepCaps] at h
            | e d c z i off => simp [RepCaps] at h
          | fp cs => simp only [List.any_cons, Bool.false_or]; exact ih h.2
          | _ => simp [RepCaps] at h
    exact key h2
  | _ => exact h.elim
structure EnvOk (I : World → Prop) (P : Program) (E : Env) : Prop where
  mixed : P.follows .mixedOrders = true
  iters : ∀ gf kd z, E.it gf = some (kd, z) → IterOk P gf kd z
  makers : LibOk P
  ext : ∀ f g, E.ext f = some g → ∀ as r, g as = some r → FnOk P f ∧ CallOk I P f as r
  prog : ∀ f i, E.ext f = none → E.prog f = some i → ∃ F H, P.funcs[f]? = some F ∧ F.name ≠ "runtime.NumGoroutine" ∧ fnOf P H i.kills i.keeps F = some i
theorem body_wpM {f : Nat} {F : Func} {i : IFn} {c : Code} {as : List AV} {r : CRes} (hf : P.funcs[f]? = some F) (hb : F.body = some c) (hres : ressOf P F.results.toList = some i.res) (hnt : i.nt = F.ntmps) (hlen : as.length = i.np ∧ i.np ≤ i.nt)
    (h : ∀ (B0 : Base I) (v0 : Nat → Option Value) (a0 : Act) (w : World), B0.ds = [] → InvK B0 i.kills i.keeps v0 (as ++ List.replicate (i.nt - i.np) .u) a0 w → (∀ j A, as[j]? = some A → ∃ y T, ArgOk w B0.F0 A y T ∧ valsOf a0 j = y) →
      c.wp P (fun e a' w' => ∃ (ex : Ex) (σ1 : List AV), e = ex.exit' ∧ (ex = .nor ∨ ex = .ret) ∧ InvM B0 i.kills i.keeps v0 σ1 a' w' ∧ ((resP i.kills i.res).run σ1).bind (fun x => ((backP i.kills i.keeps as 0).run x.2).bind fun y => some (x.1, y.1)) = some r) a0 w) : CallOk I P f as r := by
  intro O hIO vs w Fz T hOw hTO hargs hTd hTt hFz
  have hvl : vs.length = as.length := hargs.1
  have hal : as.length ≤ F.ntmps := by omega
  refine callsIn_wide.1 (callsIn_of_wp_marks (n := 0) hf hb trivial (wpIn_wide.2 ?_))
  have hsz : vs.toArray.size = as.length := by simp [hvl]
  rw [hsz]
  let S0 : Nat → BSet := fun t b => t < as.length ∧ T t b
  let B0 : Base I := ⟨w, Fz, fun b => ∃ j, T j b, O, hIO, hOw, fun b hb => hb.elim fun j hj => hTO j b hj, []⟩
  let a0 : Act := { tmps := vs.toArray ++ Array.replicate (F.ntmps - as.length) undef, defers := [] }
  let σ0 : List AV := as ++ List.replicate (i.nt - i.np) .u
  have hσl : σ0.length = F.ntmps := by simp [σ0]; omega
  have hva : ∀ t v, vs[t]? = some v → valsOf a0 t = v := fun t v ht => by
    have htl := (List.getElem?_eq_some_iff.1 ht).1
    simp only [valsOf, a0, Array.getD_eq_getD_getElem?]
    rw [Array.getElem?_append_left (by simpa using htl)]
    simp [ht]
  have hσ : ∀ t, (∃ A v, as[t]? = some A ∧ vs[t]? = some v ∧ σ0.getD t .u = A ∧ valsOf a0 t = v ∧ t < as.length) ∨ σ0.getD t .u = .u := fun t => by
    rcases Nat.lt_or_ge t as.length with ht | ht
    · refine .inl ⟨as[t], vs[t]'(by omega), by simp [ht], by simp [show t < vs.length by omega], ?_, hva t _ (by simp [show t < vs.length by omega]), ht⟩
      simp [σ0, List.getD_eq_getElem?_getD, List.getElem?_append_left ht, ht]
    · refine .inr ?_
      simp only [σ0, List.getD_eq_getElem?_getD]
      rw [List.getElem?_append_right ht, List.getElem?_replicate]
      split <;> rfl
  have hS0 : ∀ t, t < as.length → S0 t = T t := fun t ht => by funext b; simp [S0, ht]
  have hI : InvK B0 i.kills i.keeps (fun t => a0.tmps[t]?) σ0 a0 w := by
    refine ⟨⟨rfl, ?_, Fz, S0, ?_, fun k hk b q => ?_⟩, fun t _ => rfl⟩
    · simp [a0, hσl, hvl]; omega
    · refine ⟨fun t => ?_, fun t u b htu q q' => hTd t u b htu q.2 q'.2, fun t b q => ⟨(hTt t b q.2).1, (hTt t b q.2).2, .inl ⟨t, q.2⟩⟩, fun t g hon => ?_, hFz, rfl, rfl, rfl, Nat.le_refl _, fun _ _ _ => rfl, fun _ q => q, fun _ q => .inl q⟩
      · rcases hσ t with ⟨A, v, q1, q2, q3, q4, q5⟩ | q
        · rw [q3, q4]
          exact (argOk_repA (by rw [hS0 t q5]; exact hargs.2 t A v q1 q2)).1
        · rw [q]; trivial
      · rcases hσ t with ⟨A, v, q1, q2, q3, q4, q5⟩ | q
        · rw [q3] at hon
          have := (argOk_repA (vals := valsOf a0) (S := S0) (K := []) (t := t) (by rw [hS0 t q5]; exact hargs.2 t A v q1 q2)).2 g
          rw [this] at hon; simp at hon
        · rw [q] at hon; simp [AV.on] at hon
    · rw [hσl] at hk
      have := q.1
      omega
  have main : ∀ σ1, ((resP i.kills i.res).run σ1).bind (fun x => ((backP i.kills i.keeps as 0).run x.2).bind fun y => some (x.1, y.1)) = some r → ∀ a' w', InvM B0 i.kills i.keeps (fun t => a0.tmps[t]?) σ1 a' w' →
      LeavesInM Fence.wide 0 P F a'.tmps (After w Fz (fun b => ∃ j, T j b) as vs r) a'.defers .returning w' := by
    intro σ1 hr a' w' hI'
    obtain ⟨Ds, hdf, hnd, hn, hkeep, Fz', S1, st, hfree, hap⟩ := hI'
    rw [hdf]
    refine leavesM Ds hnd st hap ?_
    clear st hap
    intro w' st
    simp only [Option.bind_eq_some_iff, Option.some.injEq] at hr
    obtain ⟨⟨rs, σ2⟩, r1, ⟨bs, σ3⟩, r2, rfl⟩ := hr
    obtain ⟨S2, us, p1, p2, p3, p4, p5, p6⟩ := resP_ok (tmps := a'.tmps) (i := 0) (hd := σ1.length) (rl := F.results.toList) hres st r1 (by omega) (fun k hk => hfree k (by omega))
    have p6' : ∀ k, σ1.length + rs.length ≤ k → ∀ b, ¬ S2 k b := fun k hk b q => by
      rw [p6 k (by omega) (.inr (by omega))] at q
      exact hfree k (by omega) b q
    obtain ⟨S3, n1, n2, n3, n4⟩ := backP_ok (hd := σ1.length + rs.length) (j := 0) p1 r2 hvl (fun k v hk hm => by
      rw [Nat.zero_add] at hm ⊢
      have hkk := hkeep k hm
      have h1 : a0.tmps[k]? = some v := by
        have htl := (List.getElem?_eq_some_iff.1 hk).1
        simp only [a0]
        rw [Array.getElem?_append_left (by simpa using htl)]
        simpa using hk
      rw [h1] at hkk
      simp [Array.getD_eq_getD_getElem?, hkk]) (by omega) (fun k hk => p6' k (by omega))
    refine ⟨_, run_results p4, ?_⟩
    have p5' : ResAre w' Fz' (fun k => S3 (σ1.length + k)) 0 rs us := p5.congr fun k _ hk => n4 (σ1.length + k) (by omega) (.inl (by omega))
    have hdis : ∀ i j b, i ≠ j → S3 (σ1.length + i) b → ¬ S3 (σ1.length + j) b := fun i j b hij q q' => n1.dis _ _ b (by omega) q q'
    have htk : ∀ t b, S3 t b → ((∃ j, T j b) ∨ w.heap.size ≤ b) ∧ b < w'.heap.size ∧ ¬ Fz' b := fun t b q => by
      have := n1.tok t b q
      exact ⟨this.2.2, this.1, this.2.1⟩
    refine ⟨_, Fz', fun b => ∃ k, k < rs.length ∧ S3 (σ1.length + k) b, fun k => S3 (σ1.length + rs.length + k), rfl, ⟨n1.os, n1.tape, n1.output, n1.size, n1.old⟩, n1.fz0, fun b q => ⟨n1.fz1 b q, n1.frz b q⟩, ?_, n3, fun b ⟨k, _, q⟩ => htk _ b q, fun j b q => htk _ b q, fun j b q ⟨k, hk, q'⟩ => n1.dis _ _ b (by omega) q q', fun i j b hij q q' => n1.dis _ _ b (by omega) q q'⟩
    have hT : (fun b => ∃ k, 0 ≤ k ∧ k < 0 + rs.length ∧ S3 (σ1.length + k) b) = fun b => ∃ k, k < rs.length ∧ S3 (σ1.length + k) b := by funext b; simp
    match rs, us, p5', p5'.repT hdis with
    | [(ag, cs)], [u], ⟨⟨vs', q1, q2⟩, _⟩, _ => exact ⟨vs', q1, q2.mono fun b q => ⟨0, by simp, q⟩⟩
    | [], [], _, hR => rw [hT] at hR; exact ⟨[], rfl, hR⟩
    | x :: y :: l, u :: v :: us', _, hR => rw [hT] at hR; exact ⟨_, rfl, hR⟩
    | [], _ :: _, q, _ => exact q.elim
    | _ :: _, [], q, _ => simp [ResAre] at q
    | [_], _ :: _ :: _, q, _ => simp [ResAre] at q
    | _ :: _ :: _, [_], q, _ => simp [ResAre] at q
  refine wp_mono (h B0 (fun t => a0.tmps[t]?) a0 w rfl hI fun j A hA => ?_) fun e a' w' hq => ?_
  · have hj : j < vs.length := by rw [hvl]; exact (List.getElem?_eq_some_iff.1 hA).1
    exact ⟨vs[j], T j, hargs.2 j A _ hA (by simp [hj]), hva j _ (by simp [hj])⟩
  · obtain ⟨ex, σ1, rfl, hex, hI', hr⟩ := hq
    have := main σ1 hr a' w' hI'
    rcases hex with rfl | rfl <;> exact this
theorem body_ok {k f : Nat} {F : Func} {H : Hints} {i : IFn} {as : List AV} {r : CRes} (hE : EvOk I P E k) (hf : P.funcs[f]? = some F) (hfn : fnOf P H i.kills i.keeps F = some i) (h : bodyOf i as (evC E k) = some r) : F.body.isSome = true ∧ CallOk I P f as r := by
  unfold fnOf at hfn
  split at hfn
  case h_2 => simp at hfn
  rename_i c hb
  split at hfn
  case h_2 => simp at hfn
  rename_i b res hc hres
  split at hfn
  case isFalse => simp at hfn
  rename_i hnp
  simp only [Option.some.injEq] at hfn
  refine ⟨by simp [hb], ?_⟩
  unfold bodyOf at h
  split at h
  case isFalse => simp at h
  rename_i hlen
  have e2 : i.nt = F.ntmps := by rw [← hfn]
  have e3 : i.body = b := by rw [← hfn]
  have e4 : i.res = res := by rw [← hfn]
  refine body_wpM hf hb (by rw [e4]; exact hres) e2 hlen fun B0 v0 a0 w hds hI _ => ?_
  replace hI := hI.m hds
  split at h
  · rename_i σ1 hev
    exact hE B0 i.kills i.keeps v0 H c i.body _ σ1 .nor a0 w _ (by rw [e3]; exact hc) hev hI fun a' w' hI' => ⟨.nor, σ1, rfl, .inl rfl, hI', h⟩
  · rename_i σ1 hev
    exact hE B0 i.kills i.keeps v0 H c i.body _ σ1 .ret a0 w _ (by rw [e3]; exact hc) hev hI fun a' w' hI' => ⟨.ret, σ1, rfl, .inr rfl, hI', h⟩
  · simp at h
theorem callBody_ok {k : Nat} (hEnv : EnvOk I P E) (hE : EvOk I P E k) : GoodF I P (callBody E (evC E k)) := by
  refine ⟨?_, hEnv.makers⟩
  intro f as r h
  unfold callBody at h
  split at h
  · rename_i g hg
    exact hEnv.ext f g hg as r h
  · rename_i hx
    split at h
    · rename_i i hi
      obtain ⟨F, H, h1, h2, h3⟩ := hEnv.prog f i hx hi
      obtain ⟨h4, h5⟩ := body_ok hE h1 h3 h
      exact ⟨⟨F, h1, h4, h2⟩, h5⟩
    · simp at h
theorem all_ok (hEnv : EnvOk I P E) : ∀ k, GoodF I P (callBody E (evC E k)) := by
  intro k
  induction k using Nat.strongRecOn with
  | _ k ih => exact callBody_ok hEnv (ev_ok hEnv.mixed hEnv.iters k ih)
theorem callF_ok (hEnv : EnvOk I P E) {k f : Nat} {as : List AV} {r : CRes} (h : callF E k f as = some r) : CallOk I P f as r := ((all_ok hEnv k).1 f as r h).2
end
end Go.Pv
end

section
namespace Go.Pv
open Go.RowKit
set_option linter.unusedVariables false
set_option linter.unusedSimpArgs false
def TyFs (g : TypeId → List PV → Prop) : List Field → List PV → Prop
  | [], ps => ps = []
  | f :: fs, ps => ∃ a b, ps = a ++ b ∧ g f.type a ∧ TyFs g fs b
def TyOk (P : Program) : Nat → TypeId → List PV → Prop
  | 0, _, _ => False
  | n + 1, t, ps => match P.underlying t with
    | some .bool => ∃ b, ps = [.bool b]
    | some (.int k) => ∃ i, ps = [.int k i] ∧ (Lit.int k i).wf = true
    | some .string => ∃ s : List UInt8, ps = [.str s] ∧ s.length ≤ 140737488351232
    | some (.slice e) => ∃ els : List (List PV), ps = [.sl (P.cellsOf e) els] ∧ els.length * P.bytesOf e ≤ 140737488351232 ∧ ∀ el ∈ els, TyOk P n e el
    | some (.struct fs) => TyFs (TyOk P n) fs.toList ps
    | _ => False
def fldsOk (P : Program) (L : List TypeId) : Nat → List Field → Nat → Bool
  | off, [], n => off == n
  | off, f :: fs, n => f.offset == off && L.contains f.type && fldsOk P L (off + P.cellsOf f.type) fs n
def tyOk1 (P : Program) (L : List TypeId) (t : TypeId) : Bool :=
  match P.underlying t with
  | some .bool | some (.int _) | some .string => P.cellsOf t == 1
  | some (.slice e) => P.cellsOf t == 1 && decide (0 < P.cellsOf e) && L.contains e
  | some (.struct fs) => fldsOk P L 0 fs.toList (P.cellsOf t)
  | _ => false
def CellsRep (W : World) (cs : List Value) (ps : List PV) : Prop := cs.length = ps.length ∧ ∀ (j : Nat) (c : PV) (v : Value), ps[j]? = some c → cs[j]? = some v → RepP W (· < W.heap.size) c v
section
variable {P : Program} {I : World → Prop} {W : World}
theorem CellsRep.app {cs cs' : List Value} {ps ps' : List PV} (h : CellsRep W cs ps) (h' : CellsRep W cs' ps') : CellsRep W (cs ++ cs') (ps ++ ps') := by
  have h1 := h.1
  refine ⟨by simp [h.1, h'.1], fun j c v hc hv => ?_⟩
  rcases Nat.lt_or_ge j ps.length with hj | hj
  · rw [List.getElem?_append_left hj] at hc
    rw [List.getElem?_append_left (by omega)] at hv
    exact h.2 j c v hc hv
  · rw [List.getElem?_append_right hj] at hc
    rw [List.getElem?_append_right (by omega), h.1] at hv
    exact h'.2 _ c v hc hv
theorem CellsRep.one {c : PV} {v : Value} (h : RepP W (· < W.heap.size) c v) : CellsRep W [v] [c] := by
  refine ⟨rfl, fun j c' v' hc hv => ?_⟩
  cases j with
  | zero => simp at hc hv; subst hc; subst hv; exact h
  | succ j => simp at hc
theorem lt_of_cell {a : Addr} {v : Value} (h : W.cell? a = some v) : a.block < W.heap.size ∧ a.spot = none := by
  unfold World.cell? at h
  split at h
  · rename_i c _ _ hh
    refine ⟨(Array.getElem?_eq_some_iff.1 hh).1, ?_⟩
    split at h
    · simp at h
    · rename_i hs
      simpa using hs
  · simp at h
theorem add_none {a : Addr} (h : a.spot = none) (n : Nat) : a.add n = ⟨a.block, a.off + n, none⟩ := addr_add h n
theorem rows_flat {a : Addr} {z : Nat} (hs : a.spot = none) : ∀ {els : List (List PV)} {css : List (List Value)} (k : Nat), css.length = els.length → (∀ (i : Nat) (el : List PV) (cs : List Value), els[i]? = some el → css[i]? = some cs → cs.length = z ∧ CellsRep W cs el ∧ ∀ j, j < z → W.cell? (a.add ((k + i) * z + j)) = cs[j]?) →
    CellsAt W a.block (a.off + k * z) css.flatten ∧ CellsRep W css.flatten els.flatten
  | [], [], k, _, _ => ⟨fun j v hj => by simp at hj, rfl, fun j c v hc => by simp at hc⟩
  | el :: els, cs :: css, k, hl, h => by
    obtain ⟨h1, h2, h3⟩ := h 0 el cs rfl rfl
    obtain ⟨r1, r2⟩ := rows_flat (els := els) (css := css) hs (k + 1) (by simpa using hl) fun i el cs he hc => by
      have := h (i + 1) el cs (by simpa using he) (by simpa using hc)
      rw [show k + (i + 1) = k + 1 + i by omega] at this
      exact this
    refine ⟨fun j v hj => ?_, by simpa using h2.app r2⟩
    simp only [List.flatten_cons] at hj
    rcases Nat.lt_or_ge j cs.length with hjl | hjl
    · rw [List.getElem?_append_left hjl] at hj
      have := h3 j (by omega)
      rw [add_none hs, hj] at this
      rw [← this]
      congr 2
      simp only [Nat.add_zero]
      omega
    · rw [List.getElem?_append_right hjl] at hj
      have := r1 (j - cs.length) v hj
      rw [← this]
      congr 2
      rw [h1, Nat.add_mul]
      omega
  | [], _ :: _, _, h, _ => by simp at h
  | _ :: _, [], _, h, _ => by simp at h
theorem list_of_each {α : Type} {Q : Nat → α → Prop} : ∀ {n : Nat}, (∀ i, i < n → ∃ x, Q i x) → ∃ l : List α, l.length = n ∧ ∀ (i : Nat) (x : α), l[i]? = some x → Q i x
  | 0, _ => ⟨[], rfl, fun i x h => by simp at h⟩
  | n + 1, h => by
    obtain ⟨l, h1, h2⟩ := list_of_each (n := n) fun i hi => h i (by omega)
    obtain ⟨x, hx⟩ := h n (by omega)
    refine ⟨l ++ [x], by simp [h1], fun i y hy => ?_⟩
    rcases Nat.lt_or_ge i l.length with hi | hi
    · rw [List.getElem?_append_left hi] at hy
      exact h2 i y hy
    · rw [List.getElem?_append_right hi] at hy
      by_cases h0 : i - l.length = 0
      · rw [h0] at hy
        simp at hy
        subst hy
        rw [show i = n by omega]
        exact hx
      · rw [List.getElem?_eq_none (by simp; omega)] at hy
        simp at hy
theorem weightsAll_mem {H : Type} {e : TypeId} {ds : List (DataW H)} {i : Nat} {d : DataW H} (h : ds[i]? = some d) : ∀ n ∈ d.weights P e, n ∈ DataW.weightsAll P e ds := by
  induction ds generalizing i with
  | nil => simp at h
  | cons d0 r ih =>
    intro n hn
    cases i with
    | zero =>
      simp only [List.getElem?_cons_zero, Option.some.injEq] at h
      subst h
      simp only [DataW.weightsAll, List.mem_append]
      exact .inl hn
    | succ i =>
      simp only [List.getElem?_cons_succ] at h
      simp only [DataW.weightsAll, List.mem_append]
      exact .inr (ih h n hn)
theorem opened {H : Type} {enc : TypeId × Value → H} {held : Bool} {L : List TypeId} (hL : L.all (tyOk1 P L) = true) : ∀ (n : Nat) (t : TypeId) (cs : List Value) (x : DataW H × List MemPlace), t ∈ L →
    DataW.trod enc P W 0 (fun _ => true) held n t cs = some x → (∀ q ∈ x.1.weights P t, q ≤ reachBytes) → ∃ ps, TyOk P n t ps ∧ CellsRep W cs ps ∧ cs.length = P.cellsOf t := by
  intro n
  induction n with
  | zero => intro t cs x _ h; simp [DataW.trod] at h
  | succ n ih =>
    intro t cs x ht h hw
    have hty := List.all_eq_true.1 hL t ht
    unfold tyOk1 at hty
    split at hty
    · rename_i hu
      obtain ⟨b, rfl, rfl⟩ := DataW.trod_bool hu h
      exact ⟨[.bool b], by simp [TyOk, hu], .one (.bool b), by simpa using (beq_iff_eq.1 hty).symm⟩
    · rename_i k hu
      obtain ⟨i, rfl, rfl, hwf⟩ := DataW.trod_int hu h
      exact ⟨[.int k i], by simp [TyOk, hu, hwf], .one (.int k i), by simpa using (beq_iff_eq.1 hty).symm⟩
    · rename_i hu
      obtain ⟨s, rfl, rfl, _⟩ := DataW.trod_string hu h
      refine ⟨[.str s.data.toList], ?_, .one (.str s.data.toList), by simpa using (beq_iff_eq.1 hty).symm⟩
      have := hw _ (by simp [DataW.weights]; rfl)
      simp only [TyOk, hu]
      exact ⟨_, rfl, by simpa [reachBytes] using this⟩
    · rename_i e hu
      simp only [Bool.and_eq_true, beq_iff_eq, decide_eq_true_eq, List.contains_iff_mem] at hty
      obtain ⟨⟨h1, hz⟩, heL⟩ := hty
      rcases DataW.trod_slice hu h with ⟨rfl, rfl⟩ | ⟨a, len, cap, elems, rest, m, hm, rfl, rfl, _, hlc, _, hlen, hel, _, _⟩
      · exact ⟨[.sl (P.cellsOf e) []], by simp [TyOk, hu], .one (.nil _ _ _), by simp [h1]⟩
      · obtain rfl : m = n := by omega
        simp only [DataW.weights, hu] at hw
        have each : ∀ i, i < len → ∃ y : List PV × List Value, TyOk P m e y.1 ∧ CellsRep W y.2 y.1 ∧ y.2.length = P.cellsOf e ∧ ∀ j, j < P.cellsOf e → W.cell? ((a.add (i * P.cellsOf e)).add j) = y.2[j]? := by
          intro i hi
          have h2 := hel i hi
          rw [List.getElem?_eq_getElem (show i < elems.length by omega)] at h2
          obtain ⟨c, hc, htr⟩ := Option.bind_eq_some_iff.1 h2
          obtain ⟨_, hcl, hcc⟩ := World.cells?_some hc
          obtain ⟨ps, p1, p2, p3⟩ := ih e c _ heL htr fun q hq => hw q (List.mem_cons_of_mem _ (List.mem_append_left _ (weightsAll_mem (i := i) (by simp [List.getElem?_map, List.getElem?_eq_getElem (show i < elems.length by omega)]) q hq)))
          exact ⟨(ps, c), p1, p2, p3, hcc⟩
        obtain ⟨ys, hyl, hy⟩ := list_of_each each
        have hreach := hw _ List.mem_cons_self
        simp only [List.length_map, hlen] at hreach
        have hsz : ys.length * P.bytesOf e ≤ 140737488351232 := by
          rw [hyl]
          have h4 : len * P.bytesOf e ≤ (len + rest.length) * P.bytesOf e := Nat.mul_le_mul_right _ (by omega)
          simp only [reachBytes] at hreach
          omega
        refine ⟨[.sl (P.cellsOf e) (ys.map (·.1))], ?_, ?_, by simp [h1]⟩
        · simp only [TyOk, hu]
          refine ⟨_, rfl, by simpa using hsz, fun el hel => ?_⟩
          obtain ⟨y, hym, rfl⟩ := List.mem_map.1 hel
          obtain ⟨i, hi⟩ := List.getElem?_of_mem hym
          exact (hy i y hi).1
        · refine .one ?_
          rcases Nat.eq_zero_or_pos len with h0 | h0
          · subst h0
            obtain rfl : ys = [] := List.length_eq_zero_iff.1 hyl
            exact .nil _ _ _
          · obtain ⟨y0, hy0⟩ : ∃ y0, ys[0]? = some y0 := ⟨ys[0]'(by omega), by simp [show 0 < ys.length by omega]⟩
            have hc0 := (hy 0 y0 hy0).2.2.2 0 hz
            have hy0l := (hy 0 y0 hy0).2.2.1
            have ha : a.block < W.heap.size ∧ a.spot = none := by
              have e1 : (a.add (0 * P.cellsOf e)).add 0 = a := by simp [Addr.add]
              rw [e1, List.getElem?_eq_getElem (show 0 < y0.2.length by omega)] at hc0
              exact lt_of_cell hc0
            obtain ⟨r1, r2⟩ := rows_flat (W := W) (a := a) (z := P.cellsOf e) ha.2 (els := ys.map (·.1)) (css := ys.map (·.2)) 0 (by simp) fun i el cs he hc => by
              simp only [List.getElem?_map, Option.map_eq_some_iff] at he hc
              obtain ⟨y, hyi, rfl⟩ := he
              obtain ⟨y', hyi', rfl⟩ := hc
              rw [hyi] at hyi'
              simp at hyi'
              subst hyi'
              obtain ⟨q1, q2, q3, q4⟩ := hy i y hyi
              refine ⟨q3, q2, fun j hj => ?_⟩
              rw [← q4 j hj, add_none ha.2, add_none ha.2, add_none rfl]
              congr 2
              simp only [Nat.zero_add]
              omega
            have hlen' : (ys.map (·.1)).length = len := by simp [hyl]
            have := RepP.sl (w := W) (Fz := (· < W.heap.size)) (P.cellsOf e) (ys.map (·.1)) a cap (ys.map (·.2)).flatten ha.1 ha.2 hz (fun el hel => by
              obtain ⟨y, hym, rfl⟩ := List.mem_map.1 hel
              obtain ⟨i, hi⟩ := List.getElem?_of_mem hym
              have := (hy i y hi).2
              rw [← this.1.1]; exact this.2.1) (by omega) r2.1 (by simpa using r1) r2.2
            rw [hlen'] at this
            exact this
    · rename_i fs hu
      obtain ⟨xs, m, hm, rfl, hl, hxl, hr⟩ := DataW.trod_struct hu h
      obtain rfl : m = n := by omega
      simp only [DataW.weights, hu] at hw
      have key : ∀ (l : List Field) (off : Nat) (ys : List (DataW H × List MemPlace)), ys.length = l.length → fldsOk P L off l (P.cellsOf t) = true → off ≤ cs.length → (∀ (i : Nat) (f : Field), l[i]? = some f → DataW.trod enc P W 0 (fun _ => true) held m f.type ((cs.drop f.offset).take (P.cellsOf f.type)) = ys[i]?) →
          (∀ q ∈ DataW.weightsEach P (l.map (·.type)) (ys.map (·.1)), q ≤ reachBytes) → ∃ ps, TyFs (TyOk P m) l ps ∧ CellsRep W (cs.drop off) ps := by
        intro l
        induction l with
        | nil =>
          intro off ys hyl hf ho _ _
          simp only [fldsOk, beq_iff_eq] at hf
          refine ⟨[], rfl, ?_⟩
          rw [List.drop_eq_nil_of_le (by omega)]
          exact ⟨rfl, fun j c v hc => by simp at hc⟩
        | cons f l ih2 =>
          intro off ys hyl hf ho hr hw
          simp only [fldsOk, Bool.and_eq_true, beq_iff_eq, List.contains_iff_mem] at hf
          obtain ⟨⟨hfo, hfL⟩, hf⟩ := hf
          cases ys with
          | nil => simp at hyl
          | cons y ys =>
            simp only [List.map_cons, DataW.weightsEach, List.mem_append] at hw
            have h1 := hr 0 f rfl
            simp only [List.getElem?_cons_zero] at h1
            obtain ⟨ps, p1, p2, p3⟩ := ih f.type _ y hfL h1 fun q hq => hw q (.inl hq)
            rw [hfo, List.length_take, List.length_drop] at p3
            obtain ⟨ps', p4, p5⟩ := ih2 (off + P.cellsOf f.type) ys (by simpa using hyl) hf (by omega) (fun i g hg => by simpa using hr (i + 1) g (by simpa using hg)) fun q hq => hw q (.inr hq)
            refine ⟨ps ++ ps', ⟨ps, ps', rfl, p1, p4⟩, ?_⟩
            rw [hfo] at p2
            have := p2.app p5
            rw [← List.drop_drop, List.take_append_drop] at this
            exact this
      obtain ⟨ps, p1, p2⟩ := key fs.toList 0 xs (by simpa using hxl) hty (by omega) (fun i f hf => hr i f (by simpa using hf)) hw
      refine ⟨ps, ?_, by simpa using p2, hl⟩
      simp only [TyOk, hu]
      exact p1
    · simp at hty
theorem CellsRep.repL {cs : List Value} {ps : List PV} {T : BSet} (h : CellsRep W cs ps) : RepL W (· < W.heap.size) (ps.map .p) cs T := RepL.ofP h.1 h.2
theorem CellsRep.agg {cs : Array Value} {ps : List PV} {T : BSet} (h : CellsRep W cs.toList ps) : ArgOk W (· < W.heap.size) (.a (ps.map .p)) (.agg cs) T := ⟨cs.toList, by simp, h.repL⟩
theorem CellsRep.w {v : Value} {p : PV} {T : BSet} (h : CellsRep W [v] [p]) : ArgOk W (· < W.heap.size) (.w (.p p)) v T := .p (h.2 0 p v rfl rfl)
theorem law_true {E : Env} (hE : EnvOk I P E) (hI : I W) {k f : Nat} {as : List AV} {vs : List Value} (h : callF E k f as = some ([(false, [.p (.bool true)])], [])) (ha : ArgsOk W (· < W.heap.size) as vs (fun _ _ => False)) :
    Calls P f vs.toArray W fun e W' => e = .returned (.bool true) ∧ Below W.heap.size W W' := by
  refine (callF_ok hE h W hI vs W (· < W.heap.size) (fun _ _ => False) ⟨Nat.le_refl _, fun _ _ => rfl⟩ (fun _ _ q => q.elim) ha (fun _ _ _ _ q => q.elim) (fun _ _ q => q.elim) (fun _ q => q)).mono fun e W' hA => ?_
  obtain ⟨x, Fz', Tr, Tb, rfl, hs, _, _, ⟨vs', q1, q2⟩, _⟩ := hA.out
  refine ⟨?_, hs.os, hs.tape, hs.output, hs.size, fun b hb => hs.keep b hb fun ⟨_, q⟩ => q⟩
  rcases q1 with ⟨e, _⟩ | ⟨_, rfl⟩
  · simp at e
  · obtain ⟨y, e, hO⟩ := q2.of_one
    simp at e; subst e
    cases hO with
    | p hp => rw [repP_bool hp]
end
end Go.Pv
end

section
namespace Go.Pv
set_option linter.unusedVariables false
set_option linter.unusedSimpArgs false
def Lim {α : Type} (g : Nat → Option α) (x : α) : Prop := ∃ k0, ∀ k, k0 ≤ k → g k = some x
theorem Lim.uniq {α : Type} {g : Nat → Option α} {x y : α} (h : Lim g x) (h' : Lim g y) : x = y := by
  obtain ⟨k, hk⟩ := h
  obtain ⟨k', hk'⟩ := h'
  have a := hk (max k k') (by omega)
  have b := hk' (max k k') (by omega)
  rw [a] at b
  simpa using b
open Classical in
noncomputable def ansOf (E : Env) (f : Nat) (as : List AV) : Option CRes := if h : ∃ r, Lim (fun k => callF E k f as) r then some h.choose else none
theorem ansOf_eq {E : Env} {f : Nat} {as : List AV} {r : CRes} : ansOf E f as = some r ↔ Lim (fun k => callF E k f as) r := by
  unfold ansOf
  constructor
  · intro h
    split at h
    · rename_i hx
      simp only [Option.some.injEq] at h
      rw [← h]
      exact hx.choose_spec
    · simp at h
  · intro h
    rw [dif_pos ⟨r, h⟩]
    exact congrArg some (Lim.uniq (Exists.choose_spec (⟨r, h⟩ : ∃ r, Lim (fun k => callF E k f as) r)) h)
section
variable {K : Kills} {E : Env} {σ σ' σ1 : List AV}
theorem run_bind_eq {α β : Type} (p : Pg α) (f : α → Pg β) (σ : List AV) : (p.bind f).run σ = (p.run σ).bind fun r => (f r.1).run r.2 := by
  induction p generalizing σ with
  | ret x => rfl
  | fail => rfl
  | get t k ih => exact ih _ _
  | put t v k ih => exact ih _
  | kill c ts k ih => exact ih _
  | getl t k ih => exact ih _ _
  | pute t v k ih =>
    simp only [Pg.bind, Pg.run]
    split
    · exact ih _
    · rfl
theorem log_bind_eq {α β : Type} (p : Pg α) (f : α → Pg β) (σ : List AV) (L : Lg) : (p.bind f).log σ L = (match p.run σ with | some r => (f r.1).log r.2 (p.log σ L) | none => p.log σ L) := by
  induction p generalizing σ L with
  | ret x => simp [Pg.bind, Pg.run, Pg.log]
  | fail => simp [Pg.bind, Pg.run, Pg.log]
  | get t k ih => simp only [Pg.bind, Pg.run, Pg.log, ih]
  | put t v k ih => simp only [Pg.bind, Pg.run, Pg.log, ih]
  | kill c ts k ih => simp only [Pg.bind, Pg.run, Pg.log, ih]
  | getl t k ih => simp only [Pg.bind, Pg.run, Pg.log, ih]
  | pute t v k ih =>
    simp only [Pg.bind, Pg.run, Pg.log]
    split
    · rw [ih]
    · rfl
theorem callP_lim {g : Nat → Nat → List AV → Option CRes} {cf : Nat → List AV → Option CRes} (hg : ∀ f as r, cf f as = some r → Lim (fun k => g k f as) r) {dst : Option Nat} {f : Nat} {as : List AV} {ls : List Nat} {x : Unit × List AV} (h : (callP K cf dst f as ls).run σ = some x) :
    ∃ k0, ∀ k, k0 ≤ k → (callP K (g k) dst f as ls).run σ = some x ∧ ∀ L, (callP K (g k) dst f as ls).log σ L = (callP K cf dst f as ls).log σ L := by
  unfold callP at h ⊢
  cases hc : cf f as with
  | none => rw [hc] at h; simp [Pg.opt, Pg.bind, Pg.run] at h
  | some r =>
    rw [hc] at h
    obtain ⟨k0, hk⟩ := hg f as r hc
    refine ⟨k0, fun k hk' => ?_⟩
    have e : g k f as = some r := hk k hk'
    rw [e]
    exact ⟨h, fun _ => rfl⟩
def isCall : IOp → Bool
  | .call _ _ | .callv _ _ => true
  | _ => false
theorem opP_same {cf cf' : Nat → List AV → Option CRes} {dst : Option Nat} {op : IOp} (h : isCall op = false) : opP K cf dst op = opP K cf' dst op := by
  cases op with
  | call f args => simp [isCall] at h
  | callv x args => simp [isCall] at h
  | mov x => cases x <;> rfl
  | asg x => cases x <;> rfl
  | frz x => cases x <;> rfl
  | nilchk x => cases x <;> rfl
  | movl x => cases x <;> rfl
  | movk x => cases x <;> rfl
  | nxt x => cases x <;> rfl
  | lenl x => cases x <;> rfl
  | ext x i => cases x <;> rfl
  | extu x i => cases x <;> rfl
  | len b x => cases b <;> rfl
  | _ => rfl
theorem op_lim {g : Nat → Nat → List AV → Option CRes} {cf : Nat → List AV → Option CRes} (hg : ∀ f as r, cf f as = some r → Lim (fun k => g k f as) r) {dst : Option Nat} {op : IOp} {x : Unit × List AV} (h : (opP K cf dst op).run σ = some x) :
    ∃ k0, ∀ k, k0 ≤ k → (opP K (g k) dst op).run σ = some x ∧ ∀ L, (opP K (g k) dst op).log σ L = (opP K cf dst op).log σ L := by
  cases op with
  | call f args =>
    simp only [opP, run_bind_eq, log_bind_eq] at h ⊢
    cases ha : (argsP K args).run σ with
    | none => rw [ha] at h; simp at h
    | some y =>
      obtain ⟨⟨as, ls⟩, σ1⟩ := y
      rw [ha] at h
      simp only [Option.bind_some] at h
      obtain ⟨k0, hk⟩ := callP_lim hg h
      exact ⟨k0, fun k hk' => ⟨by simpa using (hk k hk').1, fun L => by simp only [(hk k hk').2]⟩⟩
  | callv x args =>
    cases x with
    | c v => simp [opP, Pg.run] at h
    | t i =>
      simp only [opP, Pg.run, Pg.log] at h ⊢
      generalize σ.getD i .u = v at h ⊢
      cases v with
      | u | w | a | t | box | ptr | fp | al | sv | mp | it | ln => simp [Pg.run] at h
      | clo f caps =>
      simp only [run_bind_eq, log_bind_eq] at h ⊢
      cases ha : (argsP K args).run σ with
      | none => rw [ha] at h; simp at h
      | some y =>
        obtain ⟨⟨as, ls⟩, σ1⟩ := y
        rw [ha] at h
        simp only [Option.bind_some, run_bind_eq] at h
        cases hb : (capsP K caps).run σ1 with
        | none => rw [hb] at h; simp at h
        | some z =>
          obtain ⟨⟨cs, ms⟩, σ2⟩ := z
          rw [hb] at h
          simp only [Option.bind_some] at h
          obtain ⟨k0, hk⟩ := callP_lim hg h
          exact ⟨k0, fun k hk' => ⟨by simpa [run_bind_eq, hb] using (hk k hk').1, fun L => by simp only [log_bind_eq, run_bind_eq, hb, (hk k hk').2]⟩⟩
  | _ => exact ⟨0, fun k _ => ⟨by rw [opP_same (cf' := cf) rfl]; exact h, fun L => by rw [opP_same (cf' := cf) rfl]⟩⟩
theorem oper_lim {g : Nat → Nat → List AV → Option CRes} {cf : Nat → List AV → Option CRes} (hg : ∀ f as r, cf f as = some r → Lim (fun k => g k f as) r) {o : IOper} {x : Unit × List AV} (h : (operP K cf o).run σ = some x) :
    ∃ k0, ∀ k, k0 ≤ k → (operP K (g k) o).run σ = some x ∧ ∀ L, (operP K (g k) o).log σ L = (operP K cf o).log σ L := by
  obtain ⟨d, op, gd⟩ := o
  cases gd with
  | none => exact op_lim hg h
  | some tw =>
    obtain ⟨t, want⟩ := tw
    simp only [operP, Pg.run, Pg.log] at h ⊢
    split at h
    · rename_i b hb
      split at h
      · rename_i hw
        obtain ⟨k0, hk⟩ := op_lim hg h
        refine ⟨k0, fun k hk' => ?_⟩
        simp only [hw, if_true]
        exact ⟨(hk k hk').1, fun L => by rw [(hk k hk').2]⟩
      · rename_i hw
        simp only [hw]
        exact ⟨0, fun _ _ => ⟨h, fun _ => rfl⟩⟩
    · exact ⟨0, fun _ _ => ⟨h, fun _ => rfl⟩⟩
    · simp [Pg.run] at h
theorem ops_lim {g : Nat → Nat → List AV → Option CRes} {cf : Nat → List AV → Option CRes} (hg : ∀ f as r, cf f as = some r → Lim (fun k => g k f as) r) : ∀ (os : List IOper) (σ : List AV), runOps K cf os σ = some σ' →
    ∃ k0, ∀ k, k0 ≤ k → runOps K (g k) os σ = some σ' ∧ logs K (g k) os σ = logs K cf os σ
  | [], σ, h => ⟨0, fun _ _ => ⟨h, rfl⟩⟩
  | o :: os, σ, h => by
    simp only [runOps, Option.bind_eq_some_iff] at h
    obtain ⟨⟨u, σ1⟩, h1, h2⟩ := h
    obtain ⟨k0, hk⟩ := oper_lim hg h1
    obtain ⟨k1, hk1⟩ := ops_lim hg os σ1 h2
    refine ⟨max k0 k1, fun k hk' => ?_⟩
    obtain ⟨a, b⟩ := hk k (by omega)
    obtain ⟨c, d⟩ := hk1 k (by omega)
    exact ⟨by simp only [runOps, a, Option.bind_some, c], by simp only [logs, a, b, h1, d]⟩
def Wp (E : Env) (K : Kills) (c : IC) (σ : List AV) (Q : Ex → List AV → Prop) : Prop := ∃ ex σ', Lim (fun k => evC E k K c σ) (ex, σ') ∧ Q ex σ'
def Lp (E : Env) (K : Kills) (a : IC) (Q : Ex → List AV → Prop) (ex : Ex) (σ : List AV) : Prop := ∃ ex' σ', Lim (fun k => evC.leap E k K a (some (ex, σ))) (ex', σ') ∧ Q ex' σ'
def thenW (R : List AV → Prop) (Q : Ex → List AV → Prop) : Ex → List AV → Prop
  | .nor, σ => R σ
  | ex, σ => Q ex σ
def blockW (id : Nat) (Q : Ex → List AV → Prop) : Ex → List AV → Prop
  | .exit id', σ => if id' = id then Q .nor σ else Q (.exit id') σ
  | ex, σ => Q ex σ
variable {Q Q' : Ex → List AV → Prop}
theorem Wp.mono {c : IC} (h : Wp E K c σ Q) (hq : ∀ ex σ', Q ex σ' → Q' ex σ') : Wp E K c σ Q' := by
  obtain ⟨ex, σ', h1, h2⟩ := h
  exact ⟨ex, σ', h1, hq _ _ h2⟩
theorem lim_ev {α : Type} {g : Nat → Option α} {x : α} (h : ∃ k0, ∀ k, k0 ≤ k → g (k + 1) = some x) : Lim g x := by
  obtain ⟨k0, hk⟩ := h
  refine ⟨k0 + 1, fun k hk' => ?_⟩
  obtain ⟨j, rfl⟩ : ∃ j, k = j + 1 := ⟨k - 1, by omega⟩
  exact hk j (by omega)
theorem calls_lim : ∀ f as r, ansOf E f as = some r → Lim (fun k => callBody E (evC E k) f as) r := fun f as r h => ansOf_eq.1 h
theorem wpI_skip (h : Q .nor σ) : Wp E K .skip σ Q := ⟨_, _, lim_ev ⟨0, fun k _ => rfl⟩, h⟩
theorem wpI_label {l : Nat} (h : Q .nor σ) : Wp E K (.label l) σ Q := ⟨_, _, lim_ev ⟨0, fun k _ => rfl⟩, h⟩
theorem wpI_exit {id : Nat} (h : Q (.exit id) σ) : Wp E K (.exit id) σ Q := ⟨_, _, lim_ev ⟨0, fun k _ => rfl⟩, h⟩
theorem wpI_goto {l : Nat} (h : Q (.goto l) σ) : Wp E K (.goto l) σ Q := ⟨_, _, lim_ev ⟨0, fun k _ => rfl⟩, h⟩
theorem wpI_ret (h : Q .ret σ) : Wp E K .ret σ Q := ⟨_, _, lim_ev ⟨0, fun k _ => rfl⟩, h⟩
theorem wpI_reg {os : List IOper} (h : runOps K (ansOf E) os σ = some σ1) (hq : Q .nor σ1) : Wp E K (.reg os) σ Q := by
  obtain ⟨k0, hk⟩ := ops_lim (g := fun k => callBody E (evC E k)) calls_lim os σ h
  exact ⟨_, _, lim_ev ⟨k0, fun k hk' => by simp only [evC, (hk k hk').1, Option.map_some]⟩, hq⟩
theorem wpI_draw {bfs : List (List Nat)} {os : List IOper} (h : runOps K (ansOf E) os σ = some σ1) (ha : apartAll bfs (logs K (ansOf E) os σ) = true) (hq : Q .nor σ1) : Wp E K (.draw bfs os) σ Q := by
  obtain ⟨k0, hk⟩ := ops_lim (g := fun k => callBody E (evC E k)) calls_lim os σ h
  exact ⟨_, _, lim_ev ⟨k0, fun k hk' => by simp only [evC, (hk k hk').1, (hk k hk').2, ha, if_true, Option.map_some]⟩, hq⟩
theorem wpI_seq {a b : IC} (h : Wp E K a σ (thenW (fun σ1 => Wp E K b σ1 Q) Q)) : Wp E K (.seq a b) σ Q := by
  obtain ⟨ex, σ1, ⟨k0, h1⟩, h2⟩ := h
  cases ex with
  | nor =>
    obtain ⟨ex, σ2, ⟨k1, h3⟩, h4⟩ := h2
    exact ⟨ex, σ2, lim_ev ⟨max k0 k1, fun k hk => by simp only [evC, h1 k (by omega), h3 k (by omega)]⟩, h4⟩
  | exit id => exact ⟨_, σ1, lim_ev ⟨k0, fun k hk => by simp only [evC, h1 k (by omega)]⟩, h2⟩
  | goto l => exact ⟨_, σ1, lim_ev ⟨k0, fun k hk => by simp only [evC, h1 k (by omega)]⟩, h2⟩
  | ret => exact ⟨_, σ1, lim_ev ⟨k0, fun k hk => by simp only [evC, h1 k (by omega)]⟩, h2⟩
theorem wpI_cond {x : Od} {a b : IC} {t : Bool} (hc : (sc x).run σ = some (.bool t, σ1)) (h1 : t = true → Wp E K a σ Q) (h2 : t = false → Wp E K b σ Q) : Wp E K (.cond x a b) σ Q := by
  have h : Wp E K (if t then a else b) σ Q := by cases t <;> simp_all
  obtain ⟨ex, σ2, ⟨k0, h3⟩, h4⟩ := h
  exact ⟨ex, σ2, lim_ev ⟨k0, fun k hk => by simp only [evC, hc]; exact h3 k hk⟩, h4⟩
theorem wpI_block {id : Nat} {a : IC} (h : Wp E K a σ (blockW id Q)) : Wp E K (.block id a) σ Q := by
  obtain ⟨ex, σ1, ⟨k0, h1⟩, h2⟩ := h
  cases ex with
  | exit id' =>
    simp only [blockW] at h2
    split at h2
    · rename_i e
      exact ⟨_, σ1, lim_ev ⟨k0, fun k hk => by simp only [evC, h1 k (by omega), if_pos e]⟩, h2⟩
    · rename_i e
      exact ⟨_, σ1, lim_ev ⟨k0, fun k hk => by simp only [evC, h1 k (by omega), if_neg e]⟩, h2⟩
  | nor => exact ⟨_, σ1, lim_ev ⟨k0, fun k hk => by simp only [evC, h1 k (by omega)]⟩, h2⟩
  | goto l => exact ⟨_, σ1, lim_ev ⟨k0, fun k hk => by simp only [evC, h1 k (by omega)]⟩, h2⟩
  | ret => exact ⟨_, σ1, lim_ev ⟨k0, fun k hk => by simp only [evC, h1 k (by omega)]⟩, h2⟩
theorem wpI_loop {a : IC} (h : Wp E K a σ (thenW (fun σ1 => Wp E K (.loop a) σ1 Q) Q)) : Wp E K (.loop a) σ Q := by
  obtain ⟨ex, σ1, ⟨k0, h1⟩, h2⟩ := h
  cases ex with
  | nor =>
    obtain ⟨ex, σ2, ⟨k1, h3⟩, h4⟩ := h2
    exact ⟨ex, σ2, lim_ev ⟨max k0 k1, fun k hk => by simp only [evC, h1 k (by omega), h3 k (by omega)]⟩, h4⟩
  | exit id => exact ⟨_, σ1, lim_ev ⟨k0, fun k hk => by simp only [evC, h1 k (by omega)]⟩, h2⟩
  | goto l => exact ⟨_, σ1, lim_ev ⟨k0, fun k hk => by simp only [evC, h1 k (by omega)]⟩, h2⟩
  | ret => exact ⟨_, σ1, lim_ev ⟨k0, fun k hk => by simp only [evC, h1 k (by omega)]⟩, h2⟩
theorem lp_nor {a : IC} (h : Q .nor σ) : Lp E K a Q .nor σ := ⟨_, _, lim_ev ⟨0, fun k _ => rfl⟩, h⟩
theorem lp_ret {a : IC} (h : Q .ret σ) : Lp E K a Q .ret σ := ⟨_, _, lim_ev ⟨0, fun k _ => rfl⟩, h⟩
theorem lp_exit {a : IC} {id : Nat} (h : Q (.exit id) σ) : Lp E K a Q (.exit id) σ := ⟨_, _, lim_ev ⟨0, fun k _ => rfl⟩, h⟩
theorem lp_goto {a rest : IC} {l : Nat} (hr : a.after l = some rest) (h : Wp E K rest σ (Lp E K a Q)) : Lp E K a Q (.goto l) σ := by
  obtain ⟨ex, σ1, ⟨k0, h1⟩, ex', σ', ⟨k1, h2⟩, h3⟩ := h
  exact ⟨ex', σ', lim_ev ⟨max k0 k1, fun k hk => by simp only [evC.leap, hr, h1 k (by omega), h2 k (by omega)]⟩, h3⟩
theorem wpI_scope {a : IC} (h : Wp E K a σ (Lp E K a Q)) : Wp E K (.scope a) σ Q := by
  obtain ⟨ex, σ1, ⟨k0, h1⟩, ex', σ', ⟨k1, h2⟩, h3⟩ := h
  exact ⟨ex', σ', lim_ev ⟨max k0 k1, fun k hk => by simp only [evC, h1 k (by omega), h2 k (by omega)]⟩, h3⟩
def RoundsW (E : Env) (K : Kills) (ca cb : IC) (ps G : List Nat) (Q : Ex → List AV → Prop) : List (List AV) → List AV → Prop
  | [], σ => Q .nor σ
  | row :: rows, σ => row.length = ps.length ∧ Wp E K ca (putPs ps row σ) fun ex σ1 => ex = .nor ∧ Wp E K cb σ1 fun ex2 σ2 => ex2 = .nor ∧ RoundsW E K ca cb ps G Q rows (keepG G σ2)
theorem rounds_lim {ca cb : IC} {ps G : List Nat} : ∀ {rows : List (List AV)} {σ : List AV}, RoundsW E K ca cb ps G Q rows σ → ∃ ex σ', Lim (fun k => rangeGo (evC E k K ca) (evC E k K cb) ps G rows σ) (ex, σ') ∧ Q ex σ'
  | [], σ, h => ⟨_, _, ⟨0, fun _ _ => rfl⟩, h⟩
  | row :: rows, σ, h => by
    obtain ⟨hl, ex1, σ1, ⟨k0, h1⟩, rfl, ex2, σ2, ⟨k1, h2⟩, rfl, h3⟩ := h
    obtain ⟨ex, σ', ⟨k2, h4⟩, h5⟩ := rounds_lim h3
    exact ⟨ex, σ', ⟨max k0 (max k1 k2), fun k hk => by simp only [rangeGo, if_pos hl, h1 k (by omega), h2 k (by omega)]; exact h4 k (by omega)⟩, h5⟩
theorem wpI_range {x : Nat} {ps G : List Nat} {ca cb : IC} {gf : Nat} {caps : List AV} {cs : List (List PV)} {kd : ItKind} {z : Nat} {rows : List (List AV)} (hx : σ.getD x .u = .clo gf caps) (hit : E.it gf = some (kd, z)) (hcs : fpCaps caps = some cs)
    (hrows : rowsOf kd z cs = some rows) (hps : ps.all (fun p => decide (p < σ.length)) = true) (h : RoundsW E K ca cb ps G Q rows (keepG G σ)) : Wp E K (.range x ps G ca cb) σ Q := by
  obtain ⟨ex, σ', ⟨k0, h1⟩, h2⟩ := rounds_lim h
  exact ⟨ex, σ', lim_ev ⟨k0, fun k hk => by simp only [evC, hx, hit, hcs, hrows, hps, if_true]; exact h1 k hk⟩, h2⟩
def doneW (i : IFn) (as : List AV) (r : CRes) (ex : Ex) (σ : List AV) : Prop :=
  (ex = .nor ∨ ex = .ret) ∧ (((resP i.kills i.res).run σ).bind fun (rs, σ) => ((backP i.kills i.keeps as 0).run σ).bind fun (bs, _) => some (rs, bs)) = some r
theorem ans_of_wp {f : Nat} {i : IFn} {as : List AV} {r : CRes} (hx : E.ext f = none) (hp : E.prog f = some i) (hn : as.length = i.np ∧ i.np ≤ i.nt) (h : Wp E i.kills i.body (as ++ List.replicate (i.nt - i.np) .u) (doneW i as r)) : ansOf E f as = some r := by
  rw [ansOf_eq]
  obtain ⟨ex, σ1, ⟨k0, h1⟩, hex, h3⟩ := h
  refine ⟨k0, fun k hk => ?_⟩
  simp only [callF, callBody, hx, hp, bodyOf, if_pos hn, h1 k hk]
  rcases hex with rfl | rfl <;> exact h3
theorem ans_ext {f : Nat} {g : List AV → Option CRes} {as : List AV} {r : CRes} (hx : E.ext f = some g) (h : g as = some r) : ansOf E f as = some r := by
  rw [ansOf_eq]
  exact ⟨0, fun k _ => by simp only [callF, callBody, hx, h]⟩
theorem callF_of_ans {f : Nat} {as : List AV} {r : CRes} (h : ansOf E f as = some r) : ∃ k, callF E k f as = some r := by
  obtain ⟨k0, hk⟩ := ansOf_eq.1 h
  exact ⟨k0, hk k0 (Nat.le_refl _)⟩
end
end Go.Pv
end

section
namespace Go.Pv
set_option linter.unusedVariables false
set_option linter.unusedSimpArgs false
section
variable {K : Kills} {E : Env} {σ σ' : List AV}
def Le (g g' : Kills → IC → List AV → Option (Ex × List AV)) : Prop := ∀ K c σ r, g K c σ = some r → g' K c σ = some r
end
end Go.Pv
end

section
namespace Go.Pv
open Go.RowKit
set_option linter.unusedVariables false
set_option linter.unusedSimpArgs false
def cloneE (z bytes : Nat) : List AV → Option CRes
  | [.w (.p (.sl z' els))] => if z' = z ∧ els.length ≤ 140737488351232 ∧ els.length * bytes ≤ 140737488351232 then some ([(false, [.own z (plains els)])], []) else none
  | _ => none
theorem clone_ok {P : Program} {I : World → Prop} {f z bytes : Nat} (h : CloneRaw P f z bytes) : ∀ as r, cloneE z bytes as = some r → FnOk P f ∧ CallOk I P f as r := by
  intro as r hr
  unfold cloneE at hr
  split at hr
  case h_2 => simp at hr
  rename_i z' els
  split at hr
  case isFalse => simp at hr
  rename_i hc
  obtain ⟨rfl, h1, h2⟩ := hc
  obtain rfl := Option.some.inj hr
  refine ⟨h.fn, fun O hIO vs w Fz T hOw hTO hargs hTd hTt hFz => ?_⟩
  have hl : vs.length = 1 := hargs.1
  match vs, hl with
  | [v], _ =>
    have hv : ArgOk w Fz (.w (.p (.sl z' els))) v (T 0) := hargs.2 0 _ v rfl rfl
    have he : clEls z' bytes [.p (.sl z' els)] = some (plains els) := if_pos ⟨rfl, h1, h2⟩
    obtain ⟨g1, g2, g3, vs, g4, g5⟩ := clEls_ok (w := w) (Fz := Fz) (T := T 0) (v := v) h.pos hFz he ⟨T 0, fun _ => False, hv, trivial, fun _ q => q, fun _ q => q.elim, fun _ _ q => q⟩
    exact raw_after rfl h hFz g1 g2 g3 g4 g5
end Go.Pv
end

section
namespace Go.Pv
set_option linter.unusedVariables false
set_option linter.unusedSimpArgs false
abbrev Asc := List (Nat × AV)
def look : Asc → Nat → AV
  | [], _ => .u
  | (t', v) :: r, t => if t' = t then v else look r t
def ins (t : Nat) (v : AV) (l : Asc) : Asc := (t, v) :: l
def keepS : List Nat → Asc → Asc
  | [], _ => []
  | k :: ks, l => match look l k with
    | .u => keepS ks l
    | v => (k, v) :: keepS ks l
def killF (c : AV → Bool) (ts : List Nat) : Asc → Asc
  | [] => []
  | (t, v) :: r => (t, if c v && ts.contains t then .u else v) :: killF c ts r
namespace Pg
def runS {α : Type} (n : Nat) : Pg α → Asc → Option (α × Asc)
  | .ret x, l => some (x, l)
  | .fail, _ => none
  | .get t k, l => (k (look l t)).runS n l
  | .put t v k, l => if t < n then k.runS n (ins t v l) else none
  | .kill c ts k, l => k.runS n (killF c ts l)
  | .getl t k, l => (k (look l t).rowLen).runS n l
  | .pute t v k, l => if sameRow v (look l t) then (if t < n then k.runS n (ins t v l) else none) else none
def logS {α : Type} (n : Nat) : Pg α → Asc → Lg → Lg
  | .ret _, _, L | .fail, _, L => L
  | .get t k, l, L => (k (look l t)).logS n l (L.rd t (look l t))
  | .put t v k, l, L => k.logS n (ins t v l) (L.wt t v)
  | .kill c ts k, l, L => k.logS n (killF c ts l) (L.ki c ts)
  | .getl t k, l, L => (k (look l t).rowLen).logS n l (L.rl t (look l t))
  | .pute t v k, l, L => k.logS n (ins t v l) ((L.rl t (look l t)).we t v)
end Pg
theorem look_ins (t : Nat) (v : AV) (l : Asc) (t' : Nat) : look (ins t v l) t' = if t = t' then v else look l t' := rfl
theorem look_keep (l : Asc) : ∀ (ks : List Nat) (t : Nat), look (keepS ks l) t = .u ∨ look (keepS ks l) t = look l t
  | [], t => .inl rfl
  | k :: ks, t => by
    have ih := look_keep l ks t
    simp only [keepS]
    split
    · exact ih
    · simp only [look]; split
      · rename_i e; subst e; exact .inr rfl
      · exact ih
theorem look_killF (c : AV → Bool) (ts : List Nat) : ∀ (l : Asc) (t : Nat), look (killF c ts l) t = if ts.contains t && c (look l t) then .u else look l t
  | [], t => by simp [killF, look]
  | (s, w) :: r, t => by
    have ih := look_killF c ts r t
    simp only [killF, look]
    by_cases e : s = t
    · subst e; simp only [if_true, Bool.and_comm]
    · simp only [if_neg e, ih]
def Up (n : Nat) (l : Asc) (σ : List AV) : Prop := σ.length = n ∧ ∀ t, look l t = .u ∨ look l t = σ.getD t .u
theorem Up.keep {n : Nat} {l : Asc} {σ : List AV} (h : Up n l σ) (ks : List Nat) : Up n (keepS ks l) σ := ⟨h.1, fun t => by
  rcases look_keep l ks t with e | e
  · exact .inl e
  · rw [e]; exact h.2 t⟩
theorem Up.put {n t : Nat} {l : Asc} {σ : List AV} (h : Up n l σ) (ht : t < n) (v : AV) : Up n (ins t v l) (σ.set t v) := ⟨by simp [h.1], fun t' => by
  rw [look_ins]
  split
  · rename_i e; subst e
    right
    simp [h.1, ht]
  · rename_i e
    rcases h.2 t' with q | q
    · exact .inl q
    · right; rw [q]; simp [List.getD_eq_getElem?_getD, List.getElem?_set_ne e]⟩
theorem Up.kill {n : Nat} {l : Asc} {σ : List AV} {c : AV → Bool} {ts : List Nat} (h : Up n l σ) : Up n (killF c ts l) (killL c ts σ) := ⟨by rw [killL_len]; exact h.1, fun t => by
  rw [look_killF c ts, killL_get]
  rcases h.2 t with q | q
  · rw [q]; left; simp
  · rw [q]; right; rfl⟩
def Good {α : Type} (p : Pg α) : Prop := ∀ (n : Nat) (l : Asc) (σ : List AV) (x : α) (l' : Asc), Up n l σ → p.runS n l = some (x, l') → ∃ σ', p.run σ = some (x, σ') ∧ Up n l' σ' ∧ ∀ L, p.log σ L = p.logS n l L
section
variable {α β : Type}
theorem good_ret (x : α) : Good (.ret x) := fun n l σ y l' h hr => by
  simp only [Pg.runS, Option.some.injEq, Prod.mk.injEq] at hr
  obtain ⟨rfl, rfl⟩ := hr
  exact ⟨σ, rfl, h, fun _ => rfl⟩
theorem good_fail : Good (.fail : Pg α) := fun n l σ y l' h hr => by simp [Pg.runS] at hr
theorem runS_bind {n : Nat} (p : Pg α) (f : α → Pg β) (l : Asc) : (p.bind f).runS n l = (p.runS n l).bind fun r => (f r.1).runS n r.2 := by
  induction p generalizing l with
  | ret x => rfl
  | fail => rfl
  | get t k ih => exact ih _ _
  | put t v k ih =>
    simp only [Pg.bind, Pg.runS]
    split
    · exact ih _
    · rfl
  | kill c ts k ih => exact ih _
  | getl t k ih => exact ih _ _
  | pute t v k ih =>
    simp only [Pg.bind, Pg.runS]
    split
    · split
      · exact ih _
      · rfl
    · rfl
theorem logS_bind {n : Nat} (p : Pg α) (f : α → Pg β) (l : Asc) (L : Lg) {r : α × Asc} (h : p.runS n l = some r) : (p.bind f).logS n l L = (f r.1).logS n r.2 (p.logS n l L) := by
  induction p generalizing l L with
  | ret x =>
    simp only [Pg.runS, Option.some.injEq] at h
    subst h; simp [Pg.bind, Pg.logS]
  | fail => simp [Pg.runS] at h
  | get t k ih => simp only [Pg.bind, Pg.logS]; exact ih _ l _ h
  | put t v k ih =>
    simp only [Pg.runS] at h
    split at h
    · simp only [Pg.bind, Pg.logS]; exact ih _ _ h
    · simp at h
  | kill c ts k ih => simp only [Pg.bind, Pg.logS]; exact ih _ _ h
  | getl t k ih => simp only [Pg.bind, Pg.logS]; exact ih _ l _ h
  | pute t v k ih =>
    simp only [Pg.runS] at h
    split at h
    · split at h
      · simp only [Pg.bind, Pg.logS]; exact ih _ _ h
      · simp at h
    · simp at h
theorem good_bind {p : Pg α} {f : α → Pg β} (hp : Good p) (hf : ∀ x, Good (f x)) : Good (p.bind f) := fun n l σ y l' h hr => by
  rw [runS_bind] at hr
  obtain ⟨⟨x, l1⟩, h1, h2⟩ := Option.bind_eq_some_iff.1 hr
  obtain ⟨σ1, a1, a2, a3⟩ := hp n l σ x l1 h h1
  obtain ⟨σ2, b1, b2, b3⟩ := hf x n l1 σ1 y l' a2 h2
  refine ⟨σ2, ?_, b2, fun L => ?_⟩
  · rw [run_bind_eq, a1]; exact b1
  · rw [log_bind_eq, a1, logS_bind p f l L h1]
    simp only [a3, b3]
theorem good_get {t : Nat} {k : AV → Pg α} (hk : ∀ v, Good (k v)) (hu : ∀ n l, (k .u).runS n l = none) : Good (.get t k) := fun n l σ y l' h hr => by
  simp only [Pg.runS] at hr
  rcases h.2 t with e | e
  · rw [e, hu] at hr; simp at hr
  · obtain ⟨σ1, a1, a2, a3⟩ := hk _ n l σ y l' h hr
    rw [e] at a1 a3
    refine ⟨σ1, a1, a2, fun L => ?_⟩
    simp only [Pg.log, Pg.logS, e]
    exact a3 _
theorem good_put {t : Nat} {v : AV} {k : Pg α} (hk : Good k) : Good (.put t v k) := fun n l σ y l' h hr => by
  simp only [Pg.runS] at hr
  split at hr
  · rename_i ht
    obtain ⟨σ1, a1, a2, a3⟩ := hk n _ _ y l' (h.put ht v) hr
    refine ⟨σ1, a1, a2, fun L => ?_⟩
    simp only [Pg.log, Pg.logS]
    rw [if_pos (by rw [h.1]; exact ht)]
    exact a3 _
  · simp at hr
theorem good_getl {t : Nat} {k : Option (Bool × Nat) → Pg α} (hk : ∀ v, Good (k v)) (hu : ∀ n l, (k none).runS n l = none) : Good (.getl t k) := fun n l σ y l' h hr => by
  simp only [Pg.runS] at hr
  rcases h.2 t with e | e
  · rw [e] at hr; simp only [AV.rowLen, hu] at hr; simp at hr
  · obtain ⟨σ1, a1, a2, a3⟩ := hk _ n l σ y l' h hr
    rw [e] at a1 a3
    refine ⟨σ1, a1, a2, fun L => ?_⟩
    simp only [Pg.log, Pg.logS, e]
    exact a3 _
theorem good_pute {t : Nat} {v : AV} {k : Pg α} (hk : Good k) : Good (.pute t v k) := fun n l σ y l' h hr => by
  simp only [Pg.runS] at hr
  split at hr
  · rename_i hs
    split at hr
    · rename_i ht
      have e : look l t = σ.getD t .u := by
        rcases h.2 t with e | e
        · rw [e] at hs
          have := (sameRow_iff hs).2
          simp [AV.rowLen] at this
        · exact e
      obtain ⟨σ1, a1, a2, a3⟩ := hk n _ _ y l' (h.put ht v) hr
      refine ⟨σ1, ?_, a2, fun L => ?_⟩
      · simp only [Pg.run]
        rw [if_pos (by rw [← e]; exact hs)]
        exact a1
      · simp only [Pg.log, Pg.logS]
        rw [if_pos (by rw [← e]; exact hs), e]
        exact a3 _
    · simp at hr
  · simp at hr
theorem good_killC {c : AV → Bool} {ts : List Nat} {k : Pg α} (hk : Good k) : Good (.kill c ts k) := fun n l σ y l' h hr => by
  obtain ⟨σ1, a1, a2, a3⟩ := hk n _ _ y l' h.kill hr
  exact ⟨σ1, a1, a2, fun L => a3 _⟩
theorem good_opt (x : Option α) : Good (Pg.opt x) := by cases x <;> first | exact good_fail | exact good_ret _
theorem good_guard (c : Bool) : Good (Pg.guard c) := by unfold Pg.guard; split <;> first | exact good_fail | exact good_ret _
theorem good_ite {c : Prop} [Decidable c] {p q : Pg α} (hp : Good p) (hq : Good q) : Good (if c then p else q) := by split <;> assumption
end
theorem good_kill (c : AV → Bool) (ts : List Nat) : Good (killIf c ts) := good_killC (good_ret _)
section
variable (K : Kills)
theorem good_wr (d : Nat) (v : AV) : Good (wr K d v) := good_bind (good_kill _ _) fun _ => good_put (good_ret _)
theorem good_killMem (d : Nat) : Good (killMem K d) := good_kill _ _
theorem good_killEl (d : Nat) (ts : List Nat) : Good (killIf (AV.onEl d) ts) := good_kill _ _
theorem good_getPl (pl : Pl) (n : Nat) : Good (getPl pl n) := good_get (fun v => good_opt _) fun m l => by cases pl <;> simp [getIn, AV.cells, slot, Pg.opt, Pg.runS]
theorem good_putR (pl : Pl) (v : AV) : Good (putR pl v) := by unfold putR; split <;> first | exact good_pute (good_ret _) | exact good_put (good_ret _)
theorem good_putPl (pl : Pl) (cs : List OV) : Good (putPl pl cs) := good_get (fun v => good_bind (good_opt _) fun _ => good_putR _ _) fun m l => by cases pl <;> simp [putIn, AV.cells, slot, Pg.opt, Pg.runS, Pg.bind]
theorem good_valOf (x : Nat) (v : AV) : Good (valOf x v) := by
  unfold valOf
  split <;> first | exact good_ret _ | exact good_fail | skip
  · refine good_get (fun v => ?_) (fun m l => by simp [AV.cells, Pg.runS])
    split
    · split <;> first | exact good_ret _ | exact good_fail
    · exact good_fail
  · exact good_bind (good_getPl _ _) fun _ => good_ret _
  · refine good_get (fun v => ?_) (fun m l => by simp [Pg.runS])
    split
    · exact good_bind (good_opt _) fun _ => good_ret _
    · exact good_fail
  · exact good_bind (good_getPl _ _) fun _ => good_bind (good_opt _) fun _ => good_ret _
theorem good_val (x : Od) : Good (val x) := by
  unfold val
  split
  · split <;> first | exact good_ret _ | exact good_fail
  · exact good_get (fun v => good_valOf _ v) fun m l => by simp [valOf, Pg.runS]
theorem good_copy (v : Val) : Good (copy v) := by
  unfold copy
  split
  · exact good_ret _
  · split
    · split
      · exact good_ret _
      · exact good_bind (good_putPl _ _) fun _ => good_ret _
      · exact good_bind (good_getPl _ _) fun _ => good_bind (good_guard _) fun _ => good_bind (good_putPl _ _) fun _ => good_ret _
    · exact good_fail
theorem good_take (v : Val) : Good (take K v) := by
  unfold take
  split
  · exact good_ret _
  · split
    · exact good_ret _
    · exact good_bind (good_wr K _ _) fun _ => good_ret _
    · exact good_bind (good_putPl _ _) fun _ => good_bind (good_killEl _ _) fun _ => good_ret _
    · exact good_bind (good_wr K _ _) fun _ => good_ret _
    · exact good_bind (good_putPl _ _) fun _ => good_bind (good_killEl _ _) fun _ => good_ret _
theorem good_out (dst : Option Nat) (v : AV) : Good (out K dst v) := by unfold out; split <;> first | exact good_wr K _ _ | exact good_ret _
theorem good_outOn (dst : Option Nat) (h : Nat) (v : AV) : Good (outOn K dst h v) := by
  unfold outOn; split
  · exact good_ite (good_wr K _ _) good_fail
  · exact good_ret _
theorem good_outVal (dst : Option Nat) (ag : Bool) (cs : List OV) : Good (outVal K dst ag cs) := good_bind (good_opt _) fun _ => good_out K _ _
theorem good_sc (x : Od) : Good (sc x) := by
  refine good_bind (good_val x) fun v => ?_
  split <;> first | exact good_ret _ | exact good_fail
theorem good_scInt (x : Od) : Good (scInt x) := by
  refine good_bind (good_sc x) fun v => ?_
  split <;> first | exact good_ret _ | exact good_fail
theorem good_movPtr (dst : Option Nat) (i : Nat) (els : Pg Unit) (v : AV) (h : Good els) : Good (movPtr K dst i els v) := by
  unfold movPtr
  split <;> first | exact good_outOn K _ _ _ | exact good_out K _ _ | exact h | skip
  split
  · exact good_ite (good_wr K _ _) good_fail
  · exact good_ret _
theorem good_movVal (dst : Option Nat) (i : Nat) (v : AV) : Good (movVal K dst i v) := by
  unfold movVal
  split <;> first | exact good_outOn K _ _ _ | exact good_fail | exact good_bind (good_wr K _ _) (fun _ => good_out K _ _) | skip
  · exact good_ite (good_out K _ _) (good_outOn K _ _ _)
  · exact good_ite (good_out K _ _) (good_outOn K _ _ _)
theorem good_adr (x : Od) : Good (adr x) := by
  unfold adr
  split
  · refine good_get (fun v => ?_) fun m l => rfl
    split <;> first | exact good_ret _ | exact good_fail
  · exact good_fail
theorem good_build : ∀ (ps : List (Nat × Nat × Od)) (cs : List OV), Good (buildP K cs ps)
  | [], cs => good_ret _
  | (off, n, x) :: r, cs => good_bind (good_val x) fun v => good_bind (good_guard _) fun _ => good_bind (good_take K v) fun new => good_bind (good_opt _) fun cs' => good_build r cs'
theorem good_bslice (z : Nat) : ∀ (ps : List (Nat × Od)) (els : List (List OV)), Good (bsliceP K z els ps)
  | [], cs => good_ret _
  | (i, x) :: r, cs => good_bind (good_val x) fun v => good_bind (good_guard _) fun _ => good_bind (good_take K v) fun new => good_bslice z r _
theorem good_ends (len : Nat) (lo hi : Option Od) : Good (ends len lo hi) := by
  unfold ends
  refine good_bind ?_ fun a => good_bind ?_ fun b => good_ite (good_ret _) good_fail
  · split <;> first | exact good_scInt _ | exact good_ret _
  · split <;> first | exact good_scInt _ | exact good_ret _
theorem good_argP (x : Od × Bool) : Good (argP K x) := by
  unfold argP
  split
  · split <;> first | exact good_ret _ | exact good_fail | exact good_ite (good_ret _) good_fail
  · refine good_get (fun v => ?_) fun m l => ?_
    · split
      · exact good_bind (good_killMem K _) fun _ => good_put (good_ret _)
      · refine good_get (fun v => ?_) fun m l => rfl
        split
        · exact good_bind (good_killMem K _) fun _ => good_put (good_ret _)
        · exact good_fail
      · exact good_ret _
      · exact good_ite (good_ret _) good_fail
      · refine good_bind (good_valOf _ _) fun v => good_ite (good_bind (good_take K _) fun _ => good_bind (good_opt _) fun _ => good_ret _) (good_bind (good_copy _) fun _ => good_bind (good_opt _) fun _ => good_ret _)
    · simp [valOf, Pg.bind, Pg.runS]
theorem good_argsP : ∀ xs, Good (argsP K xs)
  | [] => good_ret _
  | x :: xs => good_bind (good_argP K x) fun (a, l) => good_bind (good_argsP xs) fun (as, ls) => good_ret _
theorem good_capsP : ∀ xs, Good (capsP K xs)
  | [] => good_ret _
  | x :: xs => by
    unfold capsP
    split
    · exact good_ret _
    · rename_i d r h
      obtain ⟨_, rfl⟩ := List.cons.inj h
      refine good_get (fun v => ?_) fun m l => rfl
      split
      · exact good_bind (good_killMem K _) fun _ => good_put (good_bind (good_capsP _) fun _ => good_ret _)
      · exact good_fail
    · rename_i h
      obtain ⟨_, rfl⟩ := List.cons.inj h
      exact good_ite (good_bind (good_capsP _) fun _ => good_ret _) good_fail
    · rename_i h
      obtain ⟨_, rfl⟩ := List.cons.inj h
      exact good_ite (good_bind (good_capsP _) fun _ => good_ret _) good_fail
    · exact good_fail
theorem good_giveBack : ∀ ls bs, Good (giveBack K ls bs)
  | [], [] => good_ret _
  | d :: ds, cs :: css => good_put (good_bind (good_killMem K _) fun _ => good_giveBack ds css)
  | [], _ :: _ => good_fail
  | _ :: _, [] => good_fail
theorem good_outRes (dst : Option Nat) (rs : List (Bool × List OV)) : Good (outRes K dst rs) := by
  unfold outRes
  split <;> first | exact good_outVal K _ _ _ | exact good_out K _ _
theorem good_callP (callf : Nat → List AV → Option CRes) (dst : Option Nat) (f : Nat) (as : List AV) (ls : List Nat) : Good (callP K callf dst f as ls) := by
  unfold callP
  exact good_bind (good_opt _) fun (rs, bs) => good_bind (good_giveBack K _ _) fun _ => good_outRes K _ _
def notU (l : List AV) : Bool := l.all fun v => !v.isU
theorem capsOn_notU (d : Nat) : ∀ cs, capsOn K d cs = true → notU cs = true
  | [], _ => rfl
  | c :: cs, h => by
    unfold capsOn at h
    split at h
    · rename_i e; simp at e
    · rename_i e; obtain ⟨rfl, rfl⟩ := List.cons.inj e
      simp only [Bool.and_eq_true] at h
      simpa [notU, AV.isU] using capsOn_notU d _ h.2
    · rename_i e; obtain ⟨rfl, rfl⟩ := List.cons.inj e
      simp only [Bool.and_eq_true] at h
      simpa [notU, AV.isU] using capsOn_notU d _ h.2
    · rename_i e; obtain ⟨rfl, rfl⟩ := List.cons.inj e
      simp only [Bool.and_eq_true] at h
      simpa [notU, AV.isU] using capsOn_notU d _ h.2
    · rename_i e; obtain ⟨rfl, rfl⟩ := List.cons.inj e
      simpa [notU, AV.isU] using capsOn_notU d _ h
    · simp at h
theorem caps_good : ∀ (caps : List Od) (n : Nat) (l : Asc) (σ : List AV) (x : List AV) (l' : Asc), Up n l σ → (opP.capsM caps).runS n l = some (x, l') → notU x = true → ∃ σ', (opP.capsM caps).run σ = some (x, σ') ∧ Up n l' σ' ∧ ∀ L, (opP.capsM caps).log σ L = (opP.capsM caps).logS n l L
  | [], n, l, σ, x, l', h, hr, _ => good_ret _ n l σ x l' h hr
  | .c v :: r, n, l, σ, x, l', h, hr, hx => by
    simp only [opP.capsM] at hr ⊢
    rw [runS_bind] at hr
    obtain ⟨⟨y, l1⟩, h1, h2⟩ := Option.bind_eq_some_iff.1 hr
    simp only [Pg.runS, Option.some.injEq, Prod.mk.injEq] at h2
    obtain ⟨rfl, rfl⟩ := h2
    simp only [notU, List.all_cons, Bool.and_eq_true] at hx
    obtain ⟨σ1, a1, a2, a3⟩ := caps_good r n l σ y l1 h h1 hx.2
    refine ⟨σ1, by rw [run_bind_eq, a1]; rfl, a2, fun L => ?_⟩
    rw [log_bind_eq, a1, logS_bind _ _ l L h1]
    simp only [Pg.log, Pg.logS, a3]
  | .t i :: r, n, l, σ, x, l', h, hr, hx => by
    have key : ∀ v : AV, v.isU = false → ∀ (hr : (match v with | .box _ => (opP.capsM r).bind fun cs => Pg.ret (AV.ptr (.b i 0) :: cs) | v => (opP.capsM r).bind fun cs => Pg.ret (v :: cs)).runS n l = some (x, l')), ∃ σ', (match v with | .box _ => (opP.capsM r).bind fun cs => Pg.ret (AV.ptr (.b i 0) :: cs) | v => (opP.capsM r).bind fun cs => Pg.ret (v :: cs)).run σ = some (x, σ') ∧ Up n l' σ' ∧
        ∀ L, (match v with | .box _ => (opP.capsM r).bind fun cs => Pg.ret (AV.ptr (.b i 0) :: cs) | v => (opP.capsM r).bind fun cs => Pg.ret (v :: cs)).log σ L = (match v with | .box _ => (opP.capsM r).bind fun cs => Pg.ret (AV.ptr (.b i 0) :: cs) | v => (opP.capsM r).bind fun cs => Pg.ret (v :: cs)).logS n l L := by
      intro v hv hr
      have one : ∀ w : AV, ((opP.capsM r).bind fun cs => Pg.ret (w :: cs)).runS n l = some (x, l') → ∃ σ', ((opP.capsM r).bind fun cs => Pg.ret (w :: cs)).run σ = some (x, σ') ∧ Up n l' σ' ∧ ∀ L, ((opP.capsM r).bind fun cs => Pg.ret (w :: cs)).log σ L = ((opP.capsM r).bind fun cs => Pg.ret (w :: cs)).logS n l L := by
        intro w hr
        rw [runS_bind] at hr
        obtain ⟨⟨y, l1⟩, h1, h2⟩ := Option.bind_eq_some_iff.1 hr
        simp only [Pg.runS, Option.some.injEq, Prod.mk.injEq] at h2
        obtain ⟨rfl, rfl⟩ := h2
        simp only [notU, List.all_cons, Bool.and_eq_true] at hx
        obtain ⟨σ1, a1, a2, a3⟩ := caps_good r n l σ y l1 h h1 hx.2
        refine ⟨σ1, by rw [run_bind_eq, a1]; rfl, a2, fun L => ?_⟩
        rw [log_bind_eq, a1, logS_bind _ _ l L h1]
        simp only [Pg.log, Pg.logS, a3]
      cases v <;> first | exact one _ hr
    simp only [opP.capsM, Pg.runS] at hr
    have hu : (look l i).isU = false := by
      cases hv : look l i with
      | u =>
        rw [hv] at hr
        simp only [runS_bind] at hr
        obtain ⟨⟨y, l1⟩, h1, h2⟩ := Option.bind_eq_some_iff.1 hr
        simp only [Pg.runS, Option.some.injEq, Prod.mk.injEq] at h2
        obtain ⟨rfl, rfl⟩ := h2
        simp [notU, AV.isU] at hx
      | _ => rfl
    have e : look l i = σ.getD i .u := by
      rcases h.2 i with q | q
      · rw [q] at hu; simp [AV.isU] at hu
      · exact q
    obtain ⟨σ1, a1, a2, a3⟩ := key _ hu hr
    refine ⟨σ1, by simp only [opP.capsM, Pg.run, ← e]; exact a1, a2, fun L => ?_⟩
    simp only [opP.capsM, Pg.log, Pg.logS, ← e]
    exact a3 _
theorem good_mkf (d f : Nat) (caps : List Od) : Good ((opP.capsM caps).bind fun cs => if capsOn K d cs then wr K d (.clo f cs) else .fail) := fun n l σ y l' h hr => by
  have hr' := hr
  rw [runS_bind] at hr
  obtain ⟨⟨x, l1⟩, h1, h2⟩ := Option.bind_eq_some_iff.1 hr
  have hc : capsOn K d x = true := by
    simp only at h2
    split at h2
    · assumption
    · simp [Pg.runS] at h2
  obtain ⟨σ1, a1, a2, a3⟩ := caps_good caps n l σ x l1 h h1 (capsOn_notU K d x hc)
  have hg : Good (if capsOn K d x then wr K d (.clo f x) else .fail) := good_ite (good_wr K _ _) good_fail
  obtain ⟨σ2, b1, b2, b3⟩ := hg n l1 σ1 y l' a2 h2
  refine ⟨σ2, by rw [run_bind_eq, a1]; exact b1, b2, fun L => ?_⟩
  rw [log_bind_eq, a1, logS_bind _ _ l L h1]
  simp only [a3, b3]
theorem good_mapOf (m : Od) : Good (mapOf m) := by
  cases m with
  | c v => exact good_fail
  | t i =>
    refine good_get (fun v => ?_) fun n l => rfl
    split
    · exact good_ret _
    · refine good_get (fun v => ?_) fun n l => rfl
      split
      · exact good_ret _
      · exact good_fail
    · exact good_fail
theorem good_op (callf : Nat → List AV → Option CRes) (dst : Option Nat) (op : IOp) : Good (opP K callf dst op) := by
  have hb : ∀ {α β : Type} {p : Pg α} {f : α → Pg β}, Good p → (∀ x, Good (f x)) → Good (p.bind f) := fun h h' => good_bind h h'
  cases op with
  | mov x =>
    cases x with
    | c v => exact good_out K _ _
    | t i => exact good_get (fun v => good_movPtr K _ _ _ _ (good_movVal K _ _ _)) fun n l => rfl
  | asg x =>
    cases x with
    | c v => exact good_out K _ _
    | t i =>
      refine good_get (fun v => ?_) fun n l => rfl
      split
      · exact good_outOn K _ _ _
      · refine good_get (fun v => ?_) fun n l => rfl
        split
        · exact good_outOn K _ _ _
        · exact good_fail
        · exact good_bind (good_valOf _ _) fun v => good_bind (good_take K _) fun _ => good_outVal K _ _ _
      · exact good_movPtr K _ _ _ _ (good_bind (good_valOf _ _) fun v => good_bind (good_take K _) fun _ => good_outVal K _ _ _)
  | frz x =>
    cases x with
    | c v => exact good_out K _ _
    | t i =>
      refine good_get (fun v => ?_) fun n l => rfl
      split
      · exact good_bind (good_guard _) fun _ => good_put (good_movVal K _ _ _)
      · exact good_movPtr K _ _ _ _ (good_bind (good_valOf _ _) fun v => good_bind (good_copy _) fun _ => good_outVal K _ _ _)
  | loadf n ag x =>
    refine good_bind (good_adr x) fun v => ?_
    cases v with
    | inl pl => exact good_bind (good_getPl _ _) fun cs => good_bind (good_copy _) fun _ => good_outVal K _ _ _
    | inr cs => exact good_bind (good_guard _) fun _ => good_outVal K _ _ _
  | pick c a b =>
    refine good_bind (good_sc c) fun v => ?_
    cases v <;> first | exact good_fail | exact good_bind (good_sc _) fun _ => good_out K _ _
  | alloc z => exact good_out K _ _
  | box x => exact good_bind (good_val _) fun _ => good_bind (good_guard _) fun _ => good_bind (good_take K _) fun _ => good_out K _ _
  | build z ps => exact good_bind (good_build K _ _) fun _ => good_out K _ _
  | bslice z ze n ps => exact good_bind (good_bslice K _ _ _) fun _ => good_out K _ _
  | load n ag x =>
    refine good_bind (good_adr x) fun v => ?_
    cases v with
    | inl pl => exact good_bind (good_getPl _ _) fun cs => good_ite (good_outVal K _ _ _) (good_outOn K _ _ _)
    | inr cs => exact good_bind (good_guard _) fun _ => good_outVal K _ _ _
  | store n x v keep =>
    refine good_bind (good_adr x) fun pl => ?_
    cases pl with
    | inr cs => exact good_fail
    | inl pl =>
      refine good_bind (good_val v) fun v => good_bind (good_guard _) fun _ => good_bind ?_ fun cs => good_bind (good_putPl _ _) fun _ => good_killMem K _
      split
      · exact good_bind (good_copy _) fun _ => good_ret _
      · exact good_take K _
  | mkm => exact good_out K _ _
  | rng x =>
    refine good_bind (good_sc x) fun v => ?_
    cases v <;> first | exact good_fail | exact good_out K _ _
  | nxt x =>
    cases x with
    | c v => exact good_fail
    | t i =>
      refine good_get (fun v => ?_) fun n l => rfl
      split
      · exact good_ite (good_bind (good_killMem K _) fun _ => good_put (good_out K _ _)) (good_out K _ _)
      · exact good_fail
  | mup td m k v => exact good_bind (good_mapOf _) fun _ => good_bind (good_sc _) fun _ => good_bind (good_sc _) fun _ => good_bind (good_guard _) fun _ => good_bind (good_opt _) fun _ => good_put (good_ret _)
  | mlk td ok z m k => exact good_bind (good_mapOf _) fun _ => good_bind (good_sc _) fun _ => good_bind (good_guard _) fun _ => good_bind (good_opt _) fun _ => good_ite (good_out K _ _) (good_out K _ _)
  | movk x =>
    cases x with
    | c v => exact good_fail
    | t i =>
      refine good_get (fun v => ?_) fun n l => rfl
      split
      · exact good_bind (good_valOf _ _) fun v => good_bind (good_take K _) fun cs => good_put (good_outVal K _ _ _)
      · exact good_fail
  | movl x =>
    cases x with
    | c v => exact good_fail
    | t i =>
      refine good_getl (fun v => ?_) fun n l => rfl
      cases v <;> first | exact good_fail | exact good_outOn K _ _ _
  | lenl x =>
    cases x with
    | c v => exact good_fail
    | t i =>
      refine good_get (fun v => ?_) fun n l => rfl
      split
      · refine good_getl (fun v => ?_) fun n l => rfl
        split <;> first | exact good_fail | exact good_out K _ _
      · exact good_fail
  | nilchk x =>
    cases x with
    | c v => exact good_fail
    | t i => exact good_get (fun v => good_movPtr K _ _ _ _ good_fail) fun n l => rfl
  | bin o x y => exact good_bind (good_sc x) fun a => good_bind (good_sc y) fun b => good_bind (good_opt _) fun c => good_out K _ _
  | eqs neg ks x y => exact good_bind (good_val x) fun a => good_bind (good_val y) fun b => good_bind (good_guard _) fun _ => good_bind (good_opt _) fun c => good_out K _ _
  | beq neg x y =>
    refine good_bind (good_sc x) fun a => ?_
    cases a <;> first | exact good_fail | skip
    refine good_bind (good_sc y) fun b => ?_
    cases b <;> first | exact good_fail | exact good_out K _ _
  | un o x => exact good_bind (good_sc x) fun a => good_bind (good_opt _) fun c => good_out K _ _
  | cvi k x => exact good_bind (good_scInt x) fun a => good_out K _ _
  | b2s x =>
    refine good_bind (good_val x) fun v => good_bind (good_guard _) fun _ => ?_
    split
    · exact good_bind (good_opt _) fun _ => good_out K _ _
    · exact good_bind (good_guard _) fun _ => good_bind (good_opt _) fun _ => good_out K _ _
    · exact good_fail
  | s2b x =>
    refine good_bind (good_sc x) fun a => ?_
    cases a <;> first | exact good_fail | exact good_out K _ _
  | i2s x => exact good_bind (good_scInt x) fun a => good_out K _ _
  | sid x =>
    refine good_bind (good_sc x) fun a => ?_
    cases a <;> first | exact good_fail | exact good_out K _ _
  | sls x lo hi =>
    refine good_bind (good_sc x) fun a => ?_
    cases a <;> first | exact good_fail | exact good_bind (good_ends _ _ _) fun _ => good_out K _ _
  | slc z x lo hi =>
    refine good_bind (good_val x) fun v => good_bind (good_guard _) fun _ => good_bind (good_opt _) fun len => good_bind (good_ends _ _ _) fun (l, h) => ?_
    dsimp only
    split
    · exact good_ite (good_out K _ _) good_fail
    · refine good_ite ?_ good_fail
      split <;> first | exact good_out K _ _ | exact good_outOn K _ _ _ | exact good_fail
    · exact good_fail
  | fad off x =>
    refine good_bind (good_adr x) fun v => ?_
    cases v <;> first | exact good_outOn K _ _ _ | exact good_out K _ _
  | fld off n ag x => exact good_bind (good_val x) fun v => good_bind (good_guard _) fun _ => good_bind (good_opt _) fun cs => good_bind (good_guard _) fun _ => good_outVal K _ _ _
  | iad z x i =>
    refine good_bind (good_val x) fun v => good_bind (good_guard _) fun _ => good_bind (good_scInt i) fun i => good_bind (good_guard _) fun _ => ?_
    split
    · exact good_ite (good_bind (good_opt _) fun _ => good_out K _ _) good_fail
    · refine good_ite (good_bind (good_guard _) fun _ => ?_) good_fail
      generalize v.src = src
      rcases src with _ | (d | ⟨d, off⟩ | ⟨d, c, z', j, off⟩) | ⟨(d | ⟨d, off⟩ | ⟨d, c, z', j, off⟩), lo⟩ <;> first
        | exact good_outOn K _ _ _
        | (refine good_bind (good_copy _) fun cs => ?_
           split
           · exact good_bind (good_opt _) fun _ => good_out K _ _
           · exact good_fail)
    · exact good_fail
  | ixs x i =>
    refine good_bind (good_sc x) fun a => ?_
    cases a <;> first | exact good_fail | exact good_bind (good_scInt _) fun i => good_bind (good_guard _) fun _ => good_bind (good_opt _) fun _ => good_out K _ _
  | ext x i =>
    cases x with
    | c v => exact good_fail
    | t x =>
      refine good_get (fun v => ?_) fun n l => rfl
      cases v <;> first | exact good_fail | skip
      refine good_bind (good_opt _) fun (ag, cs) => good_ite (good_outVal K _ _ _) (good_pute (good_outVal K _ _ _))
  | call f args => exact good_bind (good_argsP K _) fun (as, ls) => good_callP K _ _ _ _ _
  | callv x args =>
    cases x with
    | c v => exact good_fail
    | t x =>
      refine good_get (fun v => ?_) fun n l => rfl
      cases v <;> first | exact good_fail | skip
      exact good_bind (good_argsP K _) fun (as, ls) => good_bind (good_capsP K _) fun (cs, ms) => good_callP K _ _ _ _ _
  | len s x =>
    cases s with
    | false => exact good_bind (good_val x) fun v => good_bind (good_guard _) fun _ => good_bind (good_opt _) fun n => good_out K _ _
    | true =>
      refine good_bind (good_sc x) fun a => ?_
      cases a <;> first | exact good_fail | exact good_out K _ _
  | app z bytes x y keep =>
    refine good_bind (good_val x) fun v => good_bind (good_guard _) fun _ => ?_
    split
    · refine good_ite (good_bind (good_take K _) fun _ => good_bind (good_val y) fun u => good_bind (good_guard _) fun _ => good_bind (good_ite (good_take K _) (good_bind (good_copy _) fun _ => good_ret _)) fun cs => ?_) good_fail
      split
      · exact good_ite (good_out K _ _) good_fail
      · exact good_ite (good_out K _ _) good_fail
      · exact good_fail
    · exact good_fail
  | apps x y =>
    refine good_bind (good_val x) fun v => good_bind (good_guard _) fun _ => ?_
    split
    · refine good_bind (good_take K _) fun _ => good_bind (good_sc y) fun a => ?_
      cases a <;> first | exact good_fail | exact good_ite (good_out K _ _) good_fail
    · exact good_fail
  | mks z bytes zero n c => exact good_bind (good_scInt n) fun a => good_bind (good_scInt c) fun b => good_ite (good_out K _ _) good_fail
  | mm m x y =>
    refine good_bind (good_sc x) fun a => good_bind (good_sc y) fun b => ?_
    cases a <;> first | exact good_fail | skip
    cases b <;> first | exact good_fail | exact good_ite (good_out K _ _) good_fail
  | nop => exact good_out K _ _
  | extu x i =>
    cases x with
    | c v => exact good_fail
    | t x =>
      refine good_getl (fun v => ?_) fun n l => rfl
      split
      · exact good_ite (good_out K _ _) good_fail
      · exact good_fail
  | cln z b x => exact good_bind (good_val x) fun v => good_bind (good_guard _) fun _ => good_bind (good_opt _) fun cs => good_out K _ _
  | iter gf args => exact good_bind (good_argsP K _) fun (as, ls) => good_bind (good_guard _) fun _ => good_bind (good_opt _) fun cs => good_out K _ _
  | mkf f caps =>
    cases dst with
    | none => exact good_ret _
    | some d => exact good_mkf K d f caps
theorem good_oper (callf : Nat → List AV → Option CRes) (o : IOper) : Good (operP K callf o) := by
  unfold operP
  split
  · exact good_op K _ _ _
  · refine good_get (fun v => ?_) fun n l => rfl
    split
    · refine good_ite (good_op K _ _ _) ?_
      split
      · exact good_wr K _ _
      · exact good_ret _
    · split
      · exact good_wr K _ _
      · exact good_ret _
    · exact good_fail
end
end Go.Pv
end

section
namespace Go.Pv
set_option linter.unusedVariables false
set_option linter.unusedSimpArgs false
def runOpsS (n : Nat) (K : Kills) (cf : Nat → List AV → Option CRes) : List IOper → Asc → Option Asc
  | [], l => some l
  | o :: os, l => ((operP K cf o).runS n l).bind fun r => runOpsS n K cf os r.2
def Pg.runL {α : Type} (n : Nat) : Pg α → Asc → Lg → Option (α × Asc × Lg)
  | .ret x, l, L => some (x, l, L)
  | .fail, _, _ => none
  | .get t k, l, L => (k (look l t)).runL n l (L.rd t (look l t))
  | .put t v k, l, L => if t < n then k.runL n (ins t v l) (L.wt t v) else none
  | .kill c ts k, l, L => k.runL n (killF c ts l) (L.ki c ts)
  | .getl t k, l, L => (k (look l t).rowLen).runL n l (L.rl t (look l t))
  | .pute t v k, l, L => if sameRow v (look l t) then (if t < n then k.runL n (ins t v l) ((L.rl t (look l t)).we t v) else none) else none
def runOpsL (n : Nat) (K : Kills) (cf : Nat → List AV → Option CRes) : List IOper → Asc → Option (Asc × List Lg)
  | [], l => some (l, [])
  | o :: os, l => ((operP K cf o).runL n l .emp).bind fun r => (runOpsL n K cf os r.2.1).bind fun q => some (q.1, r.2.2 :: q.2)
theorem runL_bind {α β : Type} {n : Nat} (p : Pg α) (f : α → Pg β) (l : Asc) (L : Lg) : (p.bind f).runL n l L = (p.runL n l L).bind fun q => (f q.1).runL n q.2.1 q.2.2 := by
  induction p generalizing l L with
  | ret x => rfl
  | fail => rfl
  | get t k ih => exact ih _ _ _
  | put t v k ih =>
    simp only [Pg.bind, Pg.runL]
    split
    · exact ih _ _
    · rfl
  | kill c ts k ih => exact ih _ _
  | getl t k ih => exact ih _ _ _
  | pute t v k ih =>
    simp only [Pg.bind, Pg.runL]
    split
    · split
      · exact ih _ _
      · rfl
    · rfl
theorem runL_runS {α : Type} {n : Nat} (p : Pg α) (l : Asc) (L : Lg) {x : α} {l' : Asc} {L' : Lg} (h : p.runL n l L = some (x, l', L')) : p.runS n l = some (x, l') ∧ p.logS n l L = L' := by
  induction p generalizing l L with
  | ret y =>
    simp only [Pg.runL, Option.some.injEq, Prod.mk.injEq] at h
    obtain ⟨rfl, rfl, rfl⟩ := h
    exact ⟨rfl, rfl⟩
  | fail => simp [Pg.runL] at h
  | get t k ih => exact ih _ _ _ h
  | put t v k ih =>
    simp only [Pg.runL] at h
    split at h
    · rename_i ht
      obtain ⟨a, b⟩ := ih _ _ h
      exact ⟨by simp only [Pg.runS, ht, if_true]; exact a, b⟩
    · simp at h
  | kill c ts k ih => exact ih _ _ h
  | getl t k ih => exact ih _ _ _ h
  | pute t v k ih =>
    simp only [Pg.runL] at h
    split at h
    · rename_i hs
      split at h
      · rename_i ht
        obtain ⟨a, b⟩ := ih _ _ h
        exact ⟨by simp only [Pg.runS, ht, hs, if_true]; exact a, b⟩
      · simp at h
    · simp at h
section
variable {K : Kills} {cf : Nat → List AV → Option CRes} {n : Nat} {E : Env}
theorem ops_up : ∀ (os : List IOper) {l l' : Asc} {σ : List AV}, Up n l σ → runOpsS n K cf os l = some l' → ∃ σ', runOps K cf os σ = some σ' ∧ Up n l' σ'
  | [], l, l', σ, h, hr => by
    simp only [runOpsS, Option.some.injEq] at hr
    subst hr
    exact ⟨σ, rfl, h⟩
  | o :: os, l, l', σ, h, hr => by
    simp only [runOpsS] at hr
    obtain ⟨⟨u, l1⟩, h1, h2⟩ := Option.bind_eq_some_iff.1 hr
    obtain ⟨σ1, a1, a2, _⟩ := good_oper K cf o n l σ u l1 h h1
    obtain ⟨σ2, b1, b2⟩ := ops_up os a2 h2
    exact ⟨σ2, by simp only [runOps, a1, Option.bind_some, b1], b2⟩
theorem opsL_up : ∀ (os : List IOper) {l l' : Asc} {σ : List AV} {lg : List Lg}, Up n l σ → runOpsL n K cf os l = some (l', lg) → ∃ σ', runOps K cf os σ = some σ' ∧ Up n l' σ' ∧ logs K cf os σ = lg
  | [], l, l', σ, lg, h, hr => by
    simp only [runOpsL, Option.some.injEq, Prod.mk.injEq] at hr
    obtain ⟨rfl, rfl⟩ := hr
    exact ⟨σ, rfl, h, rfl⟩
  | o :: os, l, l', σ, lg, h, hr => by
    simp only [runOpsL] at hr
    obtain ⟨⟨u, l1, L1⟩, h1, h2⟩ := Option.bind_eq_some_iff.1 hr
    obtain ⟨⟨l2, lg2⟩, h3, h4⟩ := Option.bind_eq_some_iff.1 h2
    simp only [Option.some.injEq, Prod.mk.injEq] at h4
    obtain ⟨rfl, rfl⟩ := h4
    obtain ⟨c1, c2⟩ := runL_runS _ _ _ h1
    obtain ⟨σ1, a1, a2, a3⟩ := good_oper K cf o n l σ u l1 h c1
    obtain ⟨σ2, b1, b2, b3⟩ := opsL_up os a2 h3
    refine ⟨σ2, by simp only [runOps, a1, Option.bind_some, b1], b2, ?_⟩
    simp only [logs, a1, b3, a3, c2]
def WpS (E : Env) (n : Nat) (K : Kills) (c : IC) (l : Asc) (Q : Ex → Asc → Prop) : Prop := ∀ σ, Up n l σ → Wp E K c σ fun ex σ' => ∃ l', Up n l' σ' ∧ Q ex l'
def LpS (E : Env) (n : Nat) (K : Kills) (a : IC) (Q : Ex → Asc → Prop) (ex : Ex) (l : Asc) : Prop := ∀ σ, Up n l σ → Lp E K a (fun ex σ' => ∃ l', Up n l' σ' ∧ Q ex l') ex σ
def thenS (R : Asc → Prop) (Q : Ex → Asc → Prop) : Ex → Asc → Prop
  | .nor, l => R l
  | ex, l => Q ex l
def blockS (id : Nat) (Q : Ex → Asc → Prop) : Ex → Asc → Prop
  | .exit id', l => if id' = id then Q .nor l else Q (.exit id') l
  | ex, l => Q ex l
variable {Q Q' : Ex → Asc → Prop} {l l1 : Asc}
theorem WpS.mono {c : IC} (h : WpS E n K c l Q) (hq : ∀ ex l', Q ex l' → Q' ex l') : WpS E n K c l Q' := fun σ hu => (h σ hu).mono fun ex σ' ⟨l', h1, h2⟩ => ⟨l', h1, hq _ _ h2⟩
theorem WpS.keep (ks : List Nat) {c : IC} (h : WpS E n K c (keepS ks l) Q) : WpS E n K c l Q := fun σ hu => h σ (hu.keep ks)
theorem LpS.keep (ks : List Nat) {a : IC} {ex : Ex} (h : LpS E n K a Q ex (keepS ks l)) : LpS E n K a Q ex l := fun σ hu => h σ (hu.keep ks)
theorem wpS_skip (h : Q .nor l) : WpS E n K .skip l Q := fun σ hu => wpI_skip ⟨l, hu, h⟩
theorem wpS_label {i : Nat} (h : Q .nor l) : WpS E n K (.label i) l Q := fun σ hu => wpI_label ⟨l, hu, h⟩
theorem wpS_exit {i : Nat} (h : Q (.exit i) l) : WpS E n K (.exit i) l Q := fun σ hu => wpI_exit ⟨l, hu, h⟩
theorem wpS_goto {i : Nat} (h : Q (.goto i) l) : WpS E n K (.goto i) l Q := fun σ hu => wpI_goto ⟨l, hu, h⟩
theorem wpS_ret (h : Q .ret l) : WpS E n K .ret l Q := fun σ hu => wpI_ret ⟨l, hu, h⟩
theorem wpS_regO (ks : List Nat) {os : List IOper} (h : runOpsS n K (ansOf E) os l = some l1) (hq : Q .nor (keepS ks l1)) : WpS E n K (.reg os) l Q := fun σ hu => by
  obtain ⟨σ', h1, h2⟩ := ops_up os hu h
  exact wpI_reg h1 ⟨_, h2.keep ks, hq⟩
theorem wpS_drawO (ks : List Nat) {bfs : List (List Nat)} {os : List IOper} {lg : List Lg} (h : runOpsL n K (ansOf E) os l = some (l1, lg)) (ha : apartAll bfs lg = true) (hq : Q .nor (keepS ks l1)) : WpS E n K (.draw bfs os) l Q := fun σ hu => by
  obtain ⟨σ', h1, h2, h3⟩ := opsL_up os hu h
  exact wpI_draw h1 (by rw [h3]; exact ha) ⟨_, h2.keep ks, hq⟩
theorem wpS_seq {a b : IC} (h : WpS E n K a l (thenS (fun l1 => WpS E n K b l1 Q) Q)) : WpS E n K (.seq a b) l Q := fun σ hu => wpI_seq ((h σ hu).mono fun ex σ' ⟨l', h1, h2⟩ => by
  cases ex with
  | nor => exact h2 σ' h1
  | exit i => exact ⟨l', h1, h2⟩
  | goto i => exact ⟨l', h1, h2⟩
  | ret => exact ⟨l', h1, h2⟩)
theorem wpS_cond {x : Od} {a b : IC} {t : Bool} (hc : ((sc x).runS n l).map (·.1) = some (.bool t)) (h1 : t = true → WpS E n K a l Q) (h2 : t = false → WpS E n K b l Q) : WpS E n K (.cond x a b) l Q := fun σ hu => by
  obtain ⟨⟨v, l2⟩, h3, h4⟩ := Option.map_eq_some_iff.1 hc
  simp only at h4; subst h4
  obtain ⟨σ', a1, a2, _⟩ := good_sc x n l σ _ l2 hu h3
  exact wpI_cond a1 (fun e => h1 e σ hu) fun e => h2 e σ hu
theorem wpS_block {id : Nat} {a : IC} (h : WpS E n K a l (blockS id Q)) : WpS E n K (.block id a) l Q := fun σ hu => wpI_block ((h σ hu).mono fun ex σ' ⟨l', h1, h2⟩ => by
  cases ex with
  | exit i =>
    simp only [blockS, blockW] at h2 ⊢
    split at h2 <;> rename_i e
    · rw [if_pos e]; exact ⟨l', h1, h2⟩
    · rw [if_neg e]; exact ⟨l', h1, h2⟩
  | nor => exact ⟨l', h1, h2⟩
  | goto i => exact ⟨l', h1, h2⟩
  | ret => exact ⟨l', h1, h2⟩)
theorem wpS_loop {a : IC} (h : WpS E n K a l (thenS (fun l1 => WpS E n K (.loop a) l1 Q) Q)) : WpS E n K (.loop a) l Q := fun σ hu => wpI_loop ((h σ hu).mono fun ex σ' ⟨l', h1, h2⟩ => by
  cases ex with
  | nor => exact h2 σ' h1
  | exit i => exact ⟨l', h1, h2⟩
  | goto i => exact ⟨l', h1, h2⟩
  | ret => exact ⟨l', h1, h2⟩)
theorem wpS_scope {a : IC} (h : WpS E n K a l (LpS E n K a Q)) : WpS E n K (.scope a) l Q := fun σ hu => wpI_scope ((h σ hu).mono fun ex σ' ⟨l', h1, h2⟩ => h2 σ' h1)
theorem lpS_nor {a : IC} (h : Q .nor l) : LpS E n K a Q .nor l := fun σ hu => lp_nor ⟨l, hu, h⟩
theorem lpS_ret {a : IC} (h : Q .ret l) : LpS E n K a Q .ret l := fun σ hu => lp_ret ⟨l, hu, h⟩
theorem lpS_exit {a : IC} {i : Nat} (h : Q (.exit i) l) : LpS E n K a Q (.exit i) l := fun σ hu => lp_exit ⟨l, hu, h⟩
theorem lpS_goto {a rest : IC} {i : Nat} (hr : a.after i = some rest) (h : WpS E n K rest l (LpS E n K a Q)) : LpS E n K a Q (.goto i) l := fun σ hu => lp_goto hr ((h σ hu).mono fun ex σ' ⟨l', h1, h2⟩ => h2 σ' h1)
theorem good_resP : ∀ rs, Good (resP K rs)
  | [] => good_ret _
  | .tmp t :: r => good_bind (good_val _) fun v => good_bind (good_take K _) fun cs => good_bind (good_resP r) fun vs => good_ret _
  | .cell t m ag :: r => by
    unfold resP
    refine good_get (fun v => ?_) fun n l => rfl
    split
    · exact good_ite (good_bind (good_killMem K _) fun _ => good_put (good_bind (good_resP r) fun _ => good_ret _)) good_fail
    · exact good_fail
theorem good_backP (G : List Nat) : ∀ as j, Good (backP K G as j)
  | [], j => good_ret _
  | x :: r, j => by
    unfold backP
    split
    · exact good_ret _
    · rename_i e; obtain ⟨rfl, rfl⟩ := List.cons.inj e
      refine good_ite (good_get (fun v => ?_) fun n l => rfl) good_fail
      split
      · exact good_bind (good_killMem K _) fun _ => good_put (good_bind (good_backP G _ _) fun _ => good_ret _)
      · exact good_fail
    · rename_i e; obtain ⟨rfl, rfl⟩ := List.cons.inj e
      exact good_backP G _ _
def argsS : List AV → Nat → Asc
  | [], _ => []
  | a :: as, j => (j, a) :: argsS as (j + 1)
theorem argsS_up : ∀ (as : List AV) (j m t : Nat), look (argsS as j) t = .u ∨ (j ≤ t ∧ look (argsS as j) t = (as ++ List.replicate m AV.u).getD (t - j) AV.u)
  | [], j, m, t => .inl rfl
  | a :: as, j, m, t => by
    simp only [argsS, look]
    split
    · rename_i e; subst e
      right; simp
    · rename_i e
      rcases argsS_up as (j + 1) m t with q | ⟨q1, q2⟩
      · exact .inl q
      · refine .inr ⟨by omega, ?_⟩
        rw [q2, show t - j = (t - (j + 1)) + 1 by omega]
        simp
def doneS (n : Nat) (i : IFn) (as : List AV) (l : Asc) : Option CRes :=
  ((resP i.kills i.res).runS n l).bind fun x => ((backP i.kills i.keeps as 0).runS n x.2).bind fun y => some (x.1, y.1)
theorem ans_S {f : Nat} {i : IFn} {as : List AV} {r : CRes} (hx : E.ext f = none) (hp : E.prog f = some i) (hn : as.length = i.np ∧ i.np ≤ i.nt)
    (h : WpS E i.nt i.kills i.body (argsS as 0) fun ex l => (ex = .nor ∨ ex = .ret) ∧ doneS i.nt i as l = some r) : ansOf E f as = some r := by
  refine ans_of_wp hx hp hn ((h _ ⟨by simp [hn.1]; omega, fun t => ?_⟩).mono fun ex σ' ⟨l', h1, hex, h2⟩ => ⟨hex, ?_⟩)
  · rcases argsS_up as 0 (i.nt - i.np) t with q | ⟨_, q⟩
    · exact .inl q
    · right; simpa using q
  · unfold doneS at h2
    obtain ⟨⟨rs, l2⟩, a1, a2⟩ := Option.bind_eq_some_iff.1 h2
    obtain ⟨⟨bs, l3⟩, a3, a4⟩ := Option.bind_eq_some_iff.1 a2
    obtain ⟨σ2, b1, b2, _⟩ := good_resP i.res i.nt l' σ' rs l2 h1 a1
    obtain ⟨σ3, c1, c2, _⟩ := good_backP i.keeps as 0 i.nt l2 σ2 bs l3 b2 a3
    simp only [b1, Option.bind_some, c1]
    exact a4
end
attribute [irreducible] WpS LpS
end Go.Pv
end

section
namespace Go.Pv
set_option linter.unusedVariables false
set_option linter.unusedSimpArgs false
def keepGS : List Nat → Asc → Asc
  | [], _ => []
  | k :: G, l => if simpleAV (look l k) then (k, look l k) :: keepGS G l else keepGS G l
def putPsS : List Nat → List AV → Asc → Asc
  | p :: ps, x :: xs, l => putPsS ps xs (ins p x l)
  | _, _, l => l
theorem look_keepG (l : Asc) : ∀ (G : List Nat) (t : Nat), look (keepGS G l) t = if G.contains t && simpleAV (look l t) then look l t else .u
  | [], t => by simp [keepGS, look]
  | k :: G, t => by
    have ih := look_keepG l G t
    simp only [keepGS]
    by_cases e : k = t
    · subst e
      split
      · rename_i h; simp [look, h]
      · rename_i h; rw [ih]; simp [h]
    · have e' : ¬ t = k := fun q => e q.symm
      have e2 : (t == k) = false := by simpa using e'
      split
      · simp only [look, if_neg e, ih, List.contains_cons, e2, Bool.false_or]
      · simp only [ih, List.contains_cons, e2, Bool.false_or]
section
variable {E : Env} {n : Nat} {K : Kills} {Q : Ex → Asc → Prop} {l : Asc}
theorem Up.keepG {G : List Nat} {σ : List AV} (h : Up n l σ) : Up n (keepGS G l) (keepG G σ) := by
  refine ⟨by simp [Go.Pv.keepG, h.1], fun t => ?_⟩
  have e2 : (Go.Pv.keepG G σ).getD t .u = if G.contains t && simpleAV (σ.getD t .u) then σ.getD t .u else .u := by
    unfold Go.Pv.keepG
    rw [List.getD_eq_getElem?_getD, List.getElem?_mapIdx, List.getD_eq_getElem?_getD]
    cases h : σ[t]? with
    | none => simp
    | some v => simp
  rw [look_keepG, e2]
  rcases h.2 t with q | q
  · left; rw [q]; simp
  · right; rw [q]
theorem Up.putPs : ∀ {ps : List Nat} {row : List AV} {l : Asc} {σ : List AV}, (ps.all fun p => decide (p < n)) = true → Up n l σ → Up n (putPsS ps row l) (putPs ps row σ)
  | [], _, _, _, _, h => by simpa [putPsS, Go.Pv.putPs] using h
  | _ :: _, [], _, _, _, h => by simpa [putPsS, Go.Pv.putPs] using h
  | p :: ps, x :: xs, l, σ, hp, h => by
    simp only [List.all_cons, Bool.and_eq_true, decide_eq_true_eq] at hp
    simp only [putPsS, Go.Pv.putPs]
    exact Up.putPs hp.2 (h.put hp.1 x)
theorem WpS.run {c : IC} (h : WpS E n K c l Q) : ∀ σ, Up n l σ → Wp E K c σ fun ex σ' => ∃ l', Up n l' σ' ∧ Q ex l' := by unfold WpS at h; exact h
theorem WpS.of {c : IC} (h : ∀ σ, Up n l σ → Wp E K c σ fun ex σ' => ∃ l', Up n l' σ' ∧ Q ex l') : WpS E n K c l Q := by unfold WpS; exact h
def RoundsS (E : Env) (n : Nat) (K : Kills) (ca cb : IC) (ps G : List Nat) (Q : Ex → Asc → Prop) : List (List AV) → Asc → Prop
  | [], l => Q .nor l
  | row :: rows, l => row.length = ps.length ∧ WpS E n K ca (putPsS ps row l) fun ex l1 => ex = .nor ∧ WpS E n K cb l1 fun ex2 l2 => ex2 = .nor ∧ RoundsS E n K ca cb ps G Q rows (keepGS G l2)
theorem rounds_up {ca cb : IC} {ps G : List Nat} (hps : (ps.all fun p => decide (p < n)) = true) : ∀ {rows : List (List AV)} {l : Asc} {σ : List AV}, RoundsS E n K ca cb ps G Q rows l → Up n l σ → RoundsW E K ca cb ps G (fun ex σ' => ∃ l', Up n l' σ' ∧ Q ex l') rows σ
  | [], l, σ, h, hu => ⟨l, hu, h⟩
  | row :: rows, l, σ, h, hu => ⟨h.1, (h.2.run _ (hu.putPs hps)).mono fun ex σ1 ⟨l1, u1, e1, h1⟩ => ⟨e1, (h1.run _ u1).mono fun ex2 σ2 ⟨l2, u2, e2, h2⟩ => ⟨e2, rounds_up hps h2 u2.keepG⟩⟩⟩
theorem wpS_range {x : Nat} {ps G : List Nat} {ca cb : IC} {gf : Nat} {caps : List AV} {cs : List (List PV)} {kd : ItKind} {z : Nat} {rows : List (List AV)} (hx : look l x = .clo gf caps) (hit : E.it gf = some (kd, z)) (hcs : fpCaps caps = some cs)
    (hrows : rowsOf kd z cs = some rows) (hps : (ps.all fun p => decide (p < n)) = true) (h : RoundsS E n K ca cb ps G Q rows (keepGS G l)) : WpS E n K (.range x ps G ca cb) l Q := WpS.of fun σ hu => by
  refine wpI_range (gf := gf) (caps := caps) ?_ hit hcs hrows (by rw [hu.1]; exact hps) (rounds_up hps h hu.keepG)
  rcases hu.2 x with q | q
  · rw [hx] at q; simp at q
  · rw [← q, hx]
theorem rounds_inv {ca cb : IC} {ps G : List Nat} {rows : List (List AV)} (inv : Nat → Asc) (hl : ∀ row ∈ rows, row.length = ps.length)
    (step : ∀ k row, rows[k]? = some row → WpS E n K ca (putPsS ps row (inv k)) fun ex l1 => ex = .nor ∧ WpS E n K cb l1 fun ex2 l2 => ex2 = .nor ∧ keepGS G l2 = inv (k + 1)) (hend : Q .nor (inv rows.length)) : ∀ (j : Nat), j ≤ rows.length → RoundsS E n K ca cb ps G Q (rows.drop (rows.length - j)) (inv (rows.length - j))
  | 0, _ => by rw [Nat.sub_zero, List.drop_length]; exact hend
  | j + 1, hj => by
    obtain ⟨row, hr⟩ : ∃ row, rows[rows.length - (j + 1)]? = some row := ⟨_, List.getElem?_eq_getElem (by omega)⟩
    obtain ⟨h1, rfl⟩ := List.getElem?_eq_some_iff.1 hr
    rw [List.drop_eq_getElem_cons h1]
    have ih := rounds_inv inv hl step hend j (by omega)
    rw [show rows.length - (j + 1) + 1 = rows.length - j by omega]
    refine ⟨hl _ (List.getElem_mem h1), (step _ _ hr).mono fun ex l1 ⟨e1, h2⟩ => ⟨e1, h2.mono fun ex2 l2 ⟨e2, h3⟩ => ⟨e2, ?_⟩⟩⟩
    rw [h3, show rows.length - (j + 1) + 1 = rows.length - j by omega]
    exact ih
theorem wpS_range_inv {x : Nat} {ps G : List Nat} {ca cb : IC} {gf : Nat} {caps : List AV} {cs : List (List PV)} {kd : ItKind} {z : Nat} {rows : List (List AV)} (inv : Nat → Asc) (hx : look l x = .clo gf caps) (hit : E.it gf = some (kd, z)) (hcs : fpCaps caps = some cs)
    (hrows : rowsOf kd z cs = some rows) (hps : (ps.all fun p => decide (p < n)) = true) (hl : ∀ row ∈ rows, row.length = ps.length) (h0 : keepGS G l = inv 0)
    (step : ∀ k row, rows[k]? = some row → WpS E n K ca (putPsS ps row (inv k)) fun ex l1 => ex = .nor ∧ WpS E n K cb l1 fun ex2 l2 => ex2 = .nor ∧ keepGS G l2 = inv (k + 1)) (hend : Q .nor (inv rows.length)) : WpS E n K (.range x ps G ca cb) l Q := by
  refine wpS_range hx hit hcs hrows hps ?_
  have := rounds_inv (Q := Q) inv hl step hend rows.length (Nat.le_refl _)
  rw [Nat.sub_self, List.drop_zero] at this
  rw [h0]; exact this
end
end Go.Pv
end

section
namespace Go.Pv
set_option linter.unusedVariables false
set_option linter.unusedSimpArgs false
class Live (c : IC) where
  ks : List Nat
class LiveO (c : IC) where
  ko : List Nat
def runOpsK (n : Nat) (K : Kills) (cf : Nat → List AV → Option CRes) (ks : List Nat) : List IOper → Asc → Option Asc
  | [], l => some (keepS ks l)
  | o :: os, l => ((operP K cf o).runS n l).bind fun r => runOpsK n K cf ks os r.2
def runOpsD (n : Nat) (K : Kills) (cf : Nat → List AV → Option CRes) (ks : List Nat) : List IOper → Asc → List Lg → Option (Asc × List Lg)
  | [], l, lg => some (keepS ks l, lg.reverse)
  | o :: os, l, lg => ((operP K cf o).runL n l .emp).bind fun r => runOpsD n K cf ks os r.2.1 (r.2.2 :: lg)
section
variable {K : Kills} {cf : Nat → List AV → Option CRes} {n : Nat} {E : Env} {Q : Ex → Asc → Prop} {l l1 : Asc}
theorem runOpsK_eq (ks : List Nat) : ∀ (os : List IOper) (l : Asc), runOpsK n K cf ks os l = (runOpsS n K cf os l).map (keepS ks)
  | [], l => rfl
  | o :: os, l => by
    simp only [runOpsK, runOpsS, runOpsK_eq ks os]
    cases (operP K cf o).runS n l <;> rfl
theorem runOpsD_eq (ks : List Nat) : ∀ (os : List IOper) (l : Asc) (lg : List Lg), runOpsD n K cf ks os l lg = (runOpsL n K cf os l).map fun r => (keepS ks r.1, lg.reverse ++ r.2)
  | [], l, lg => by simp [runOpsD, runOpsL]
  | o :: os, l, lg => by
    simp only [runOpsD, runOpsL, runOpsD_eq ks os]
    cases (operP K cf o).runL n l .emp with
    | none => rfl
    | some r =>
      simp only [Option.bind_some]
      cases runOpsL n K cf os r.2.1 <;> simp
end
end Go.Pv
end
