/- Own words of this session: a scope with jumps (goto) in a walk; a slice that came in is nil, or is not. -/
import Derived.Scope
import Derived.Lib.SliceRun
import Derived.Test.YtnbllonnfbejgaaWWords
import Derived.Test.YtnbllonnfbejgaaWMore
namespace Go.Proofs.YtnbllonnfbejgaaW.PrintWords
/-- What holds at a goto: of all that follows from its label on, jumps and all (the least such thing). -/
def LeapsGo (P : Program) (c : Code) (Q : Exit → Act → World → Prop) (l : Nat) (a : Act) (w : World) : Prop :=
  ∀ S : Nat → Act → World → Prop,
    (∀ l rest a w, findLabel c l = some rest → rest.wp P (fun e a w => match e with | .goto l => S l a w | e => Q e a w) a w → S l a w) → S l a w
/-- As Q; by a goto: what follows its label, jumps and all. -/
def Leaps (P : Program) (c : Code) (Q : Exit → Act → World → Prop) : Exit → Act → World → Prop
  | .goto l, a, w => LeapsGo P c Q l a w
  | e, a, w => Q e a w
section
variable {P : Program} {c rest : Code} {Q : Exit → Act → World → Prop} {K : Act → World → Prop} {e : Exit} {a : Act} {w : World} {l id : Nat}
theorem Leaps.ret (h : Q .ret a w) : Leaps P c Q .ret a w := h
theorem Leaps.normal (h : Q .normal a w) : Leaps P c Q .normal a w := h
theorem Leaps.leap (hf : findLabel c l = some rest) (h : rest.wp P (Leaps P c Q) a w) : Leaps P c Q (.goto l) a w := by
  intro S hS
  refine hS l rest a w hf (wp_mono h fun e a w hj => ?_)
  cases e with
  | goto l => exact hj S hS
  | normal => exact hj
  | exit id => exact hj
  | ret => exact hj
  | panic ch => exact hj
  | outgrown => exact hj
theorem leap_then (h : Q (.goto l) a w) : Exit.then K Q (.goto l) a w := h
theorem leap_block (h : Q (.goto l) a w) : Exit.inBlock id Q (.goto l) a w := h
theorem leap_normal (h : K a w) : Exit.then K Q .normal a w := h
theorem wp_scope_leaps (h : c.wp P (Leaps P c Q) a w) : (Code.scope c).wp P Q a w := by
  intro b k cs
  obtain ⟨e, a₁, w₁, hl, harr⟩ := h b (.inScope c :: k) cs
  have other : ∀ (e : Exit) (a : Act) (w : World) (m : Machine), (∀ l, e ≠ .goto l) → Q e a w → Arrives P m b (.inScope c :: k) cs e a w → ∃ e' a' w', Q e' a' w' ∧ Arrives P m b k cs e' a' w' := by
    intro e a w m hne hq harr
    cases e with
    | normal => exact ⟨.normal, a, w, hq, Steps.trans harr (.one step_inScope)⟩
    | exit id => exact ⟨.exit id, a, w, hq, fun k' hk => harr k' (by simp [exitTo, hk])⟩
    | goto l => exact absurd rfl (hne l)
    | ret => exact ⟨_, a, w, hq, harr⟩
    | panic ch => exact ⟨_, a, w, hq, harr⟩
    | outgrown => exact ⟨_, a, w, hq, harr⟩
  have jump : ∀ l a w, LeapsGo P c Q l a w → ∀ m, Arrives P m b (.inScope c :: k) cs (.goto l) a w → ∃ e' a' w', Q e' a' w' ∧ Arrives P m b k cs e' a' w' := by
    intro l a w hg
    refine hg (fun l a w => ∀ m, Arrives P m b (.inScope c :: k) cs (.goto l) a w → ∃ e' a' w', Q e' a' w' ∧ Arrives P m b k cs e' a' w') ?_
    intro l rest a w hf hw m harr
    have hg : gotoIn l (.inScope c :: k) = some (.code rest :: .inScope c :: k) := by simp [gotoIn, hf]
    obtain ⟨e2, a2, w2, h2, harr2⟩ := hw b (.inScope c :: k) cs
    have done : ∃ e' a' w', Q e' a' w' ∧ Arrives P (lone (b.at a (.code rest :: .inScope c :: k)) cs w) b k cs e' a' w' := by
      cases e2 with
      | goto l2 => exact h2 _ harr2
      | normal => exact other .normal _ _ _ (fun _ h => Exit.noConfusion h) h2 harr2
      | exit id => exact other (.exit id) _ _ _ (fun _ h => Exit.noConfusion h) h2 harr2
      | ret => exact other .ret _ _ _ (fun _ h => Exit.noConfusion h) h2 harr2
      | panic ch => exact other (.panic ch) _ _ _ (fun _ h => Exit.noConfusion h) h2 harr2
      | outgrown => exact other .outgrown _ _ _ (fun _ h => Exit.noConfusion h) h2 harr2
    obtain ⟨e', a', w', hq, h'⟩ := done
    exact ⟨e', a', w', hq, .of_steps (harr _ hg) h'⟩
  have done : ∃ e' a' w', Q e' a' w' ∧ Arrives P (lone (b.at a (.code c :: .inScope c :: k)) cs w) b k cs e' a' w' := by
    cases e with
    | goto l => exact jump l _ _ hl _ harr
    | normal => exact other .normal _ _ _ (fun _ h => Exit.noConfusion h) hl harr
    | exit id => exact other (.exit id) _ _ _ (fun _ h => Exit.noConfusion h) hl harr
    | ret => exact other .ret _ _ _ (fun _ h => Exit.noConfusion h) hl harr
    | panic ch => exact other (.panic ch) _ _ _ (fun _ h => Exit.noConfusion h) hl harr
    | outgrown => exact other .outgrown _ _ _ (fun _ h => Exit.noConfusion h) hl harr
  obtain ⟨e', a', w', hq, h'⟩ := done
  exact ⟨e', a', w', hq, .of_steps (.one step_scope) h'⟩
end
theorem Kd.nil_or {α : Type} {d : Kd α} {w : World} {A : Option Addr} {n : Nat} {xs : List α} (h : Kd.C d w A xs.length xs) (_ : xs.length ≤ n) :
    (A = none ∧ xs = []) ∨ ∃ z, A = some z := by
  cases A with
  | none =>
    refine .inl ⟨rfl, ?_⟩
    rcases Nat.eq_zero_or_pos xs.length with h0 | h0
    · exact List.length_eq_zero_iff.1 h0
    · obtain ⟨_, he, _⟩ := h.2.2 h0
      exact absurd he (by simp)
  | some z => exact .inr ⟨z, rfl⟩
/-! Short forms of lines that are said again and again: what stood before a call, or before some allocations and draws, stands. -/
section
open Go.RowKit
variable {w W W1 : World} {a b : Nat} {g : Nat} {o : Obj}
theorem bk7 (h : Aside0 (w.heap[g]? = some o)) (hb : Below W.heap.size W W1)
    (hq : w.heap[g]? = some o → W.heap[g]? = some o := by intro h; (with_reducible repeat (first | refine blk_drewN ?_ _ | refine blk_drew ?_ | refine blk_alloc ?_ _)); exact h) : Aside0 (W1.heap[g]? = some o) :=
  Aside0.mk (blk_below (hq h.out) hb)
theorem bq7 (h : Aside0 (w.heap[g]? = some o))
    (hq : w.heap[g]? = some o → W.heap[g]? = some o := by intro h; (with_reducible repeat (first | refine blk_drewN ?_ _ | refine blk_drew ?_ | refine blk_alloc ?_ _)); exact h) : W.heap[g]? = some o := hq h.out
variable {α : Type} {d : Kd α} {e base : Nat} {ok : Nat → Prop} {v : Value} {xs : List α}
theorem rb7 (h : Aside0 (Kd.R d e w base ok v xs)) (hb : Below W.heap.size W W1)
    (hq : Kd.R d e w base ok v xs → Kd.R d e W base ok v xs := by intro h; (with_reducible repeat (first | apply Kd.R_alloc | apply Kd.R_drewN | apply Kd.R_drew)); exact h) : Aside0 (Kd.R d e W1 base ok v xs) :=
  Aside0.mk (Kd.R_below (hq h.out) hb)
theorem rq7 (h : Aside0 (Kd.R d e w base ok v xs))
    (hq : Kd.R d e w base ok v xs → Kd.R d e W base ok v xs := by intro h; (with_reducible repeat (first | apply Kd.R_alloc | apply Kd.R_drewN | apply Kd.R_drew)); exact h) : Kd.R d e W base ok v xs := hq h.out
theorem vb7 (h : Aside0 (Kd.V d e w base ok v xs)) (hb : Below W.heap.size W W1)
    (hq : Kd.V d e w base ok v xs → Kd.V d e W base ok v xs := by intro h; (with_reducible repeat (first | apply Kd.V_alloc | apply Kd.V_drewN | apply Kd.V_drew)); exact h) : Aside0 (Kd.V d e W1 base ok v xs) :=
  Aside0.mk (Kd.V_below (hq h.out) hb)
theorem vq7 (h : Aside0 (Kd.V d e w base ok v xs))
    (hq : Kd.V d e w base ok v xs → Kd.V d e W base ok v xs := by intro h; (with_reducible repeat (first | apply Kd.V_alloc | apply Kd.V_drewN | apply Kd.V_drew)); exact h) : Kd.V d e W base ok v xs := hq h.out
theorem bl7 {w0 : World} (h : Aside0 (Below w0.heap.size w0 w))
    (hq : Below w0.heap.size w0 w → Below w0.heap.size w0 W := by intro h; repeat (first | (with_reducible first | exact h | apply below_alloc | apply pw_below_drewN | apply below_drew1 | refine below_set ?_ (Aside0.out (by assumption))) | exact h)) : Below w0.heap.size w0 W := hq h.out
end
theorem nil_neq {P : Program} (w : World) (t e : TypeId) (a : Option Addr) (n c : Nat) (h : P.underlying t = some (.slice e)) :
    (Go.binOp .neq t (.slice a n c) (.slice none 0 0)).run P w = .ok (.bool (!a.isNone)) w := by
  simp only [Go.binOp]
  simp [Op.equal, Op.maxDepth, Lib.run_equalIn_slice_nil w 9999 t e a n c 0 0 h]
end Go.Proofs.YtnbllonnfbejgaaW.PrintWords
