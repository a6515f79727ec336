/- Own words of this session: a scope with jumps (goto) in a walk; a slice that came in is nil, or is not. -/
import Derived.Scope
import Derived.Test.YtnbllonnfbejgaaWWords
namespace Go.Proofs.YtnbllonnfbejgaaW.PrintWords
/-- As Q; by a goto: what follows its label, jumps and all (the least such thing). -/
def Leaps (P : Program) (c : Code) (Q : Exit → Act → World → Prop) (e : Exit) (a : Act) (w : World) : Prop :=
  ∀ S : Exit → Act → World → Prop, (∀ e a w, (∀ l, e ≠ .goto l) → Q e a w → S e a w) →
    (∀ l rest a w, findLabel c l = some rest → rest.wp P S a w → S (.goto l) a w) → S e a w
section
variable {P : Program} {c rest : Code} {Q : Exit → Act → World → Prop} {K : Act → World → Prop} {e : Exit} {a : Act} {w : World} {l id : Nat}
theorem Leaps.ret (h : Q .ret a w) : Leaps P c Q .ret a w := fun _ h1 _ => h1 _ _ _ (fun _ h => Exit.noConfusion h) h
theorem Leaps.normal (h : Q .normal a w) : Leaps P c Q .normal a w := fun _ h1 _ => h1 _ _ _ (fun _ h => Exit.noConfusion h) h
theorem Leaps.leap (hf : findLabel c l = some rest) (h : rest.wp P (Leaps P c Q) a w) : Leaps P c Q (.goto l) a w :=
  fun S h1 h2 => h2 l rest a w hf (wp_mono h (fun _ _ _ hj => hj S h1 h2))
theorem leap_then (h : Q (.goto l) a w) : Exit.then K Q (.goto l) a w := h
theorem leap_block (h : Q (.goto l) a w) : Exit.inBlock id Q (.goto l) a w := h
theorem leap_normal (h : K a w) : Exit.then K Q .normal a w := h
theorem wp_scope_leaps (h : c.wp P (Leaps P c Q) a w) : (Code.scope c).wp P Q a w := by
  intro b k cs
  obtain ⟨e, a₁, w₁, hl, harr⟩ := h b (.inScope c :: k) cs
  have key := hl (fun e a₁ w₁ => ∀ m, Arrives P m b (.inScope c :: k) cs e a₁ w₁ → ∃ e' a' w', Q e' a' w' ∧ Arrives P m b k cs e' a' w') ?_ ?_
  · obtain ⟨e', a', w', hq, h'⟩ := key _ harr
    exact ⟨e', a', w', hq, .of_steps (.one step_scope) h'⟩
  · intro e a w hne hq m harr
    cases e with
    | normal => exact ⟨.normal, a, w, hq, Steps.trans harr (.one step_inScope)⟩
    | exit id => exact ⟨.exit id, a, w, hq, fun k' hk => harr k' (by simp [exitTo, hk])⟩
    | goto l => exact absurd rfl (hne l)
    | ret => exact ⟨_, a, w, hq, harr⟩
    | panic ch => exact ⟨_, a, w, hq, harr⟩
    | outgrown => exact ⟨_, a, w, hq, harr⟩
  · intro l rest a w hf hw m harr
    have hg : gotoIn l (.inScope c :: k) = some (.code rest :: .inScope c :: k) := by simp [gotoIn, hf]
    obtain ⟨e2, a2, w2, h2, harr2⟩ := hw b (.inScope c :: k) cs
    obtain ⟨e', a', w', hq, h'⟩ := h2 _ harr2
    exact ⟨e', a', w', hq, .of_steps (harr _ hg) h'⟩
end
theorem Kd.nil_or {α : Type} {d : Kd α} {w : World} {A : Option Addr} {n : Nat} {xs : List α} (h : Kd.C d w A xs.length xs) (_ : xs.length ≤ n) :
    (A = none ∧ xs = []) ∨ ∃ z, A = some z := by
  cases A with
  | none =>
    refine .inl ⟨rfl, ?_⟩
    rcases Nat.eq_zero_or_pos xs.length with h0 | h0
    · exact List.length_eq_zero_iff.1 h0
    · obtain ⟨_, he, _⟩ := h.2.2 h0
      exact absurd he (by simp)
  | some z => exact .inr ⟨z, rfl⟩
end Go.Proofs.YtnbllonnfbejgaaW.PrintWords
