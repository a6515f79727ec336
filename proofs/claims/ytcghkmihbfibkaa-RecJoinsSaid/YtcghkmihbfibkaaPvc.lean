/- Own words of these sessions: a small interpreter over plain values, and the proof that the model computes what it answers. -/
import Derived.Test.YtcghkmihbfibkaaPvb
import Derived.Lib.SliceRun
set_option linter.all false
section
namespace Go.Pv
set_option linter.unusedVariables false
set_option linter.unusedSimpArgs false
def Lim {α : Type} (g : Nat → Option α) (x : α) : Prop := ∃ k0, ∀ k, k0 ≤ k → g k = some x
theorem Lim.uniq {α : Type} {g : Nat → Option α} {x y : α} (h : Lim g x) (h' : Lim g y) : x = y := by
  obtain ⟨k, hk⟩ := h
  obtain ⟨k', hk'⟩ := h'
  have a := hk (max k k') (by omega)
  have b := hk' (max k k') (by omega)
  rw [a] at b
  simpa using b
open Classical in
noncomputable def ansOf (E : Env) (f : Nat) (as : List AV) : Option CRes := if h : ∃ r, Lim (fun k => callF E k f as) r then some h.choose else none
theorem ansOf_eq {E : Env} {f : Nat} {as : List AV} {r : CRes} : ansOf E f as = some r ↔ Lim (fun k => callF E k f as) r := by
  unfold ansOf
  constructor
  · intro h
    split at h
    · rename_i hx
      simp only [Option.some.injEq] at h
      rw [← h]
      exact hx.choose_spec
    · simp at h
  · intro h
    rw [dif_pos ⟨r, h⟩]
    exact congrArg some (Lim.uniq (Exists.choose_spec (⟨r, h⟩ : ∃ r, Lim (fun k => callF E k f as) r)) h)
section
variable {K : Kills} {E : Env} {σ σ' σ1 : List AV}
theorem run_bind_eq {α β : Type} (p : Pg α) (f : α → Pg β) (σ : List AV) : (p.bind f).run σ = (p.run σ).bind fun r => (f r.1).run r.2 := by
  induction p generalizing σ with
  | ret x => rfl
  | fail => rfl
  | get t k ih => exact ih _ _
  | put t v k ih => exact ih _
  | kill c ts k ih => exact ih _
theorem log_bind_eq {α β : Type} (p : Pg α) (f : α → Pg β) (σ : List AV) (L : Lg) : (p.bind f).log σ L = (match p.run σ with | some r => (f r.1).log r.2 (p.log σ L) | none => p.log σ L) := by
  induction p generalizing σ L with
  | ret x => simp [Pg.bind, Pg.run, Pg.log]
  | fail => simp [Pg.bind, Pg.run, Pg.log]
  | get t k ih => simp only [Pg.bind, Pg.run, Pg.log, ih]
  | put t v k ih => simp only [Pg.bind, Pg.run, Pg.log, ih]
  | kill c ts k ih => simp only [Pg.bind, Pg.run, Pg.log, ih]
theorem callP_lim {g : Nat → Nat → List AV → Option CRes} {cf : Nat → List AV → Option CRes} (hg : ∀ f as r, cf f as = some r → Lim (fun k => g k f as) r) {dst : Option Nat} {f : Nat} {as : List AV} {ls : List Nat} {x : Unit × List AV} (h : (callP K cf dst f as ls).run σ = some x) :
    ∃ k0, ∀ k, k0 ≤ k → (callP K (g k) dst f as ls).run σ = some x ∧ ∀ L, (callP K (g k) dst f as ls).log σ L = (callP K cf dst f as ls).log σ L := by
  unfold callP at h ⊢
  cases hc : cf f as with
  | none => rw [hc] at h; simp [Pg.opt, Pg.bind, Pg.run] at h
  | some r =>
    rw [hc] at h
    obtain ⟨k0, hk⟩ := hg f as r hc
    refine ⟨k0, fun k hk' => ?_⟩
    have e : g k f as = some r := hk k hk'
    rw [e]
    exact ⟨h, fun _ => rfl⟩
def isCall : IOp → Bool
  | .call _ _ | .callv _ _ => true
  | _ => false
theorem opP_same {cf cf' : Nat → List AV → Option CRes} {dst : Option Nat} {op : IOp} (h : isCall op = false) : opP K cf dst op = opP K cf' dst op := by
  cases op with
  | call f args => simp [isCall] at h
  | callv x args => simp [isCall] at h
  | mov x => cases x <;> rfl
  | asg x => cases x <;> rfl
  | nilchk x => cases x <;> rfl
  | ext x i => cases x <;> rfl
  | len b x => cases b <;> rfl
  | _ => rfl
theorem op_lim {g : Nat → Nat → List AV → Option CRes} {cf : Nat → List AV → Option CRes} (hg : ∀ f as r, cf f as = some r → Lim (fun k => g k f as) r) {dst : Option Nat} {op : IOp} {x : Unit × List AV} (h : (opP K cf dst op).run σ = some x) :
    ∃ k0, ∀ k, k0 ≤ k → (opP K (g k) dst op).run σ = some x ∧ ∀ L, (opP K (g k) dst op).log σ L = (opP K cf dst op).log σ L := by
  cases op with
  | call f args =>
    simp only [opP, run_bind_eq, log_bind_eq] at h ⊢
    cases ha : (argsP K args).run σ with
    | none => rw [ha] at h; simp at h
    | some y =>
      obtain ⟨⟨as, ls⟩, σ1⟩ := y
      rw [ha] at h
      simp only [Option.bind_some] at h
      obtain ⟨k0, hk⟩ := callP_lim hg h
      exact ⟨k0, fun k hk' => ⟨by simpa using (hk k hk').1, fun L => by simp only [(hk k hk').2]⟩⟩
  | callv x args =>
    cases x with
    | c v => simp [opP, Pg.run] at h
    | t i =>
      simp only [opP, Pg.run, Pg.log] at h ⊢
      generalize σ.getD i .u = v at h ⊢
      cases v with
      | u | w | a | t | box | ptr | fp | al | sv => simp [Pg.run] at h
      | clo f caps =>
      simp only [run_bind_eq, log_bind_eq] at h ⊢
      cases ha : (argsP K args).run σ with
      | none => rw [ha] at h; simp at h
      | some y =>
        obtain ⟨⟨as, ls⟩, σ1⟩ := y
        rw [ha] at h
        simp only [Option.bind_some, run_bind_eq] at h
        cases hb : (capsP K caps).run σ1 with
        | none => rw [hb] at h; simp at h
        | some z =>
          obtain ⟨⟨cs, ms⟩, σ2⟩ := z
          rw [hb] at h
          simp only [Option.bind_some] at h
          obtain ⟨k0, hk⟩ := callP_lim hg h
          exact ⟨k0, fun k hk' => ⟨by simpa [run_bind_eq, hb] using (hk k hk').1, fun L => by simp only [log_bind_eq, run_bind_eq, hb, (hk k hk').2]⟩⟩
  | _ => exact ⟨0, fun k _ => ⟨by rw [opP_same (cf' := cf) rfl]; exact h, fun L => by rw [opP_same (cf' := cf) rfl]⟩⟩
theorem oper_lim {g : Nat → Nat → List AV → Option CRes} {cf : Nat → List AV → Option CRes} (hg : ∀ f as r, cf f as = some r → Lim (fun k => g k f as) r) {o : IOper} {x : Unit × List AV} (h : (operP K cf o).run σ = some x) :
    ∃ k0, ∀ k, k0 ≤ k → (operP K (g k) o).run σ = some x ∧ ∀ L, (operP K (g k) o).log σ L = (operP K cf o).log σ L := by
  obtain ⟨d, op, gd⟩ := o
  cases gd with
  | none => exact op_lim hg h
  | some tw =>
    obtain ⟨t, want⟩ := tw
    simp only [operP, Pg.run, Pg.log] at h ⊢
    split at h
    · rename_i b hb
      split at h
      · rename_i hw
        obtain ⟨k0, hk⟩ := op_lim hg h
        refine ⟨k0, fun k hk' => ?_⟩
        simp only [hw, if_true]
        exact ⟨(hk k hk').1, fun L => by rw [(hk k hk').2]⟩
      · rename_i hw
        simp only [hw]
        exact ⟨0, fun _ _ => ⟨h, fun _ => rfl⟩⟩
    · simp [Pg.run] at h
theorem ops_lim {g : Nat → Nat → List AV → Option CRes} {cf : Nat → List AV → Option CRes} (hg : ∀ f as r, cf f as = some r → Lim (fun k => g k f as) r) : ∀ (os : List IOper) (σ : List AV), runOps K cf os σ = some σ' →
    ∃ k0, ∀ k, k0 ≤ k → runOps K (g k) os σ = some σ' ∧ logs K (g k) os σ = logs K cf os σ
  | [], σ, h => ⟨0, fun _ _ => ⟨h, rfl⟩⟩
  | o :: os, σ, h => by
    simp only [runOps, Option.bind_eq_some_iff] at h
    obtain ⟨⟨u, σ1⟩, h1, h2⟩ := h
    obtain ⟨k0, hk⟩ := oper_lim hg h1
    obtain ⟨k1, hk1⟩ := ops_lim hg os σ1 h2
    refine ⟨max k0 k1, fun k hk' => ?_⟩
    obtain ⟨a, b⟩ := hk k (by omega)
    obtain ⟨c, d⟩ := hk1 k (by omega)
    exact ⟨by simp only [runOps, a, Option.bind_some, c], by simp only [logs, a, b, h1, d]⟩
def Wp (E : Env) (K : Kills) (c : IC) (σ : List AV) (Q : Ex → List AV → Prop) : Prop := ∃ ex σ', Lim (fun k => evC E k K c σ) (ex, σ') ∧ Q ex σ'
def Lp (E : Env) (K : Kills) (a : IC) (Q : Ex → List AV → Prop) (ex : Ex) (σ : List AV) : Prop := ∃ ex' σ', Lim (fun k => evC.leap E k K a (some (ex, σ))) (ex', σ') ∧ Q ex' σ'
def thenW (R : List AV → Prop) (Q : Ex → List AV → Prop) : Ex → List AV → Prop
  | .nor, σ => R σ
  | ex, σ => Q ex σ
def blockW (id : Nat) (Q : Ex → List AV → Prop) : Ex → List AV → Prop
  | .exit id', σ => if id' = id then Q .nor σ else Q (.exit id') σ
  | ex, σ => Q ex σ
variable {Q Q' : Ex → List AV → Prop}
theorem Wp.mono {c : IC} (h : Wp E K c σ Q) (hq : ∀ ex σ', Q ex σ' → Q' ex σ') : Wp E K c σ Q' := by
  obtain ⟨ex, σ', h1, h2⟩ := h
  exact ⟨ex, σ', h1, hq _ _ h2⟩
theorem lim_ev {α : Type} {g : Nat → Option α} {x : α} (h : ∃ k0, ∀ k, k0 ≤ k → g (k + 1) = some x) : Lim g x := by
  obtain ⟨k0, hk⟩ := h
  refine ⟨k0 + 1, fun k hk' => ?_⟩
  obtain ⟨j, rfl⟩ : ∃ j, k = j + 1 := ⟨k - 1, by omega⟩
  exact hk j (by omega)
theorem calls_lim : ∀ f as r, ansOf E f as = some r → Lim (fun k => callBody E (evC E k) f as) r := fun f as r h => ansOf_eq.1 h
theorem wpI_skip (h : Q .nor σ) : Wp E K .skip σ Q := ⟨_, _, lim_ev ⟨0, fun k _ => rfl⟩, h⟩
theorem wpI_label {l : Nat} (h : Q .nor σ) : Wp E K (.label l) σ Q := ⟨_, _, lim_ev ⟨0, fun k _ => rfl⟩, h⟩
theorem wpI_exit {id : Nat} (h : Q (.exit id) σ) : Wp E K (.exit id) σ Q := ⟨_, _, lim_ev ⟨0, fun k _ => rfl⟩, h⟩
theorem wpI_goto {l : Nat} (h : Q (.goto l) σ) : Wp E K (.goto l) σ Q := ⟨_, _, lim_ev ⟨0, fun k _ => rfl⟩, h⟩
theorem wpI_ret (h : Q .ret σ) : Wp E K .ret σ Q := ⟨_, _, lim_ev ⟨0, fun k _ => rfl⟩, h⟩
theorem wpI_reg {os : List IOper} (h : runOps K (ansOf E) os σ = some σ1) (hq : Q .nor σ1) : Wp E K (.reg os) σ Q := by
  obtain ⟨k0, hk⟩ := ops_lim (g := fun k => callBody E (evC E k)) calls_lim os σ h
  exact ⟨_, _, lim_ev ⟨k0, fun k hk' => by simp only [evC, (hk k hk').1, Option.map_some]⟩, hq⟩
theorem wpI_draw {bfs : List (List Nat)} {os : List IOper} (h : runOps K (ansOf E) os σ = some σ1) (ha : apartAll bfs (logs K (ansOf E) os σ) = true) (hq : Q .nor σ1) : Wp E K (.draw bfs os) σ Q := by
  obtain ⟨k0, hk⟩ := ops_lim (g := fun k => callBody E (evC E k)) calls_lim os σ h
  exact ⟨_, _, lim_ev ⟨k0, fun k hk' => by simp only [evC, (hk k hk').1, (hk k hk').2, ha, if_true, Option.map_some]⟩, hq⟩
theorem wpI_seq {a b : IC} (h : Wp E K a σ (thenW (fun σ1 => Wp E K b σ1 Q) Q)) : Wp E K (.seq a b) σ Q := by
  obtain ⟨ex, σ1, ⟨k0, h1⟩, h2⟩ := h
  cases ex with
  | nor =>
    obtain ⟨ex, σ2, ⟨k1, h3⟩, h4⟩ := h2
    exact ⟨ex, σ2, lim_ev ⟨max k0 k1, fun k hk => by simp only [evC, h1 k (by omega), h3 k (by omega)]⟩, h4⟩
  | exit id => exact ⟨_, σ1, lim_ev ⟨k0, fun k hk => by simp only [evC, h1 k (by omega)]⟩, h2⟩
  | goto l => exact ⟨_, σ1, lim_ev ⟨k0, fun k hk => by simp only [evC, h1 k (by omega)]⟩, h2⟩
  | ret => exact ⟨_, σ1, lim_ev ⟨k0, fun k hk => by simp only [evC, h1 k (by omega)]⟩, h2⟩
theorem wpI_cond {x : Od} {a b : IC} {t : Bool} (hc : (sc x).run σ = some (.bool t, σ1)) (h1 : t = true → Wp E K a σ Q) (h2 : t = false → Wp E K b σ Q) : Wp E K (.cond x a b) σ Q := by
  have h : Wp E K (if t then a else b) σ Q := by cases t <;> simp_all
  obtain ⟨ex, σ2, ⟨k0, h3⟩, h4⟩ := h
  exact ⟨ex, σ2, lim_ev ⟨k0, fun k hk => by simp only [evC, hc]; exact h3 k hk⟩, h4⟩
theorem wpI_block {id : Nat} {a : IC} (h : Wp E K a σ (blockW id Q)) : Wp E K (.block id a) σ Q := by
  obtain ⟨ex, σ1, ⟨k0, h1⟩, h2⟩ := h
  cases ex with
  | exit id' =>
    simp only [blockW] at h2
    split at h2
    · rename_i e
      exact ⟨_, σ1, lim_ev ⟨k0, fun k hk => by simp only [evC, h1 k (by omega), if_pos e]⟩, h2⟩
    · rename_i e
      exact ⟨_, σ1, lim_ev ⟨k0, fun k hk => by simp only [evC, h1 k (by omega), if_neg e]⟩, h2⟩
  | nor => exact ⟨_, σ1, lim_ev ⟨k0, fun k hk => by simp only [evC, h1 k (by omega)]⟩, h2⟩
  | goto l => exact ⟨_, σ1, lim_ev ⟨k0, fun k hk => by simp only [evC, h1 k (by omega)]⟩, h2⟩
  | ret => exact ⟨_, σ1, lim_ev ⟨k0, fun k hk => by simp only [evC, h1 k (by omega)]⟩, h2⟩
theorem wpI_loop {a : IC} (h : Wp E K a σ (thenW (fun σ1 => Wp E K (.loop a) σ1 Q) Q)) : Wp E K (.loop a) σ Q := by
  obtain ⟨ex, σ1, ⟨k0, h1⟩, h2⟩ := h
  cases ex with
  | nor =>
    obtain ⟨ex, σ2, ⟨k1, h3⟩, h4⟩ := h2
    exact ⟨ex, σ2, lim_ev ⟨max k0 k1, fun k hk => by simp only [evC, h1 k (by omega), h3 k (by omega)]⟩, h4⟩
  | exit id => exact ⟨_, σ1, lim_ev ⟨k0, fun k hk => by simp only [evC, h1 k (by omega)]⟩, h2⟩
  | goto l => exact ⟨_, σ1, lim_ev ⟨k0, fun k hk => by simp only [evC, h1 k (by omega)]⟩, h2⟩
  | ret => exact ⟨_, σ1, lim_ev ⟨k0, fun k hk => by simp only [evC, h1 k (by omega)]⟩, h2⟩
theorem lp_nor {a : IC} (h : Q .nor σ) : Lp E K a Q .nor σ := ⟨_, _, lim_ev ⟨0, fun k _ => rfl⟩, h⟩
theorem lp_ret {a : IC} (h : Q .ret σ) : Lp E K a Q .ret σ := ⟨_, _, lim_ev ⟨0, fun k _ => rfl⟩, h⟩
theorem lp_exit {a : IC} {id : Nat} (h : Q (.exit id) σ) : Lp E K a Q (.exit id) σ := ⟨_, _, lim_ev ⟨0, fun k _ => rfl⟩, h⟩
theorem lp_goto {a rest : IC} {l : Nat} (hr : a.after l = some rest) (h : Wp E K rest σ (Lp E K a Q)) : Lp E K a Q (.goto l) σ := by
  obtain ⟨ex, σ1, ⟨k0, h1⟩, ex', σ', ⟨k1, h2⟩, h3⟩ := h
  exact ⟨ex', σ', lim_ev ⟨max k0 k1, fun k hk => by simp only [evC.leap, hr, h1 k (by omega), h2 k (by omega)]⟩, h3⟩
theorem wpI_scope {a : IC} (h : Wp E K a σ (Lp E K a Q)) : Wp E K (.scope a) σ Q := by
  obtain ⟨ex, σ1, ⟨k0, h1⟩, ex', σ', ⟨k1, h2⟩, h3⟩ := h
  exact ⟨ex', σ', lim_ev ⟨max k0 k1, fun k hk => by simp only [evC, h1 k (by omega), h2 k (by omega)]⟩, h3⟩
def doneW (i : IFn) (as : List AV) (r : CRes) (ex : Ex) (σ : List AV) : Prop :=
  (ex = .nor ∨ ex = .ret) ∧ (((resP i.kills i.res).run σ).bind fun (rs, σ) => ((backP i.kills i.keeps as 0).run σ).bind fun (bs, _) => some (rs, bs)) = some r
theorem ans_of_wp {f : Nat} {i : IFn} {as : List AV} {r : CRes} (hx : E.ext f = none) (hp : E.prog f = some i) (hn : as.length = i.np ∧ i.np ≤ i.nt) (h : Wp E i.kills i.body (as ++ List.replicate (i.nt - i.np) .u) (doneW i as r)) : ansOf E f as = some r := by
  rw [ansOf_eq]
  obtain ⟨ex, σ1, ⟨k0, h1⟩, hex, h3⟩ := h
  refine ⟨k0, fun k hk => ?_⟩
  simp only [callF, callBody, hx, hp, bodyOf, if_pos hn, h1 k hk]
  rcases hex with rfl | rfl <;> exact h3
theorem ans_ext {f : Nat} {g : List AV → Option CRes} {as : List AV} {r : CRes} (hx : E.ext f = some g) (h : g as = some r) : ansOf E f as = some r := by
  rw [ansOf_eq]
  exact ⟨0, fun k _ => by simp only [callF, callBody, hx, h]⟩
theorem callF_of_ans {f : Nat} {as : List AV} {r : CRes} (h : ansOf E f as = some r) : ∃ k, callF E k f as = some r := by
  obtain ⟨k0, hk⟩ := ansOf_eq.1 h
  exact ⟨k0, hk k0 (Nat.le_refl _)⟩
end
end Go.Pv
end

section
namespace Go.Pv
set_option linter.unusedVariables false
set_option linter.unusedSimpArgs false
section
variable {K : Kills} {E : Env} {σ σ' : List AV}
theorem ops_mono {cf cf' : Nat → List AV → Option CRes} (h : ∀ f as r, cf f as = some r → cf' f as = some r) {os : List IOper} (hr : runOps K cf os σ = some σ') : runOps K cf' os σ = some σ' ∧ logs K cf' os σ = logs K cf os σ := by
  obtain ⟨k0, hk⟩ := ops_lim (g := fun _ => cf') (fun f as r hf => ⟨0, fun _ _ => h f as r hf⟩) os σ hr
  exact hk k0 (Nat.le_refl _)
def Le (g g' : Kills → IC → List AV → Option (Ex × List AV)) : Prop := ∀ K c σ r, g K c σ = some r → g' K c σ = some r
theorem body_mono {g g' : Kills → IC → List AV → Option (Ex × List AV)} (h : Le g g') : ∀ f as r, callBody E g f as = some r → callBody E g' f as = some r := by
  intro f as r hr
  unfold callBody at hr ⊢
  split at hr
  · exact hr
  · split at hr
    · rename_i i hi
      unfold bodyOf at hr ⊢
      split at hr
      · rename_i hn
        rw [if_pos hn]
        split at hr
        · rename_i σ1 h1; rw [h _ _ _ _ h1]; exact hr
        · rename_i σ1 h1; rw [h _ _ _ _ h1]; exact hr
        · simp at hr
      · simp at hr
    · simp at hr
theorem leap_mono {a : IC} : ∀ (k : Nat), (∀ j, j < k → Le (evC E j) (evC E (j + 1))) → ∀ (x : Option (Ex × List AV)) (r : Ex × List AV), evC.leap E k K a x = some r → evC.leap E (k + 1) K a x = some r
  | 0, _, x, r, h => by simp [evC.leap] at h
  | k + 1, hE, x, r, h => by
    cases x with
    | none => simp [evC.leap] at h
    | some y =>
      obtain ⟨ex, σ1⟩ := y
      cases ex with
      | goto l =>
        simp only [evC.leap] at h ⊢
        split at h
        · rename_i rest hr
          cases hx : evC E k K rest σ1 with
          | none => rw [hx] at h; cases k <;> simp [evC.leap] at h
          | some z =>
            rw [hx] at h
            rw [hE k (Nat.lt_succ_self k) _ _ _ _ hx]
            exact leap_mono k (fun j hj => hE j (by omega)) _ _ h
        · simp at h
      | nor => simpa [evC.leap] using h
      | exit id => simpa [evC.leap] using h
      | ret => simpa [evC.leap] using h
theorem evC_reg {k : Nat} {os : List IOper} : evC E (k + 1) K (.reg os) σ = (runOps K (callBody E (evC E k)) os σ).map (Ex.nor, ·) := rfl
theorem evC_draw {k : Nat} {bfs : List (List Nat)} {os : List IOper} : evC E (k + 1) K (.draw bfs os) σ = if apartAll bfs (logs K (callBody E (evC E k)) os σ) then (runOps K (callBody E (evC E k)) os σ).map (Ex.nor, ·) else none := rfl
theorem evC_loop {k : Nat} {a : IC} : evC E (k + 1) K (.loop a) σ = match evC E k K a σ with | some (.nor, σ') => evC E k K (.loop a) σ' | r => r := rfl
theorem evC_seq {k : Nat} {a b : IC} : evC E (k + 1) K (.seq a b) σ = match evC E k K a σ with | some (.nor, σ') => evC E k K b σ' | r => r := rfl
theorem evC_cond {k : Nat} {x : Od} {a b : IC} : evC E (k + 1) K (.cond x a b) σ = match (sc x).run σ with | some (.bool t, _) => evC E k K (if t then a else b) σ | _ => none := rfl
theorem evC_block {k id : Nat} {a : IC} : evC E (k + 1) K (.block id a) σ = match evC E k K a σ with | some (.exit id', σ') => if id' = id then some (.nor, σ') else some (.exit id', σ') | r => r := rfl
theorem evC_scope {k : Nat} {a : IC} : evC E (k + 1) K (.scope a) σ = evC.leap E k K a (evC E k K a σ) := rfl
theorem ev_mono : ∀ k, Le (evC E k) (evC E (k + 1)) := by
  intro k
  induction k using Nat.strongRecOn with
  | _ k ih =>
    intro K c σ r h
    cases k with
    | zero => simp [evC] at h
    | succ k =>
      have hk := ih k (Nat.lt_succ_self k)
      have hb := body_mono (E := E) hk
      cases c with
      | reg os =>
        rw [evC_reg] at h ⊢
        simp only [Option.map_eq_some_iff] at h ⊢
        obtain ⟨σ1, h1, h2⟩ := h
        exact ⟨σ1, (ops_mono hb h1).1, h2⟩
      | draw bfs os =>
        rw [evC_draw] at h ⊢
        split at h
        · rename_i ha
          simp only [Option.map_eq_some_iff] at h
          obtain ⟨σ1, h1, h2⟩ := h
          obtain ⟨a1, a2⟩ := ops_mono hb h1
          rw [a2, if_pos ha, a1, ← h2]
          rfl
        · simp at h
      | seq a b =>
        rw [evC_seq] at h ⊢
        split at h
        · rename_i σ1 h1
          rw [hk _ _ _ _ h1]
          exact hk _ _ _ _ h
        · rename_i hno
          rw [hk _ _ _ _ h]
          obtain ⟨ex, σ1⟩ := r
          cases ex <;> first | rfl | exact absurd h (hno _)
      | cond x a b =>
        rw [evC_cond] at h ⊢
        split at h
        · exact hk _ _ _ _ h
        · simp at h
      | block id a =>
        rw [evC_block] at h ⊢
        cases ha : evC E k K a σ with
        | none => rw [ha] at h; simp at h
        | some y => rw [hk _ _ _ _ ha]; rw [ha] at h; exact h
      | loop a =>
        rw [evC_loop] at h ⊢
        split at h
        · rename_i σ1 h1
          rw [hk _ _ _ _ h1]
          exact hk _ _ _ _ h
        · rename_i hno
          rw [hk _ _ _ _ h]
          obtain ⟨ex, σ1⟩ := r
          cases ex <;> first | rfl | exact absurd h (hno _)
      | scope a =>
        rw [evC_scope] at h ⊢
        cases ha : evC E k K a σ with
        | none => rw [ha] at h; cases k <;> simp [evC.leap] at h
        | some y =>
          rw [hk _ _ _ _ ha]
          rw [ha] at h
          exact leap_mono k (fun j hj => ih j (by omega)) _ _ h
      | skip => simpa [evC] using h
      | label l => simpa [evC] using h
      | exit id => simpa [evC] using h
      | goto l => simpa [evC] using h
      | ret => simpa [evC] using h
theorem ans_run {k f : Nat} {as : List AV} {r : CRes} (h : callF E k f as = some r) : ansOf E f as = some r := by
  rw [ansOf_eq]
  refine ⟨k, fun j hj => ?_⟩
  induction hj with
  | refl => exact h
  | step _ ih => exact body_mono (E := E) (ev_mono _) _ _ _ ih
end
end Go.Pv
end

section
namespace Go.Pv
open Go.RowKit
set_option linter.unusedVariables false
set_option linter.unusedSimpArgs false
def noEnv : Env := ⟨fun _ => none, fun _ => none⟩
section
variable {P : Program} {B : Base} {K : Kills} {σ σ' : List AV} {w : World} {a : Act} {o : Oper} {Kt : Act → World → Prop} {Q : Exit → Act → World → Prop} {G : List Nat} {v0 : Nat → Option Value}
theorem noEnv_good {k : Nat} : GoodF P (callBody noEnv (evC noEnv k)) := fun f as r h => by simp [callBody, noEnv] at h
theorem noEnv_ev (hm : P.follows .mixedOrders = true) (k : Nat) : EvOk P noEnv k := ev_ok hm k fun _ _ => noEnv_good
theorem nil_eql (w : World) (t e : TypeId) (a : Option Addr) (n c : Nat) (h : P.underlying t = some (.slice e)) :
    (Go.binOp .eql t (.slice a n c) (.slice none 0 0)).run P w = .ok (.bool a.isNone) w := by
  simp only [Go.binOp]
  simp [Op.equal, Op.maxDepth, Lib.run_equalIn_slice_nil w 9999 t e a n c 0 0 h]
theorem fits_of {z : Nat} {els : List (List PV)} {Fz : BSet} {v : Value} (h : RepP w Fz (.sl z els) v) : ∃ a len cap, v = .slice a len cap ∧ (a = none → els = []) := by
  cases h with
  | nil z a cap => exact ⟨a, 0, cap, rfl, fun _ => rfl⟩
  | sl z els a cap vs => exact ⟨some a, _, cap, rfl, fun h => by simp at h⟩
def cloneI (z : Nat) : IFn := ⟨1, 8, [.tmp 2], [], [], .skip⟩
def cloneB (z : Nat) : IC := .seq (.reg [⟨some 2, .asg (.c (.w (.own z []))), none⟩]) .ret
def cloneC (z bytes : Nat) (zero : List OV) : IC := .seq (.reg [⟨some 5, .bslice z zero 0 [], none⟩, ⟨some 6, .mov (.t 0), none⟩, ⟨some 7, .app z bytes (.t 5) (.t 6) false, none⟩, ⟨some 2, .asg (.t 7), none⟩]) .ret
def CloneText (P : Program) (F : Func) (z bytes : Nat) (zero : List OV) : Prop :=
  ∃ (x : Code) (id : Nat) (o0 o1 : Oper) (b c : Code) (t e : TypeId) (u : TypeId), F.body = some (.seq x (.seq (.seq (.region id #[o0, o1] false) (.cond (.tmp 4) b .skip)) c)) ∧ codeOf P [] [] x = some (.reg [⟨some 2, .asg (.c (.w (.own z []))), none⟩]) ∧
    operOf P [] [] #[o0, o1] o0 = some ⟨some 3, .mov (.t 0), none⟩ ∧ o1.dst = some 4 ∧ o1.guard = none ∧ o1.op = .binOp .eql t (.tmp 3) (.const (.slice none 0 0)) u ∧ P.underlying t = some (.slice e) ∧ codeOf P [] [] b = some (cloneB z) ∧ codeOf P [] [] c = some (cloneC z bytes zero) ∧
    ressOf P F.results.toList = some [.tmp 2] ∧ F.ntmps = 8
def cloneE (z bytes : Nat) : List AV → Option CRes
  | [.w (.p (.sl z' els))] => if z' = z ∧ els.length ≤ 140737488351232 ∧ els.length * bytes ≤ 140737488351232 then some ([(false, [.own z (plains els)])], []) else none
  | _ => none
theorem clone_ok {f : Nat} {F : Func} {z bytes : Nat} {zero : List OV} (hm : P.follows .mixedOrders = true) (hf : P.funcs[f]? = some F) (hn : F.name ≠ "runtime.NumGoroutine") (ht : CloneText P F z bytes zero) (hz : 0 < z) :
    ∀ as r, cloneE z bytes as = some r → FnOk P f ∧ CallOk P f as r := by
  intro as r hr
  obtain ⟨x, id, o0, o1, b, c, t, e, u, hb, hx, h0, hd, hgd, ho, hu, hcb, hcc, hres, hnt⟩ := ht
  refine ⟨⟨F, hf, by simp [hb], hn⟩, ?_⟩
  unfold cloneE at hr
  split at hr
  case h_2 => simp at hr
  rename_i z' els
  split at hr
  case isFalse => simp at hr
  rename_i hc
  obtain ⟨rfl, hl1, hl2⟩ := hc
  simp only [Option.some.injEq] at hr
  subst hr
  refine body_wp (i := cloneI z') hf hb hres hnt.symm ⟨rfl, Nat.le_of_ble_eq_true rfl⟩ fun B0 v0 a0 w hI _ => ?_
  simp only [cloneI] at hI ⊢
  refine wp_seq (noEnv_ev hm 9 B0 [] [] v0 [] x _ _ [.w (.p (.sl z' els)), .u, .w (.own z' []), .u, .u, .u, .u, .u] .nor a0 w _ hx rfl hI fun a1 w1 hI1 => ?_)
  refine wp_seq (wp_seq (wp_region ?_))
  show wpOps P #[o0, o1] _ [0, 1] a1 w1
  rw [wpOps_cons]
  refine oper_sound (callf := callBody noEnv (evC noEnv 0)) (σ' := [.w (.p (.sl z' els)), .u, .w (.own z' []), .w (.p (.sl z' els)), .u, .u, .u, .u]) (u := ()) noEnv_good (o := o0) rfl h0 hI1 rfl fun a2 w2 hI2 => ?_
  rw [wpOps_cons]
  have key : ∀ bl : Bool, (bl = true → els = []) → ∀ a3 w3, InvK B0 [] [] v0 [.w (.p (.sl z' els)), .u, .w (.own z' []), .w (.p (.sl z' els)), .w (.p (.bool bl)), .u, .u, .u] a3 w3 →
      (Code.cond (.tmp 4) b .skip).wp P (Exit.then (c.wp P (fun e a' w' => ∃ (ex : Ex) (σ1 : List AV), e = ex.exit' ∧ (ex = .nor ∨ ex = .ret) ∧ InvK B0 [] [] v0 σ1 a' w' ∧ ((resP [] [.tmp 2]).run σ1).bind (fun x => ((backP [] [] [.w (.p (.sl z' els))] 0).run x.2).bind fun y => some (x.1, y.1)) = some ([(false, [.own z' (plains els)])], []))) (fun e a' w' => ∃ (ex : Ex) (σ1 : List AV), e = ex.exit' ∧ (ex = .nor ∨ ex = .ret) ∧ InvK B0 [] [] v0 σ1 a' w' ∧ ((resP [] [.tmp 2]).run σ1).bind (fun x => ((backP [] [] [.w (.p (.sl z' els))] 0).run x.2).bind fun y => some (x.1, y.1)) = some ([(false, [.own z' (plains els)])], []))) a3 w3 := by
    intro bl hbl a3 w3 hI3
    refine (wp_cond (cond_ok (c := .t 4) rfl hI3 rfl) ?_)
    cases bl with
    | true =>
      obtain rfl := hbl rfl
      rw [if_pos rfl]
      refine noEnv_ev hm 9 B0 [] [] v0 [] b _ _ [.w (.p (.sl z' [])), .u, .w (.own z' []), .w (.p (.sl z' [])), .w (.p (.bool true)), .u, .u, .u] .ret a3 w3 _ hcb rfl hI3 fun a4 w4 hI4 => ?_
      exact ⟨.ret, _, rfl, .inr rfl, hI4, rfl⟩
    | false =>
      rw [if_neg (by simp)]
      refine wp_skip ?_
      refine noEnv_ev hm 9 B0 [] [] v0 [] c (cloneC z' bytes zero) _ [.w (.p (.sl z' els)), .u, .w (.own z' (plains els)), .w (.p (.sl z' els)), .w (.p (.bool false)), .u, .w (.p (.sl z' els)), .u] .ret a3 w3 _ hcc ?_ hI3 fun a4 w4 hI4 => ?_
      · have e1 : ([] : List (List OV)) ++ plains els = plains els := rfl
        simp only [cloneC, evC, runOps, operP, opP, out, wr, killIf, killL_nil, Pg.bind, Pg.run, List.getD_cons_succ, List.getD_cons_zero, List.set_cons_succ, List.set_cons_zero, Option.bind_some, movPtr, movVal, val, valOf, sc, outVal, take, AV.mk, Pg.opt, Pg.guard, plainAll, List.all_cons, List.all_nil, OV.plain, AV.on, ite_true, ite_false, Bool.and_true, Bool.not_false, Bool.false_eq_true, Bool.true_and, bsliceP, List.replicate, copy, OV.frzs, OV.frz, List.map_cons, List.map_nil, Bool.and_self, decide_eq_true_eq, List.length_nil, Nat.zero_add, hl1, hl2, Bool.and_eq_true, beq_self_eq_true, and_self, decide_true, List.getD_nil]
        rfl
      · exact ⟨.ret, _, rfl, .inr rfl, hI4, rfl⟩
  unfold wpOp
  have e1 : (#[o0, o1] : Array Oper)[1]? = some o1 := rfl
  rw [e1]
  simp only
  rw [if_pos (by simp [Region.wanted, hgd])]
  refine .inl ?_
  obtain ⟨⟨hdf, hsz, Fz, S, hst, hfree⟩, hkeep⟩ := hI2
  have hr3 := hst.rep 3
  have hr3' : RepP w2 Fz (.sl z' els) (valsOf a2 3) := by cases hr3 with | p h => exact h
  obtain ⟨ad, len, cap, e3, hnil⟩ := fits_of hr3'
  have hev : a2.eval (.tmp 3) = .slice ad len cap := by
    rw [← e3]
    exact (odOf_ok (P := P) (t := t) (x := .tmp 3) (od := .t 3) (a := a2) rfl).symm
  refine wp_value (x := .bool ad.isNone) (w' := w2) ?_ ?_
  · have e4 : a2.eval (.const (.slice none 0 0)) = .slice none 0 0 := rfl
    have e5 : (eqGuard .eql t (.tmp 3) (.const (.slice none 0 0)) (.slice ad len cap) (.slice none 0 0)).run P w2 = .ok () w2 := by
      unfold eqGuard; split <;> rfl
    simp only [execOp, ho, hev, e4, Sem.run_bind, e5, Result.andThen_ok, nil_eql w2 t e ad len cap hu, Sem.run_pure]
  · rw [hd]
    refine key ad.isNone (fun h => hnil (by simpa using h)) _ _ ⟨?_, fun t ht => by simp at ht⟩
    exact fin_p (hd := 8) (dst := some 4) (c := .bool ad.isNone) hst hdf hsz (Nat.le_refl _) (Inv.free hfree _) (u := ()) rfl (.bool _)
end
end Go.Pv
end

section
namespace Go.Pv
set_option linter.unusedVariables false
set_option linter.unusedSimpArgs false
abbrev Asc := List (Nat × AV)
def look : Asc → Nat → AV
  | [], _ => .u
  | (t', v) :: r, t => if t' = t then v else look r t
def del (t : Nat) : Asc → Asc
  | [] => []
  | (t', w) :: r => if t' = t then del t r else (t', w) :: del t r
def insV (t : Nat) (v : AV) : Asc → Asc
  | [] => [(t, v)]
  | (t', w) :: r => if t' = t then (t, v) :: r else if t < t' then (t, v) :: (t', w) :: r else (t', w) :: insV t v r
def ins (t : Nat) (v : AV) (l : Asc) : Asc :=
  match v with
  | .u => del t l
  | v => insV t v l
def keepS (ks : List Nat) : Asc → Asc
  | [] => []
  | (t, v) :: r => if ks.contains t then (t, v) :: keepS ks r else keepS ks r
def sortedK : Nat → Asc → Bool
  | _, [] => true
  | k, (t, _) :: r => Nat.ble k t && sortedK (t + 1) r
def killF (c : AV → Bool) (ts : List Nat) : Asc → Asc
  | [] => []
  | (t, v) :: r => if c v then (if ts.contains t then killF c ts r else (t, v) :: killF c ts r) else (t, v) :: killF c ts r
namespace Pg
def runS {α : Type} (n : Nat) : Pg α → Asc → Option (α × Asc)
  | .ret x, l => some (x, l)
  | .fail, _ => none
  | .get t k, l => (k (look l t)).runS n l
  | .put t v k, l => if t < n then k.runS n (ins t v l) else none
  | .kill c ts k, l => k.runS n (killF c ts l)
def logS {α : Type} (n : Nat) : Pg α → Asc → Lg → Lg
  | .ret _, _, L | .fail, _, L => L
  | .get t k, l, L => (k (look l t)).logS n l (L.rd t (look l t))
  | .put t v k, l, L => k.logS n (ins t v l) (L.wt t v)
  | .kill c ts k, l, L => k.logS n (killF c ts l) (L.ki c ts)
end Pg
theorem look_insV (t : Nat) (v : AV) : ∀ (l : Asc) (t' : Nat), look (insV t v l) t' = if t = t' then v else look l t'
  | [], t' => rfl
  | (s, w) :: r, t' => by
    unfold insV
    split
    · rename_i h; subst h
      simp only [look]
      split <;> rfl
    · split
      · simp only [look]
      · rename_i h1 h2
        simp only [look, look_insV t v r]
        split
        · rename_i h3; rw [if_neg (by omega)]
        · rfl
theorem look_del (t : Nat) : ∀ (l : Asc) (t' : Nat), look (del t l) t' = if t = t' then .u else look l t'
  | [], t' => by simp [del, look]
  | (s, w) :: r, t' => by
    have ih := look_del t r t'
    unfold del
    split
    · rename_i h; subst h
      rw [ih]
      split
      · rfl
      · rename_i h2; simp only [look, if_neg h2]
    · rename_i h
      simp only [look, ih]
      split
      · rename_i h3; rw [if_neg (by omega)]
      · rfl
theorem look_ins (t : Nat) (v : AV) (l : Asc) (t' : Nat) : look (ins t v l) t' = if t = t' then v else look l t' := by
  unfold ins
  split
  · exact look_del t l t'
  · exact look_insV t _ l t'
theorem look_keep (ks : List Nat) : ∀ (l : Asc) (t : Nat), look (keepS ks l) t = .u ∨ look (keepS ks l) t = look l t
  | [], t => .inl rfl
  | (s, w) :: r, t => by
    have ih := look_keep ks r t
    simp only [keepS]
    split
    · simp only [look]; split
      · exact .inr rfl
      · exact ih
    · rename_i hc
      simp only [look]; split
      · rename_i he; subst he
        refine .inl ?_
        clear ih
        induction r with
        | nil => rfl
        | cons x r ih =>
          simp only [keepS]; split
          · rename_i h2; simp only [look]; split
            · rename_i h3; rw [h3] at h2; exact absurd h2 hc
            · exact ih
          · exact ih
      · exact ih
theorem sorted_lt : ∀ {l : Asc} {k t : Nat}, sortedK k l = true → t < k → look l t = .u
  | [], _, _, _, _ => rfl
  | (s, v) :: r, k, t, h, ht => by
    simp only [sortedK, Bool.and_eq_true, Nat.ble_eq] at h
    simp only [look]
    rw [if_neg (by omega)]
    exact sorted_lt h.2 (by omega)
theorem del_lt : ∀ {l : Asc} {k t : Nat}, sortedK k l = true → t < k → del t l = l
  | [], _, _, _, _ => rfl
  | (s, v) :: r, k, t, h, ht => by
    simp only [sortedK, Bool.and_eq_true, Nat.ble_eq] at h
    simp only [del]
    rw [if_neg (by omega), del_lt h.2 (by omega)]
theorem sorted_mono : ∀ {l : Asc} {k k' : Nat}, sortedK k l = true → k' ≤ k → sortedK k' l = true
  | [], _, _, _, _ => rfl
  | (s, v) :: r, k, k', h, ht => by
    simp only [sortedK, Bool.and_eq_true, Nat.ble_eq] at h ⊢
    exact ⟨by omega, h.2⟩
theorem sorted_del : ∀ {l : Asc} {k : Nat} (t : Nat), sortedK k l = true → sortedK k (del t l) = true
  | [], _, _, _ => rfl
  | (s, v) :: r, k, t, h => by
    simp only [sortedK, Bool.and_eq_true, Nat.ble_eq] at h
    simp only [del]
    split
    · exact sorted_mono (sorted_del t h.2) (by omega)
    · simp only [sortedK, Bool.and_eq_true, Nat.ble_eq]; exact ⟨h.1, sorted_del t h.2⟩
theorem sorted_insV (t : Nat) (v : AV) : ∀ {l : Asc} {k : Nat}, sortedK k l = true → k ≤ t → sortedK k (insV t v l) = true
  | [], k, _, hk => by simp [insV, sortedK, hk]
  | (s, w) :: r, k, h, hk => by
    simp only [sortedK, Bool.and_eq_true, Nat.ble_eq] at h
    simp only [insV]
    split
    · rename_i e; subst e
      simp only [sortedK, Bool.and_eq_true, Nat.ble_eq]; exact h
    · split
      · simp only [sortedK, Bool.and_eq_true, Nat.ble_eq]; exact ⟨hk, by omega, h.2⟩
      · simp only [sortedK, Bool.and_eq_true, Nat.ble_eq]; exact ⟨h.1, sorted_insV t v h.2 (by omega)⟩
theorem sorted_ins (t : Nat) (v : AV) {l : Asc} (h : sortedK 0 l = true) : sortedK 0 (ins t v l) = true := by
  unfold ins
  split
  · exact sorted_del t h
  · exact sorted_insV t _ h (by omega)
theorem sorted_killF (c : AV → Bool) (ts : List Nat) : ∀ {l : Asc} {k : Nat}, sortedK k l = true → sortedK k (killF c ts l) = true
  | [], _, _ => rfl
  | (s, w) :: r, k, h => by
    simp only [sortedK, Bool.and_eq_true, Nat.ble_eq] at h
    have ih := sorted_killF c ts h.2
    simp only [killF]
    split
    · split
      · exact sorted_mono ih (by omega)
      · simp only [sortedK, Bool.and_eq_true, Nat.ble_eq]; exact ⟨h.1, ih⟩
    · simp only [sortedK, Bool.and_eq_true, Nat.ble_eq]; exact ⟨h.1, ih⟩
theorem sorted_keep (ks : List Nat) : ∀ {l : Asc} {k : Nat}, sortedK k l = true → sortedK k (keepS ks l) = true
  | [], _, _ => rfl
  | (s, w) :: r, k, h => by
    simp only [sortedK, Bool.and_eq_true, Nat.ble_eq] at h
    have ih := sorted_keep ks h.2
    simp only [keepS]
    split
    · simp only [sortedK, Bool.and_eq_true, Nat.ble_eq]; exact ⟨h.1, ih⟩
    · exact sorted_mono ih (by omega)
theorem look_killF (c : AV → Bool) (ts : List Nat) : ∀ {l : Asc} {k : Nat}, sortedK k l = true → ∀ t, look (killF c ts l) t = if ts.contains t && c (look l t) then .u else look l t
  | [], _, _, t => by simp [killF, look]
  | (s, w) :: r, k, h, t => by
    simp only [sortedK, Bool.and_eq_true, Nat.ble_eq] at h
    have ih := look_killF c ts h.2 t
    by_cases e : s = t
    · subst e
      have hr : look (killF c ts r) s = .u := sorted_lt (sorted_killF c ts h.2) (by omega)
      simp only [killF, look, if_true]
      cases hc : c w with
      | true =>
        cases ht : ts.contains s with
        | true => simp [hr]
        | false => simp [look]
      | false => simp [look]
    · simp only [killF, look, if_neg e]
      split
      · split
        · exact ih
        · simp only [look, if_neg e]; exact ih
      · simp only [look, if_neg e]; exact ih
def Up (n : Nat) (l : Asc) (σ : List AV) : Prop := σ.length = n ∧ sortedK 0 l = true ∧ ∀ t, look l t = .u ∨ look l t = σ.getD t .u
theorem Up.keep {n : Nat} {l : Asc} {σ : List AV} (h : Up n l σ) (ks : List Nat) : Up n (keepS ks l) σ := ⟨h.1, sorted_keep ks h.2.1, fun t => by
  rcases look_keep ks l t with e | e
  · exact .inl e
  · rw [e]; exact h.2.2 t⟩
theorem Up.put {n t : Nat} {l : Asc} {σ : List AV} (h : Up n l σ) (ht : t < n) (v : AV) : Up n (ins t v l) (σ.set t v) := ⟨by simp [h.1], sorted_ins t v h.2.1, fun t' => by
  rw [look_ins]
  split
  · rename_i e; subst e
    right
    simp [h.1, ht]
  · rename_i e
    rcases h.2.2 t' with q | q
    · exact .inl q
    · right; rw [q]; simp [List.getD_eq_getElem?_getD, List.getElem?_set_ne e]⟩
theorem Up.kill {n : Nat} {l : Asc} {σ : List AV} {c : AV → Bool} {ts : List Nat} (h : Up n l σ) : Up n (killF c ts l) (killL c ts σ) := ⟨by rw [killL_len]; exact h.1, sorted_killF c ts h.2.1, fun t => by
  rw [look_killF c ts h.2.1, killL_get]
  rcases h.2.2 t with q | q
  · rw [q]; left; simp
  · rw [q]; right; rfl⟩
def Good {α : Type} (p : Pg α) : Prop := ∀ (n : Nat) (l : Asc) (σ : List AV) (x : α) (l' : Asc), Up n l σ → p.runS n l = some (x, l') → ∃ σ', p.run σ = some (x, σ') ∧ Up n l' σ' ∧ ∀ L, p.log σ L = p.logS n l L
section
variable {α β : Type}
theorem good_ret (x : α) : Good (.ret x) := fun n l σ y l' h hr => by
  simp only [Pg.runS, Option.some.injEq, Prod.mk.injEq] at hr
  obtain ⟨rfl, rfl⟩ := hr
  exact ⟨σ, rfl, h, fun _ => rfl⟩
theorem good_fail : Good (.fail : Pg α) := fun n l σ y l' h hr => by simp [Pg.runS] at hr
theorem runS_bind {n : Nat} (p : Pg α) (f : α → Pg β) (l : Asc) : (p.bind f).runS n l = (p.runS n l).bind fun r => (f r.1).runS n r.2 := by
  induction p generalizing l with
  | ret x => rfl
  | fail => rfl
  | get t k ih => exact ih _ _
  | put t v k ih =>
    simp only [Pg.bind, Pg.runS]
    split
    · exact ih _
    · rfl
  | kill c ts k ih => exact ih _
theorem logS_bind {n : Nat} (p : Pg α) (f : α → Pg β) (l : Asc) (L : Lg) {r : α × Asc} (h : p.runS n l = some r) : (p.bind f).logS n l L = (f r.1).logS n r.2 (p.logS n l L) := by
  induction p generalizing l L with
  | ret x =>
    simp only [Pg.runS, Option.some.injEq] at h
    subst h; simp [Pg.bind, Pg.logS]
  | fail => simp [Pg.runS] at h
  | get t k ih => simp only [Pg.bind, Pg.logS]; exact ih _ l _ h
  | put t v k ih =>
    simp only [Pg.runS] at h
    split at h
    · simp only [Pg.bind, Pg.logS]; exact ih _ _ h
    · simp at h
  | kill c ts k ih => simp only [Pg.bind, Pg.logS]; exact ih _ _ h
theorem good_bind {p : Pg α} {f : α → Pg β} (hp : Good p) (hf : ∀ x, Good (f x)) : Good (p.bind f) := fun n l σ y l' h hr => by
  rw [runS_bind] at hr
  obtain ⟨⟨x, l1⟩, h1, h2⟩ := Option.bind_eq_some_iff.1 hr
  obtain ⟨σ1, a1, a2, a3⟩ := hp n l σ x l1 h h1
  obtain ⟨σ2, b1, b2, b3⟩ := hf x n l1 σ1 y l' a2 h2
  refine ⟨σ2, ?_, b2, fun L => ?_⟩
  · rw [run_bind_eq, a1]; exact b1
  · rw [log_bind_eq, a1, logS_bind p f l L h1]
    simp only [a3, b3]
theorem good_get {t : Nat} {k : AV → Pg α} (hk : ∀ v, Good (k v)) (hu : ∀ n l, (k .u).runS n l = none) : Good (.get t k) := fun n l σ y l' h hr => by
  simp only [Pg.runS] at hr
  rcases h.2.2 t with e | e
  · rw [e, hu] at hr; simp at hr
  · obtain ⟨σ1, a1, a2, a3⟩ := hk _ n l σ y l' h hr
    rw [e] at a1 a3
    refine ⟨σ1, a1, a2, fun L => ?_⟩
    simp only [Pg.log, Pg.logS, e]
    exact a3 _
theorem good_put {t : Nat} {v : AV} {k : Pg α} (hk : Good k) : Good (.put t v k) := fun n l σ y l' h hr => by
  simp only [Pg.runS] at hr
  split at hr
  · rename_i ht
    obtain ⟨σ1, a1, a2, a3⟩ := hk n _ _ y l' (h.put ht v) hr
    refine ⟨σ1, a1, a2, fun L => ?_⟩
    simp only [Pg.log, Pg.logS]
    rw [if_pos (by rw [h.1]; exact ht)]
    exact a3 _
  · simp at hr
theorem good_killC {c : AV → Bool} {ts : List Nat} {k : Pg α} (hk : Good k) : Good (.kill c ts k) := fun n l σ y l' h hr => by
  obtain ⟨σ1, a1, a2, a3⟩ := hk n _ _ y l' h.kill hr
  exact ⟨σ1, a1, a2, fun L => a3 _⟩
theorem good_opt (x : Option α) : Good (Pg.opt x) := by cases x <;> first | exact good_fail | exact good_ret _
theorem good_guard (c : Bool) : Good (Pg.guard c) := by unfold Pg.guard; split <;> first | exact good_fail | exact good_ret _
theorem good_ite {c : Prop} [Decidable c] {p q : Pg α} (hp : Good p) (hq : Good q) : Good (if c then p else q) := by split <;> assumption
end
theorem good_kill (c : AV → Bool) (ts : List Nat) : Good (killIf c ts) := good_killC (good_ret _)
section
variable (K : Kills)
theorem good_wr (d : Nat) (v : AV) : Good (wr K d v) := good_bind (good_kill _ _) fun _ => good_put (good_ret _)
theorem good_killMem (d : Nat) : Good (killMem K d) := good_kill _ _
theorem good_killEl (d : Nat) (ts : List Nat) : Good (killIf (AV.onEl d) ts) := good_kill _ _
theorem good_getPl (pl : Pl) (n : Nat) : Good (getPl pl n) := good_get (fun v => good_opt _) fun m l => by cases pl <;> simp [getIn, AV.cells, slot, Pg.opt, Pg.runS]
theorem good_putPl (pl : Pl) (cs : List OV) : Good (putPl pl cs) := good_get (fun v => good_bind (good_opt _) fun _ => good_put (good_ret _)) fun m l => by cases pl <;> simp [putIn, AV.cells, slot, Pg.opt, Pg.runS, Pg.bind]
theorem good_valOf (x : Nat) (v : AV) : Good (valOf x v) := by
  unfold valOf
  split <;> first | exact good_ret _ | exact good_fail | skip
  · refine good_get (fun v => ?_) (fun m l => by simp [AV.cells, Pg.runS])
    split
    · split <;> first | exact good_ret _ | exact good_fail
    · exact good_fail
  · exact good_bind (good_getPl _ _) fun _ => good_ret _
  · refine good_get (fun v => ?_) (fun m l => by simp [Pg.runS])
    split
    · exact good_bind (good_opt _) fun _ => good_ret _
    · exact good_fail
  · exact good_bind (good_getPl _ _) fun _ => good_bind (good_opt _) fun _ => good_ret _
theorem good_val (x : Od) : Good (val x) := by
  unfold val
  split
  · split <;> first | exact good_ret _ | exact good_fail
  · exact good_get (fun v => good_valOf _ v) fun m l => by simp [valOf, Pg.runS]
theorem good_copy (v : Val) : Good (copy v) := by
  unfold copy
  split
  · exact good_ret _
  · split
    · split
      · exact good_ret _
      · exact good_bind (good_putPl _ _) fun _ => good_ret _
      · exact good_bind (good_getPl _ _) fun _ => good_bind (good_guard _) fun _ => good_bind (good_putPl _ _) fun _ => good_ret _
    · exact good_fail
theorem good_take (v : Val) : Good (take K v) := by
  unfold take
  split
  · exact good_ret _
  · split
    · exact good_ret _
    · exact good_bind (good_wr K _ _) fun _ => good_ret _
    · exact good_bind (good_putPl _ _) fun _ => good_bind (good_killEl _ _) fun _ => good_ret _
    · exact good_bind (good_wr K _ _) fun _ => good_ret _
    · exact good_bind (good_putPl _ _) fun _ => good_bind (good_killEl _ _) fun _ => good_ret _
theorem good_out (dst : Option Nat) (v : AV) : Good (out K dst v) := by unfold out; split <;> first | exact good_wr K _ _ | exact good_ret _
theorem good_outOn (dst : Option Nat) (h : Nat) (v : AV) : Good (outOn K dst h v) := by
  unfold outOn; split
  · exact good_ite (good_wr K _ _) good_fail
  · exact good_ret _
theorem good_outVal (dst : Option Nat) (ag : Bool) (cs : List OV) : Good (outVal K dst ag cs) := good_bind (good_opt _) fun _ => good_out K _ _
theorem good_sc (x : Od) : Good (sc x) := by
  refine good_bind (good_val x) fun v => ?_
  split <;> first | exact good_ret _ | exact good_fail
theorem good_scInt (x : Od) : Good (scInt x) := by
  refine good_bind (good_sc x) fun v => ?_
  split <;> first | exact good_ret _ | exact good_fail
theorem good_movPtr (dst : Option Nat) (i : Nat) (els : Pg Unit) (v : AV) (h : Good els) : Good (movPtr K dst i els v) := by
  unfold movPtr
  split <;> first | exact good_outOn K _ _ _ | exact good_out K _ _ | exact h | skip
  split
  · exact good_ite (good_wr K _ _) good_fail
  · exact good_ret _
theorem good_movVal (dst : Option Nat) (i : Nat) (v : AV) : Good (movVal K dst i v) := by
  unfold movVal
  split <;> first | exact good_outOn K _ _ _ | exact good_fail | exact good_bind (good_wr K _ _) (fun _ => good_out K _ _) | skip
  · exact good_ite (good_out K _ _) (good_outOn K _ _ _)
  · exact good_ite (good_out K _ _) (good_outOn K _ _ _)
theorem good_adr (x : Od) : Good (adr x) := by
  unfold adr
  split
  · refine good_get (fun v => ?_) fun m l => rfl
    split <;> first | exact good_ret _ | exact good_fail
  · exact good_fail
theorem good_build : ∀ (ps : List (Nat × Nat × Od)) (cs : List OV), Good (buildP K cs ps)
  | [], cs => good_ret _
  | (off, n, x) :: r, cs => good_bind (good_val x) fun v => good_bind (good_guard _) fun _ => good_bind (good_take K v) fun new => good_bind (good_opt _) fun cs' => good_build r cs'
theorem good_bslice (z : Nat) : ∀ (ps : List (Nat × Od)) (els : List (List OV)), Good (bsliceP K z els ps)
  | [], cs => good_ret _
  | (i, x) :: r, cs => good_bind (good_val x) fun v => good_bind (good_guard _) fun _ => good_bind (good_take K v) fun new => good_bslice z r _
theorem good_ends (len : Nat) (lo hi : Option Od) : Good (ends len lo hi) := by
  unfold ends
  refine good_bind ?_ fun a => good_bind ?_ fun b => good_ite (good_ret _) good_fail
  · split <;> first | exact good_scInt _ | exact good_ret _
  · split <;> first | exact good_scInt _ | exact good_ret _
theorem good_argP (x : Od × Bool) : Good (argP K x) := by
  unfold argP
  split
  · split <;> first | exact good_ret _ | exact good_fail | exact good_ite (good_ret _) good_fail
  · refine good_get (fun v => ?_) fun m l => ?_
    · split
      · exact good_bind (good_killMem K _) fun _ => good_put (good_ret _)
      · refine good_get (fun v => ?_) fun m l => rfl
        split
        · exact good_bind (good_killMem K _) fun _ => good_put (good_ret _)
        · exact good_fail
      · exact good_ret _
      · exact good_ite (good_ret _) good_fail
      · refine good_bind (good_valOf _ _) fun v => good_ite (good_bind (good_take K _) fun _ => good_bind (good_opt _) fun _ => good_ret _) (good_bind (good_copy _) fun _ => good_bind (good_opt _) fun _ => good_ret _)
    · simp [valOf, Pg.bind, Pg.runS]
theorem good_argsP : ∀ xs, Good (argsP K xs)
  | [] => good_ret _
  | x :: xs => good_bind (good_argP K x) fun (a, l) => good_bind (good_argsP xs) fun (as, ls) => good_ret _
theorem good_capsP : ∀ xs, Good (capsP K xs)
  | [] => good_ret _
  | x :: xs => by
    unfold capsP
    split
    · exact good_ret _
    · rename_i d r h
      obtain ⟨_, rfl⟩ := List.cons.inj h
      refine good_get (fun v => ?_) fun m l => rfl
      split
      · exact good_bind (good_killMem K _) fun _ => good_put (good_bind (good_capsP _) fun _ => good_ret _)
      · exact good_fail
    · rename_i h
      obtain ⟨_, rfl⟩ := List.cons.inj h
      exact good_ite (good_bind (good_capsP _) fun _ => good_ret _) good_fail
    · rename_i h
      obtain ⟨_, rfl⟩ := List.cons.inj h
      exact good_ite (good_bind (good_capsP _) fun _ => good_ret _) good_fail
    · exact good_fail
theorem good_giveBack : ∀ ls bs, Good (giveBack K ls bs)
  | [], [] => good_ret _
  | d :: ds, cs :: css => good_put (good_bind (good_killMem K _) fun _ => good_giveBack ds css)
  | [], _ :: _ => good_fail
  | _ :: _, [] => good_fail
theorem good_outRes (dst : Option Nat) (rs : List (Bool × List OV)) : Good (outRes K dst rs) := by
  unfold outRes
  split <;> first | exact good_outVal K _ _ _ | exact good_out K _ _
theorem good_callP (callf : Nat → List AV → Option CRes) (dst : Option Nat) (f : Nat) (as : List AV) (ls : List Nat) : Good (callP K callf dst f as ls) := by
  unfold callP
  exact good_bind (good_opt _) fun (rs, bs) => good_bind (good_giveBack K _ _) fun _ => good_outRes K _ _
def notU (l : List AV) : Bool := l.all fun v => !v.isU
theorem capsOn_notU (d : Nat) : ∀ cs, capsOn K d cs = true → notU cs = true
  | [], _ => rfl
  | c :: cs, h => by
    unfold capsOn at h
    split at h
    · rename_i e; simp at e
    · rename_i e; obtain ⟨rfl, rfl⟩ := List.cons.inj e
      simp only [Bool.and_eq_true] at h
      simpa [notU, AV.isU] using capsOn_notU d _ h.2
    · rename_i e; obtain ⟨rfl, rfl⟩ := List.cons.inj e
      simp only [Bool.and_eq_true] at h
      simpa [notU, AV.isU] using capsOn_notU d _ h.2
    · rename_i e; obtain ⟨rfl, rfl⟩ := List.cons.inj e
      simp only [Bool.and_eq_true] at h
      simpa [notU, AV.isU] using capsOn_notU d _ h.2
    · simp at h
theorem caps_good : ∀ (caps : List Od) (n : Nat) (l : Asc) (σ : List AV) (x : List AV) (l' : Asc), Up n l σ → (opP.capsM caps).runS n l = some (x, l') → notU x = true → ∃ σ', (opP.capsM caps).run σ = some (x, σ') ∧ Up n l' σ' ∧ ∀ L, (opP.capsM caps).log σ L = (opP.capsM caps).logS n l L
  | [], n, l, σ, x, l', h, hr, _ => good_ret _ n l σ x l' h hr
  | .c v :: r, n, l, σ, x, l', h, hr, hx => by
    simp only [opP.capsM] at hr ⊢
    rw [runS_bind] at hr
    obtain ⟨⟨y, l1⟩, h1, h2⟩ := Option.bind_eq_some_iff.1 hr
    simp only [Pg.runS, Option.some.injEq, Prod.mk.injEq] at h2
    obtain ⟨rfl, rfl⟩ := h2
    simp only [notU, List.all_cons, Bool.and_eq_true] at hx
    obtain ⟨σ1, a1, a2, a3⟩ := caps_good r n l σ y l1 h h1 hx.2
    refine ⟨σ1, by rw [run_bind_eq, a1]; rfl, a2, fun L => ?_⟩
    rw [log_bind_eq, a1, logS_bind _ _ l L h1]
    simp only [Pg.log, Pg.logS, a3]
  | .t i :: r, n, l, σ, x, l', h, hr, hx => by
    have key : ∀ v : AV, v.isU = false → ∀ (hr : (match v with | .box _ => (opP.capsM r).bind fun cs => Pg.ret (AV.ptr (.b i 0) :: cs) | v => (opP.capsM r).bind fun cs => Pg.ret (v :: cs)).runS n l = some (x, l')), ∃ σ', (match v with | .box _ => (opP.capsM r).bind fun cs => Pg.ret (AV.ptr (.b i 0) :: cs) | v => (opP.capsM r).bind fun cs => Pg.ret (v :: cs)).run σ = some (x, σ') ∧ Up n l' σ' ∧
        ∀ L, (match v with | .box _ => (opP.capsM r).bind fun cs => Pg.ret (AV.ptr (.b i 0) :: cs) | v => (opP.capsM r).bind fun cs => Pg.ret (v :: cs)).log σ L = (match v with | .box _ => (opP.capsM r).bind fun cs => Pg.ret (AV.ptr (.b i 0) :: cs) | v => (opP.capsM r).bind fun cs => Pg.ret (v :: cs)).logS n l L := by
      intro v hv hr
      have one : ∀ w : AV, ((opP.capsM r).bind fun cs => Pg.ret (w :: cs)).runS n l = some (x, l') → ∃ σ', ((opP.capsM r).bind fun cs => Pg.ret (w :: cs)).run σ = some (x, σ') ∧ Up n l' σ' ∧ ∀ L, ((opP.capsM r).bind fun cs => Pg.ret (w :: cs)).log σ L = ((opP.capsM r).bind fun cs => Pg.ret (w :: cs)).logS n l L := by
        intro w hr
        rw [runS_bind] at hr
        obtain ⟨⟨y, l1⟩, h1, h2⟩ := Option.bind_eq_some_iff.1 hr
        simp only [Pg.runS, Option.some.injEq, Prod.mk.injEq] at h2
        obtain ⟨rfl, rfl⟩ := h2
        simp only [notU, List.all_cons, Bool.and_eq_true] at hx
        obtain ⟨σ1, a1, a2, a3⟩ := caps_good r n l σ y l1 h h1 hx.2
        refine ⟨σ1, by rw [run_bind_eq, a1]; rfl, a2, fun L => ?_⟩
        rw [log_bind_eq, a1, logS_bind _ _ l L h1]
        simp only [Pg.log, Pg.logS, a3]
      cases v <;> first | exact one _ hr
    simp only [opP.capsM, Pg.runS] at hr
    have hu : (look l i).isU = false := by
      cases hv : look l i with
      | u =>
        rw [hv] at hr
        simp only [runS_bind] at hr
        obtain ⟨⟨y, l1⟩, h1, h2⟩ := Option.bind_eq_some_iff.1 hr
        simp only [Pg.runS, Option.some.injEq, Prod.mk.injEq] at h2
        obtain ⟨rfl, rfl⟩ := h2
        simp [notU, AV.isU] at hx
      | _ => rfl
    have e : look l i = σ.getD i .u := by
      rcases h.2.2 i with q | q
      · rw [q] at hu; simp [AV.isU] at hu
      · exact q
    obtain ⟨σ1, a1, a2, a3⟩ := key _ hu hr
    refine ⟨σ1, by simp only [opP.capsM, Pg.run, ← e]; exact a1, a2, fun L => ?_⟩
    simp only [opP.capsM, Pg.log, Pg.logS, ← e]
    exact a3 _
theorem good_mkf (d f : Nat) (caps : List Od) : Good ((opP.capsM caps).bind fun cs => if capsOn K d cs then wr K d (.clo f cs) else .fail) := fun n l σ y l' h hr => by
  have hr' := hr
  rw [runS_bind] at hr
  obtain ⟨⟨x, l1⟩, h1, h2⟩ := Option.bind_eq_some_iff.1 hr
  have hc : capsOn K d x = true := by
    simp only at h2
    split at h2
    · assumption
    · simp [Pg.runS] at h2
  obtain ⟨σ1, a1, a2, a3⟩ := caps_good caps n l σ x l1 h h1 (capsOn_notU K d x hc)
  have hg : Good (if capsOn K d x then wr K d (.clo f x) else .fail) := good_ite (good_wr K _ _) good_fail
  obtain ⟨σ2, b1, b2, b3⟩ := hg n l1 σ1 y l' a2 h2
  refine ⟨σ2, by rw [run_bind_eq, a1]; exact b1, b2, fun L => ?_⟩
  rw [log_bind_eq, a1, logS_bind _ _ l L h1]
  simp only [a3, b3]
theorem good_op (callf : Nat → List AV → Option CRes) (dst : Option Nat) (op : IOp) : Good (opP K callf dst op) := by
  have hb : ∀ {α β : Type} {p : Pg α} {f : α → Pg β}, Good p → (∀ x, Good (f x)) → Good (p.bind f) := fun h h' => good_bind h h'
  cases op with
  | mov x =>
    cases x with
    | c v => exact good_out K _ _
    | t i => exact good_get (fun v => good_movPtr K _ _ _ _ (good_movVal K _ _ _)) fun n l => rfl
  | asg x =>
    cases x with
    | c v => exact good_out K _ _
    | t i => exact good_get (fun v => good_movPtr K _ _ _ _ (good_bind (good_valOf _ _) fun v => good_bind (good_take K _) fun _ => good_outVal K _ _ _)) fun n l => rfl
  | pick c a b =>
    refine good_bind (good_sc c) fun v => ?_
    cases v <;> first | exact good_fail | exact good_bind (good_sc _) fun _ => good_out K _ _
  | alloc z => exact good_out K _ _
  | box x => exact good_bind (good_val _) fun _ => good_bind (good_guard _) fun _ => good_bind (good_take K _) fun _ => good_out K _ _
  | build z ps => exact good_bind (good_build K _ _) fun _ => good_out K _ _
  | bslice z ze n ps => exact good_bind (good_bslice K _ _ _) fun _ => good_out K _ _
  | load n ag x =>
    refine good_bind (good_adr x) fun v => ?_
    cases v with
    | inl pl => exact good_bind (good_getPl _ _) fun cs => good_ite (good_outVal K _ _ _) (good_outOn K _ _ _)
    | inr cs => exact good_bind (good_guard _) fun _ => good_outVal K _ _ _
  | store n x v keep =>
    refine good_bind (good_adr x) fun pl => ?_
    cases pl with
    | inr cs => exact good_fail
    | inl pl =>
      refine good_bind (good_val v) fun v => good_bind (good_guard _) fun _ => good_bind ?_ fun cs => good_bind (good_putPl _ _) fun _ => good_killMem K _
      split
      · exact good_bind (good_copy _) fun _ => good_ret _
      · exact good_take K _
  | nilchk x =>
    cases x with
    | c v => exact good_fail
    | t i => exact good_get (fun v => good_movPtr K _ _ _ _ good_fail) fun n l => rfl
  | bin o x y => exact good_bind (good_sc x) fun a => good_bind (good_sc y) fun b => good_bind (good_opt _) fun c => good_out K _ _
  | eqs neg x y => exact good_bind (good_val x) fun a => good_bind (good_val y) fun b => good_bind (good_guard _) fun _ => good_bind (good_opt _) fun c => good_out K _ _
  | beq neg x y =>
    refine good_bind (good_sc x) fun a => ?_
    cases a <;> first | exact good_fail | skip
    refine good_bind (good_sc y) fun b => ?_
    cases b <;> first | exact good_fail | exact good_out K _ _
  | un o x => exact good_bind (good_sc x) fun a => good_bind (good_opt _) fun c => good_out K _ _
  | cvi k x => exact good_bind (good_scInt x) fun a => good_out K _ _
  | b2s x =>
    refine good_bind (good_val x) fun v => good_bind (good_guard _) fun _ => ?_
    split
    · exact good_bind (good_opt _) fun _ => good_out K _ _
    · exact good_bind (good_guard _) fun _ => good_bind (good_opt _) fun _ => good_out K _ _
    · exact good_fail
  | s2b x =>
    refine good_bind (good_sc x) fun a => ?_
    cases a <;> first | exact good_fail | exact good_out K _ _
  | i2s x => exact good_bind (good_scInt x) fun a => good_out K _ _
  | sid x =>
    refine good_bind (good_sc x) fun a => ?_
    cases a <;> first | exact good_fail | exact good_out K _ _
  | sls x lo hi =>
    refine good_bind (good_sc x) fun a => ?_
    cases a <;> first | exact good_fail | exact good_bind (good_ends _ _ _) fun _ => good_out K _ _
  | slc z x lo hi =>
    refine good_bind (good_val x) fun v => good_bind (good_guard _) fun _ => good_bind (good_opt _) fun len => good_bind (good_ends _ _ _) fun (l, h) => ?_
    dsimp only
    split
    · exact good_ite (good_out K _ _) good_fail
    · refine good_ite ?_ good_fail
      split <;> first | exact good_out K _ _ | exact good_outOn K _ _ _ | exact good_fail
    · exact good_fail
  | fad off x =>
    refine good_bind (good_adr x) fun v => ?_
    cases v <;> first | exact good_outOn K _ _ _ | exact good_out K _ _
  | fld off n ag x => exact good_bind (good_val x) fun v => good_bind (good_guard _) fun _ => good_bind (good_opt _) fun cs => good_bind (good_guard _) fun _ => good_outVal K _ _ _
  | iad z x i =>
    refine good_bind (good_val x) fun v => good_bind (good_guard _) fun _ => good_bind (good_scInt i) fun i => good_bind (good_guard _) fun _ => ?_
    split
    · exact good_ite (good_bind (good_opt _) fun _ => good_out K _ _) good_fail
    · refine good_ite (good_bind (good_guard _) fun _ => ?_) good_fail
      split <;> first | exact good_outOn K _ _ _ | skip
      refine good_bind (good_copy _) fun cs => ?_
      split
      · exact good_bind (good_opt _) fun _ => good_out K _ _
      · exact good_fail
    · exact good_fail
  | ixs x i =>
    refine good_bind (good_sc x) fun a => ?_
    cases a <;> first | exact good_fail | exact good_bind (good_scInt _) fun i => good_bind (good_guard _) fun _ => good_bind (good_opt _) fun _ => good_out K _ _
  | ext x i =>
    cases x with
    | c v => exact good_fail
    | t x =>
      refine good_get (fun v => ?_) fun n l => rfl
      cases v <;> first | exact good_fail | skip
      refine good_bind (good_opt _) fun (ag, cs) => good_ite (good_outVal K _ _ _) (good_put (good_outVal K _ _ _))
  | call f args => exact good_bind (good_argsP K _) fun (as, ls) => good_callP K _ _ _ _ _
  | callv x args =>
    cases x with
    | c v => exact good_fail
    | t x =>
      refine good_get (fun v => ?_) fun n l => rfl
      cases v <;> first | exact good_fail | skip
      exact good_bind (good_argsP K _) fun (as, ls) => good_bind (good_capsP K _) fun (cs, ms) => good_callP K _ _ _ _ _
  | len s x =>
    cases s with
    | false => exact good_bind (good_val x) fun v => good_bind (good_guard _) fun _ => good_bind (good_opt _) fun n => good_out K _ _
    | true =>
      refine good_bind (good_sc x) fun a => ?_
      cases a <;> first | exact good_fail | exact good_out K _ _
  | app z bytes x y keep =>
    refine good_bind (good_val x) fun v => good_bind (good_guard _) fun _ => ?_
    split
    · refine good_ite (good_bind (good_take K _) fun _ => good_bind (good_val y) fun u => good_bind (good_guard _) fun _ => good_bind (good_ite (good_take K _) (good_bind (good_copy _) fun _ => good_ret _)) fun cs => ?_) good_fail
      split
      · exact good_ite (good_out K _ _) good_fail
      · exact good_ite (good_out K _ _) good_fail
      · exact good_fail
    · exact good_fail
  | apps x y =>
    refine good_bind (good_val x) fun v => good_bind (good_guard _) fun _ => ?_
    split
    · refine good_bind (good_take K _) fun _ => good_bind (good_sc y) fun a => ?_
      cases a <;> first | exact good_fail | exact good_ite (good_out K _ _) good_fail
    · exact good_fail
  | mks z bytes zero n c => exact good_bind (good_scInt n) fun a => good_bind (good_scInt c) fun b => good_ite (good_out K _ _) good_fail
  | mm m x y =>
    refine good_bind (good_sc x) fun a => good_bind (good_sc y) fun b => ?_
    cases a <;> first | exact good_fail | skip
    cases b <;> first | exact good_fail | exact good_ite (good_out K _ _) good_fail
  | mkf f caps =>
    cases dst with
    | none => exact good_ret _
    | some d => exact good_mkf K d f caps
theorem good_oper (callf : Nat → List AV → Option CRes) (o : IOper) : Good (operP K callf o) := by
  unfold operP
  split
  · exact good_op K _ _ _
  · refine good_get (fun v => ?_) fun n l => rfl
    split
    · refine good_ite (good_op K _ _ _) ?_
      split
      · exact good_wr K _ _
      · exact good_ret _
    · exact good_fail
end
end Go.Pv
end

section
namespace Go.Pv
set_option linter.unusedVariables false
set_option linter.unusedSimpArgs false
def runOpsS (n : Nat) (K : Kills) (cf : Nat → List AV → Option CRes) : List IOper → Asc → Option Asc
  | [], l => some l
  | o :: os, l => ((operP K cf o).runS n l).bind fun r => runOpsS n K cf os r.2
def Pg.runL {α : Type} (n : Nat) : Pg α → Asc → Lg → Option (α × Asc × Lg)
  | .ret x, l, L => some (x, l, L)
  | .fail, _, _ => none
  | .get t k, l, L => (k (look l t)).runL n l (L.rd t (look l t))
  | .put t v k, l, L => if t < n then k.runL n (ins t v l) (L.wt t v) else none
  | .kill c ts k, l, L => k.runL n (killF c ts l) (L.ki c ts)
def runOpsL (n : Nat) (K : Kills) (cf : Nat → List AV → Option CRes) : List IOper → Asc → Option (Asc × List Lg)
  | [], l => some (l, [])
  | o :: os, l => ((operP K cf o).runL n l .emp).bind fun r => (runOpsL n K cf os r.2.1).bind fun q => some (q.1, r.2.2 :: q.2)
theorem runL_bind {α β : Type} {n : Nat} (p : Pg α) (f : α → Pg β) (l : Asc) (L : Lg) : (p.bind f).runL n l L = (p.runL n l L).bind fun q => (f q.1).runL n q.2.1 q.2.2 := by
  induction p generalizing l L with
  | ret x => rfl
  | fail => rfl
  | get t k ih => exact ih _ _ _
  | put t v k ih =>
    simp only [Pg.bind, Pg.runL]
    split
    · exact ih _ _
    · rfl
  | kill c ts k ih => exact ih _ _
theorem runL_runS {α : Type} {n : Nat} (p : Pg α) (l : Asc) (L : Lg) {x : α} {l' : Asc} {L' : Lg} (h : p.runL n l L = some (x, l', L')) : p.runS n l = some (x, l') ∧ p.logS n l L = L' := by
  induction p generalizing l L with
  | ret y =>
    simp only [Pg.runL, Option.some.injEq, Prod.mk.injEq] at h
    obtain ⟨rfl, rfl, rfl⟩ := h
    exact ⟨rfl, rfl⟩
  | fail => simp [Pg.runL] at h
  | get t k ih => exact ih _ _ _ h
  | put t v k ih =>
    simp only [Pg.runL] at h
    split at h
    · rename_i ht
      obtain ⟨a, b⟩ := ih _ _ h
      exact ⟨by simp only [Pg.runS, ht, if_true]; exact a, b⟩
    · simp at h
  | kill c ts k ih => exact ih _ _ h
section
variable {K : Kills} {cf : Nat → List AV → Option CRes} {n : Nat} {E : Env}
theorem ops_up : ∀ (os : List IOper) {l l' : Asc} {σ : List AV}, Up n l σ → runOpsS n K cf os l = some l' → ∃ σ', runOps K cf os σ = some σ' ∧ Up n l' σ'
  | [], l, l', σ, h, hr => by
    simp only [runOpsS, Option.some.injEq] at hr
    subst hr
    exact ⟨σ, rfl, h⟩
  | o :: os, l, l', σ, h, hr => by
    simp only [runOpsS] at hr
    obtain ⟨⟨u, l1⟩, h1, h2⟩ := Option.bind_eq_some_iff.1 hr
    obtain ⟨σ1, a1, a2, _⟩ := good_oper K cf o n l σ u l1 h h1
    obtain ⟨σ2, b1, b2⟩ := ops_up os a2 h2
    exact ⟨σ2, by simp only [runOps, a1, Option.bind_some, b1], b2⟩
theorem opsL_up : ∀ (os : List IOper) {l l' : Asc} {σ : List AV} {lg : List Lg}, Up n l σ → runOpsL n K cf os l = some (l', lg) → ∃ σ', runOps K cf os σ = some σ' ∧ Up n l' σ' ∧ logs K cf os σ = lg
  | [], l, l', σ, lg, h, hr => by
    simp only [runOpsL, Option.some.injEq, Prod.mk.injEq] at hr
    obtain ⟨rfl, rfl⟩ := hr
    exact ⟨σ, rfl, h, rfl⟩
  | o :: os, l, l', σ, lg, h, hr => by
    simp only [runOpsL] at hr
    obtain ⟨⟨u, l1, L1⟩, h1, h2⟩ := Option.bind_eq_some_iff.1 hr
    obtain ⟨⟨l2, lg2⟩, h3, h4⟩ := Option.bind_eq_some_iff.1 h2
    simp only [Option.some.injEq, Prod.mk.injEq] at h4
    obtain ⟨rfl, rfl⟩ := h4
    obtain ⟨c1, c2⟩ := runL_runS _ _ _ h1
    obtain ⟨σ1, a1, a2, a3⟩ := good_oper K cf o n l σ u l1 h c1
    obtain ⟨σ2, b1, b2, b3⟩ := opsL_up os a2 h3
    refine ⟨σ2, by simp only [runOps, a1, Option.bind_some, b1], b2, ?_⟩
    simp only [logs, a1, b3, a3, c2]
def WpS (E : Env) (n : Nat) (K : Kills) (c : IC) (l : Asc) (Q : Ex → Asc → Prop) : Prop := ∀ σ, Up n l σ → Wp E K c σ fun ex σ' => ∃ l', Up n l' σ' ∧ Q ex l'
def LpS (E : Env) (n : Nat) (K : Kills) (a : IC) (Q : Ex → Asc → Prop) (ex : Ex) (l : Asc) : Prop := ∀ σ, Up n l σ → Lp E K a (fun ex σ' => ∃ l', Up n l' σ' ∧ Q ex l') ex σ
def thenS (R : Asc → Prop) (Q : Ex → Asc → Prop) : Ex → Asc → Prop
  | .nor, l => R l
  | ex, l => Q ex l
def blockS (id : Nat) (Q : Ex → Asc → Prop) : Ex → Asc → Prop
  | .exit id', l => if id' = id then Q .nor l else Q (.exit id') l
  | ex, l => Q ex l
variable {Q Q' : Ex → Asc → Prop} {l l1 : Asc}
theorem WpS.mono {c : IC} (h : WpS E n K c l Q) (hq : ∀ ex l', Q ex l' → Q' ex l') : WpS E n K c l Q' := fun σ hu => (h σ hu).mono fun ex σ' ⟨l', h1, h2⟩ => ⟨l', h1, hq _ _ h2⟩
theorem WpS.keep (ks : List Nat) {c : IC} (h : WpS E n K c (keepS ks l) Q) : WpS E n K c l Q := fun σ hu => h σ (hu.keep ks)
theorem LpS.keep (ks : List Nat) {a : IC} {ex : Ex} (h : LpS E n K a Q ex (keepS ks l)) : LpS E n K a Q ex l := fun σ hu => h σ (hu.keep ks)
theorem wpS_skip (h : Q .nor l) : WpS E n K .skip l Q := fun σ hu => wpI_skip ⟨l, hu, h⟩
theorem wpS_label {i : Nat} (h : Q .nor l) : WpS E n K (.label i) l Q := fun σ hu => wpI_label ⟨l, hu, h⟩
theorem wpS_exit {i : Nat} (h : Q (.exit i) l) : WpS E n K (.exit i) l Q := fun σ hu => wpI_exit ⟨l, hu, h⟩
theorem wpS_goto {i : Nat} (h : Q (.goto i) l) : WpS E n K (.goto i) l Q := fun σ hu => wpI_goto ⟨l, hu, h⟩
theorem wpS_ret (h : Q .ret l) : WpS E n K .ret l Q := fun σ hu => wpI_ret ⟨l, hu, h⟩
theorem wpS_reg {os : List IOper} (h : runOpsS n K (ansOf E) os l = some l1) (hq : Q .nor l1) : WpS E n K (.reg os) l Q := fun σ hu => by
  obtain ⟨σ', h1, h2⟩ := ops_up os hu h
  exact wpI_reg h1 ⟨l1, h2, hq⟩
theorem wpS_regO (ks : List Nat) {os : List IOper} (h : runOpsS n K (ansOf E) os l = some l1) (hq : Q .nor (keepS ks l1)) : WpS E n K (.reg os) l Q := fun σ hu => by
  obtain ⟨σ', h1, h2⟩ := ops_up os hu h
  exact wpI_reg h1 ⟨_, h2.keep ks, hq⟩
theorem wpS_drawO (ks : List Nat) {bfs : List (List Nat)} {os : List IOper} {lg : List Lg} (h : runOpsL n K (ansOf E) os l = some (l1, lg)) (ha : apartAll bfs lg = true) (hq : Q .nor (keepS ks l1)) : WpS E n K (.draw bfs os) l Q := fun σ hu => by
  obtain ⟨σ', h1, h2, h3⟩ := opsL_up os hu h
  exact wpI_draw h1 (by rw [h3]; exact ha) ⟨_, h2.keep ks, hq⟩
theorem wpS_draw {bfs : List (List Nat)} {os : List IOper} {lg : List Lg} (h : runOpsL n K (ansOf E) os l = some (l1, lg)) (ha : apartAll bfs lg = true) (hq : Q .nor l1) : WpS E n K (.draw bfs os) l Q := fun σ hu => by
  obtain ⟨σ', h1, h2, h3⟩ := opsL_up os hu h
  exact wpI_draw h1 (by rw [h3]; exact ha) ⟨l1, h2, hq⟩
theorem wpS_seq {a b : IC} (h : WpS E n K a l (thenS (fun l1 => WpS E n K b l1 Q) Q)) : WpS E n K (.seq a b) l Q := fun σ hu => wpI_seq ((h σ hu).mono fun ex σ' ⟨l', h1, h2⟩ => by
  cases ex with
  | nor => exact h2 σ' h1
  | exit i => exact ⟨l', h1, h2⟩
  | goto i => exact ⟨l', h1, h2⟩
  | ret => exact ⟨l', h1, h2⟩)
theorem wpS_step (ks : List Nat) {os : List IOper} {b : IC} (h : runOpsS n K (ansOf E) os l = some l1) (hq : WpS E n K b (keepS ks l1) Q) : WpS E n K (.seq (.reg os) b) l Q := wpS_seq (wpS_reg h hq.keep)
theorem wpS_stepD (ks : List Nat) {bfs : List (List Nat)} {os : List IOper} {b : IC} {lg : List Lg} (h : runOpsL n K (ansOf E) os l = some (l1, lg)) (ha : apartAll bfs lg = true) (hq : WpS E n K b (keepS ks l1) Q) : WpS E n K (.seq (.draw bfs os) b) l Q := wpS_seq (wpS_draw h ha hq.keep)
theorem wpS_cond {x : Od} {a b : IC} {t : Bool} (hc : ((sc x).runS n l).map (·.1) = some (.bool t)) (h1 : t = true → WpS E n K a l Q) (h2 : t = false → WpS E n K b l Q) : WpS E n K (.cond x a b) l Q := fun σ hu => by
  obtain ⟨⟨v, l2⟩, h3, h4⟩ := Option.map_eq_some_iff.1 hc
  simp only at h4; subst h4
  obtain ⟨σ', a1, a2, _⟩ := good_sc x n l σ _ l2 hu h3
  exact wpI_cond a1 (fun e => h1 e σ hu) fun e => h2 e σ hu
theorem wpS_block {id : Nat} {a : IC} (h : WpS E n K a l (blockS id Q)) : WpS E n K (.block id a) l Q := fun σ hu => wpI_block ((h σ hu).mono fun ex σ' ⟨l', h1, h2⟩ => by
  cases ex with
  | exit i =>
    simp only [blockS, blockW] at h2 ⊢
    split at h2 <;> rename_i e
    · rw [if_pos e]; exact ⟨l', h1, h2⟩
    · rw [if_neg e]; exact ⟨l', h1, h2⟩
  | nor => exact ⟨l', h1, h2⟩
  | goto i => exact ⟨l', h1, h2⟩
  | ret => exact ⟨l', h1, h2⟩)
theorem wpS_loop {a : IC} (h : WpS E n K a l (thenS (fun l1 => WpS E n K (.loop a) l1 Q) Q)) : WpS E n K (.loop a) l Q := fun σ hu => wpI_loop ((h σ hu).mono fun ex σ' ⟨l', h1, h2⟩ => by
  cases ex with
  | nor => exact h2 σ' h1
  | exit i => exact ⟨l', h1, h2⟩
  | goto i => exact ⟨l', h1, h2⟩
  | ret => exact ⟨l', h1, h2⟩)
theorem wpS_scope {a : IC} (h : WpS E n K a l (LpS E n K a Q)) : WpS E n K (.scope a) l Q := fun σ hu => wpI_scope ((h σ hu).mono fun ex σ' ⟨l', h1, h2⟩ => h2 σ' h1)
theorem lpS_nor {a : IC} (h : Q .nor l) : LpS E n K a Q .nor l := fun σ hu => lp_nor ⟨l, hu, h⟩
theorem lpS_ret {a : IC} (h : Q .ret l) : LpS E n K a Q .ret l := fun σ hu => lp_ret ⟨l, hu, h⟩
theorem lpS_exit {a : IC} {i : Nat} (h : Q (.exit i) l) : LpS E n K a Q (.exit i) l := fun σ hu => lp_exit ⟨l, hu, h⟩
theorem lpS_goto {a rest : IC} {i : Nat} (hr : a.after i = some rest) (h : WpS E n K rest l (LpS E n K a Q)) : LpS E n K a Q (.goto i) l := fun σ hu => lp_goto hr ((h σ hu).mono fun ex σ' ⟨l', h1, h2⟩ => h2 σ' h1)
theorem good_resP : ∀ rs, Good (resP K rs)
  | [] => good_ret _
  | .tmp t :: r => good_bind (good_val _) fun v => good_bind (good_take K _) fun cs => good_bind (good_resP r) fun vs => good_ret _
  | .cell t m ag :: r => by
    unfold resP
    refine good_get (fun v => ?_) fun n l => rfl
    split
    · exact good_ite (good_bind (good_killMem K _) fun _ => good_put (good_bind (good_resP r) fun _ => good_ret _)) good_fail
    · exact good_fail
theorem good_backP (G : List Nat) : ∀ as j, Good (backP K G as j)
  | [], j => good_ret _
  | x :: r, j => by
    unfold backP
    split
    · exact good_ret _
    · rename_i e; obtain ⟨rfl, rfl⟩ := List.cons.inj e
      refine good_ite (good_get (fun v => ?_) fun n l => rfl) good_fail
      split
      · exact good_bind (good_killMem K _) fun _ => good_put (good_bind (good_backP G _ _) fun _ => good_ret _)
      · exact good_fail
    · rename_i e; obtain ⟨rfl, rfl⟩ := List.cons.inj e
      exact good_backP G _ _
def argsS : List AV → Nat → Asc
  | [], _ => []
  | a :: as, j => (j, a) :: argsS as (j + 1)
theorem argsS_sorted : ∀ (as : List AV) (j : Nat), sortedK j (argsS as j) = true
  | [], _ => rfl
  | a :: as, j => by simp [argsS, sortedK, argsS_sorted as (j + 1)]
theorem argsS_up : ∀ (as : List AV) (j m t : Nat), look (argsS as j) t = .u ∨ (j ≤ t ∧ look (argsS as j) t = (as ++ List.replicate m AV.u).getD (t - j) AV.u)
  | [], j, m, t => .inl rfl
  | a :: as, j, m, t => by
    simp only [argsS, look]
    split
    · rename_i e; subst e
      right; simp
    · rename_i e
      rcases argsS_up as (j + 1) m t with q | ⟨q1, q2⟩
      · exact .inl q
      · refine .inr ⟨by omega, ?_⟩
        rw [q2, show t - j = (t - (j + 1)) + 1 by omega]
        simp
def doneS (n : Nat) (i : IFn) (as : List AV) (l : Asc) : Option CRes :=
  ((resP i.kills i.res).runS n l).bind fun x => ((backP i.kills i.keeps as 0).runS n x.2).bind fun y => some (x.1, y.1)
theorem ans_S {f : Nat} {i : IFn} {as : List AV} {r : CRes} (hx : E.ext f = none) (hp : E.prog f = some i) (hn : as.length = i.np ∧ i.np ≤ i.nt)
    (h : WpS E i.nt i.kills i.body (argsS as 0) fun ex l => (ex = .nor ∨ ex = .ret) ∧ doneS i.nt i as l = some r) : ansOf E f as = some r := by
  refine ans_of_wp hx hp hn ((h _ ⟨by simp [hn.1]; omega, argsS_sorted as 0, fun t => ?_⟩).mono fun ex σ' ⟨l', h1, hex, h2⟩ => ⟨hex, ?_⟩)
  · rcases argsS_up as 0 (i.nt - i.np) t with q | ⟨_, q⟩
    · exact .inl q
    · right; simpa using q
  · unfold doneS at h2
    obtain ⟨⟨rs, l2⟩, a1, a2⟩ := Option.bind_eq_some_iff.1 h2
    obtain ⟨⟨bs, l3⟩, a3, a4⟩ := Option.bind_eq_some_iff.1 a2
    obtain ⟨σ2, b1, b2, _⟩ := good_resP i.res i.nt l' σ' rs l2 h1 a1
    obtain ⟨σ3, c1, c2, _⟩ := good_backP i.keeps as 0 i.nt l2 σ2 bs l3 b2 a3
    simp only [b1, Option.bind_some, c1]
    exact a4
end
attribute [irreducible] WpS LpS
end Go.Pv
end

section
namespace Go.Pv
set_option linter.unusedVariables false
set_option linter.unusedSimpArgs false
class Live (c : IC) where
  ks : List Nat
class LiveO (c : IC) where
  ko : List Nat
def runOpsK (n : Nat) (K : Kills) (cf : Nat → List AV → Option CRes) (ks : List Nat) : List IOper → Asc → Option Asc
  | [], l => some (keepS ks l)
  | o :: os, l => ((operP K cf o).runS n l).bind fun r => runOpsK n K cf ks os r.2
def runOpsD (n : Nat) (K : Kills) (cf : Nat → List AV → Option CRes) (ks : List Nat) : List IOper → Asc → List Lg → Option (Asc × List Lg)
  | [], l, lg => some (keepS ks l, lg.reverse)
  | o :: os, l, lg => ((operP K cf o).runL n l .emp).bind fun r => runOpsD n K cf ks os r.2.1 (r.2.2 :: lg)
section
variable {K : Kills} {cf : Nat → List AV → Option CRes} {n : Nat} {E : Env} {Q : Ex → Asc → Prop} {l l1 : Asc}
theorem runOpsK_eq (ks : List Nat) : ∀ (os : List IOper) (l : Asc), runOpsK n K cf ks os l = (runOpsS n K cf os l).map (keepS ks)
  | [], l => rfl
  | o :: os, l => by
    simp only [runOpsK, runOpsS, runOpsK_eq ks os]
    cases (operP K cf o).runS n l <;> rfl
theorem runOpsD_eq (ks : List Nat) : ∀ (os : List IOper) (l : Asc) (lg : List Lg), runOpsD n K cf ks os l lg = (runOpsL n K cf os l).map fun r => (keepS ks r.1, lg.reverse ++ r.2)
  | [], l, lg => by simp [runOpsD, runOpsL]
  | o :: os, l, lg => by
    simp only [runOpsD, runOpsL, runOpsD_eq ks os]
    cases (operP K cf o).runL n l .emp with
    | none => rfl
    | some r =>
      simp only [Option.bind_some]
      cases runOpsL n K cf os r.2.1 <;> simp
theorem wpS_stepK {os : List IOper} {b : IC} [hb : Live b] (h : runOpsK n K (ansOf E) hb.ks os l = some l1) (hq : WpS E n K b l1 Q) : WpS E n K (.seq (.reg os) b) l Q := by
  rw [runOpsK_eq] at h
  obtain ⟨l2, h1, rfl⟩ := Option.map_eq_some_iff.1 h
  exact wpS_step hb.ks h1 hq
theorem wpS_stepDK {bfs : List (List Nat)} {os : List IOper} {b : IC} {lg : List Lg} [hb : Live b] (h : runOpsD n K (ansOf E) hb.ks os l [] = some (l1, lg)) (ha : apartAll bfs lg = true) (hq : WpS E n K b l1 Q) : WpS E n K (.seq (.draw bfs os) b) l Q := by
  rw [runOpsD_eq] at h
  obtain ⟨⟨l2, lg2⟩, h1, h2⟩ := Option.map_eq_some_iff.1 h
  simp only [List.reverse_nil, List.nil_append, Prod.mk.injEq] at h2
  obtain ⟨rfl, rfl⟩ := h2
  exact wpS_stepD hb.ks h1 ha hq
theorem wpS_regK {os : List IOper} (h : runOpsS n K (ansOf E) os l = some l1) (hq : Q .nor l1) : WpS E n K (.reg os) l Q := wpS_reg h hq
theorem wpS_live {c : IC} [hc : Live c] (h : keepS hc.ks l = l1) (hq : WpS E n K c l1 Q) : WpS E n K c l Q := by subst h; exact hq.keep
end
end Go.Pv
end

section
namespace Go.Pv
set_option linter.unusedVariables false
set_option linter.unusedSimpArgs false
def obind {α β : Type} (x : Option α) (f : α → Option β) : Option β := x.bind f
@[congr] theorem obind_congr {α β : Type} {x x' : Option α} {f : α → Option β} (h : x = x') : obind x f = obind x' f := by rw [h]
theorem obind_some {α β : Type} (x : α) (f : α → Option β) : obind (some x) f = f x := rfl
theorem obind_none {α β : Type} (f : α → Option β) : obind none f = none := rfl
def ogo {β : Type} (v : AV) (f : AV → Option β) : Option β := f v
@[congr] theorem ogo_congr {β : Type} {v v' : AV} {f : AV → Option β} (h : v = v') : ogo v f = ogo v' f := by rw [h]
theorem ogo_u {β : Type} (f : AV → Option β) : ogo .u f = f .u := rfl
theorem ogo_w {β : Type} (c : OV) (f : AV → Option β) : ogo (.w c) f = f (.w c) := rfl
theorem ogo_a {β : Type} (c : List OV) (f : AV → Option β) : ogo (.a c) f = f (.a c) := rfl
theorem ogo_t {β : Type} (c : List (Bool × List OV)) (f : AV → Option β) : ogo (.t c) f = f (.t c) := rfl
theorem ogo_box {β : Type} (c : List OV) (f : AV → Option β) : ogo (.box c) f = f (.box c) := rfl
theorem ogo_ptr {β : Type} (c : Pl) (f : AV → Option β) : ogo (.ptr c) f = f (.ptr c) := rfl
theorem ogo_fp {β : Type} (c : List PV) (f : AV → Option β) : ogo (.fp c) f = f (.fp c) := rfl
theorem ogo_al {β : Type} (pl : Pl) (m : Nat) (ag : Bool) (f : AV → Option β) : ogo (.al pl m ag) f = f (.al pl m ag) := rfl
theorem ogo_sv {β : Type} (pl : Pl) (z lo hi : Nat) (f : AV → Option β) : ogo (.sv pl z lo hi) f = f (.sv pl z lo hi) := rfl
theorem ogo_clo {β : Type} (g : Nat) (caps : List AV) (f : AV → Option β) : ogo (.clo g caps) f = f (.clo g caps) := rfl
def oif {β : Type} (c : Bool) (x : Option β) : Option β := if c then x else none
@[congr] theorem oif_congr {β : Type} {c c' : Bool} {x : Option β} (h : c = c') : oif c x = oif c' x := by rw [h]
theorem oif_true {β : Type} (x : Option β) : oif true x = x := rfl
def ocond {β : Type} (c : Bool) (x y : Option β) : Option β := if c then x else y
@[congr] theorem ocond_congr {β : Type} {c c' : Bool} {x y : Option β} (h : c = c') : ocond c x y = ocond c' x y := by rw [h]
theorem ocond_true {β : Type} (x y : Option β) : ocond true x y = x := rfl
theorem ocond_false {β : Type} (x y : Option β) : ocond false x y = y := rfl
def ogcond {β : Type} (c : Bool) (x y : Option β) : Option β := if c then x else y
@[congr] theorem ogcond_congr {β : Type} {c c' : Bool} {x x' y y' : Option β} (h : c = c') (hx : c' = true → x = x') (hy : c' = false → y = y') : ogcond c x y = ogcond c' x' y' := by
  subst h
  cases c with
  | true => exact hx rfl
  | false => exact hy rfl
theorem ogcond_true {β : Type} (x y : Option β) : ogcond true x y = x := rfl
theorem ogcond_false {β : Type} (x y : Option β) : ogcond false x y = y := rfl
theorem obind_gcond {α β : Type} (c : Bool) (x y : Option α) (f : α → Option β) : obind (ogcond c x y) f = ogcond c (obind x f) (obind y f) := by cases c <;> rfl
def ochk {β : Type} (c : Prop) [Decidable c] (x : Option β) : Option β := if c then x else none
@[congr] theorem ochk_congr {β : Type} {c c' : Prop} {d : Decidable c} [d' : Decidable c'] {x : Option β} (h : c = c') : @ochk β c d x = @ochk β c' d' x := by subst h; rw [Subsingleton.elim d d']
theorem ochk_pos {β : Type} {c : Prop} {d : Decidable c} {x : Option β} (h : c) : @ochk β c d x = x := if_pos h
def oSc : Val → Option PV
  | ⟨false, [.p c], _⟩ => some c
  | _ => none
theorem oSc_eq (c : PV) (s : Src) : oSc ⟨false, [.p c], s⟩ = some c := rfl
def oInt : PV → Option Int
  | .int _ n => some n
  | _ => none
theorem oInt_eq (k : IntKind) (n : Int) : oInt (.int k n) = some n := rfl
def onOk (K : Kills) (h d : Nat) : Bool := (K.getD h []).contains d && d != h
theorem obind_eq {α β : Type} (x : Option α) (f : α → Option β) : x.bind f = obind x f := rfl
def oBox (m : Nat) : AV → Option (List OV)
  | .box cs => if cs.length = m then some cs else none
  | _ => none
theorem oBox_eq (m : Nat) (cs : List OV) : oBox m (.box cs) = if cs.length = m then some cs else none := rfl
def oBoxA : AV → Option (List OV)
  | .box cs => some cs
  | _ => none
theorem oBoxA_eq (cs : List OV) : oBoxA (.box cs) = some cs := rfl
theorem ob_congr {α β : Type} {x : Option α} {f g : α → Option β} (h : ∀ y, f y = g y) : obind x f = obind x g := by rw [show f = g from funext h]
theorem ob_assoc {α β γ : Type} (x : Option α) (f : α → Option β) (g : β → Option γ) : obind (obind x f) g = obind x fun y => obind (f y) g := by cases x <;> rfl
theorem oif_c {β : Type} {c : Bool} {x y : Option β} (h : x = y) : oif c x = oif c y := by rw [h]
theorem oif_b {α β : Type} (c : Bool) (x : Option α) (f : α → Option β) : obind (oif c x) f = oif c (obind x f) := by cases c <;> rfl
theorem ochk_c {β : Type} {c : Prop} [Decidable c] {x y : Option β} (h : x = y) : ochk c x = ochk c y := by rw [h]
theorem oif_dec {β : Type} (c : Prop) [Decidable c] (x : Option β) : oif (decide c) x = ochk c x := by unfold oif ochk; by_cases h : c <;> simp [h]
theorem ochk_beq {β : Type} (a b : Nat) (x : Option β) : ochk (a = b) x = oif (a == b) x := by unfold oif ochk; by_cases h : a = b <;> simp [h]
theorem gS {n : Nat} {l : Asc} (c : Bool) : Pg.runS n (Pg.guard c) l = oif c (some ((), l)) := by cases c <;> rfl
theorem gL {n : Nat} {l : Asc} {L : Lg} (c : Bool) : Pg.runL n (Pg.guard c) l L = oif c (some ((), l, L)) := by cases c <;> rfl
theorem oS {α : Type} {n : Nat} {l : Asc} (x : Option α) : Pg.runS n (Pg.opt x) l = obind x fun y => some (y, l) := by cases x <;> rfl
theorem oL {α : Type} {n : Nat} {l : Asc} {L : Lg} (x : Option α) : Pg.runL n (Pg.opt x) l L = obind x fun y => some (y, l, L) := by cases x <;> rfl
theorem iS {α : Type} {n : Nat} {l : Asc} (c : Prop) [Decidable c] (p : Pg α) : Pg.runS n (if c then p else .fail) l = ochk c (Pg.runS n p l) := by unfold ochk; split <;> rfl
theorem iL {α : Type} {n : Nat} {l : Asc} {L : Lg} (c : Prop) [Decidable c] (p : Pg α) : Pg.runL n (if c then p else .fail) l L = ochk c (Pg.runL n p l L) := by unfold ochk; split <;> rfl
theorem cS {α : Type} {n : Nat} {l : Asc} (c : Bool) (p q : Pg α) : Pg.runS n (if c then p else q) l = ocond c (Pg.runS n p l) (Pg.runS n q l) := by cases c <;> rfl
theorem cL {α : Type} {n : Nat} {l : Asc} {L : Lg} (c : Bool) (p q : Pg α) : Pg.runL n (if c then p else q) l L = ocond c (Pg.runL n p l L) (Pg.runL n q l L) := by cases c <;> rfl
def mkRep {α : Type} (n : Nat) (x : α) : List α := List.replicate n x
def copyS (s : Src) (cs : List OV) : Pg (List PV) :=
  match s with
  | .no => .ret (OV.frzs cs)
  | .at_ pl => (putPl pl (cs.map fun c => .p c.frz)).bind fun _ => .ret (OV.frzs cs)
  | .sub pl _ => (getPl pl 1).bind fun c => (Pg.guard (OV.wholes c)).bind fun _ => (putPl pl (c.map fun c => .p c.frz)).bind fun _ => .ret (OV.frzs cs)
def takeS (K : Kills) (s : Src) (cs : List OV) : Pg (List OV) :=
  match s with
  | .no => .ret cs
  | .at_ (.r d) => (wr K d .u).bind fun _ => .ret cs
  | .at_ pl => (putPl pl (cs.map fun _ => .hole)).bind fun _ => (killIf (AV.onEl pl.holder) (K.getD pl.holder [])).bind fun _ => .ret cs
  | .sub (.r d) _ => (wr K d .u).bind fun _ => .ret cs
  | .sub pl _ => (putPl pl [.hole]).bind fun _ => (killIf (AV.onEl pl.holder) (K.getD pl.holder [])).bind fun _ => .ret cs
def argW (K : Kills) (mv : Bool) (v : Val) : Pg (AV × Option Nat) := if mv then (take K v).bind fun cs => (Pg.opt (AV.mk v.ag cs)).bind fun x => .ret (x, none)
      else (copy v).bind fun cs => (Pg.opt (AV.mk v.ag (cs.map .p))).bind fun x => .ret (x, none)
def argV (K : Kills) (i : Nat) (mv : Bool) : AV → Pg (AV × Option Nat)
    | .box cs => (killMem K i).bind fun _ => .put i .u (.ret (.box cs, some i))
    | .ptr (.b d 0) => .get d fun | .box cs => (killMem K d).bind fun _ => .put d .u (.ret (.box cs, some d)) | _ => .fail
    | .fp cs => .ret (.fp cs, none)
    | .clo f caps => if caps.all (fun | .w c => c.plain | .a cs => plainAll cs | _ => false) then .ret (.clo f caps, none) else .fail
    | a => (valOf i a).bind (argW K mv)
def asgV (K : Kills) (dst : Option Nat) (i : Nat) (a : AV) : Pg Unit := (valOf i a).bind fun v => (take K v).bind (outVal K dst v.ag)
def loadV (K : Kills) (dst : Option Nat) (n : Nat) (ag : Bool) : Pl ⊕ List PV → Pg Unit
    | .inl pl => (getPl pl n).bind fun cs => if plainAll cs then outVal K dst ag cs else outOn K dst pl.holder (.al pl n ag)
    | .inr cs => (Pg.guard (decide (n ≤ cs.length))).bind fun _ => outVal K dst ag ((cs.take n).map .p)
def storeC (K : Kills) (pl : Pl) (keep : Bool) (v : Val) : Pg (List OV) :=
      match pl, keep with
       | .e _ _ _ _ _, false => (copy v).bind fun cs => .ret (cs.map OV.p)
       | _, _ => take K v
def storeV (K : Kills) (n : Nat) (y : Od) (keep : Bool) : Pl ⊕ List PV → Pg Unit
    | .inl pl => (val y).bind fun v => (Pg.guard (v.cs.length == n && OV.wholes v.cs)).bind fun _ => (storeC K pl keep v).bind fun cs => (putPl pl cs).bind fun _ => killMem K pl.holder
    | .inr _ => .fail
def slcV (K : Kills) (dst : Option Nat) (z : Nat) (cs : List OV) (s : Src) (l h : Nat) : Pg Unit := match cs with
    | [.p (.sl z' els)] => if z' = z then out K dst (.w (.p (.sl z ((els.take h).drop l)))) else .fail
    | [.own z' els] => if z' = z then match s with
      | .no => out K dst (.w (.own z ((els.take h).drop l)))
      | .at_ pl => outOn K dst pl.holder (.sv pl z l h)
      | .sub _ _ => .fail else .fail
    | _ => .fail
def fadV (K : Kills) (dst : Option Nat) (off : Nat) : Pl ⊕ List PV → Pg Unit
  | .inl pl => outOn K dst pl.holder (.ptr (pl.plus off))
  | .inr cs => out K dst (.fp (cs.drop off))
def iadV (K : Kills) (dst : Option Nat) (z : Nat) (v : Val) (i : Nat) : Pg Unit := match v.cs with
    | [.p (.sl z' els)] => if z' = z then (Pg.opt els[i]?).bind fun e => out K dst (.fp e) else .fail
    | [.own z' els] => if z' = z then (Pg.guard (decide (i < els.length))).bind fun _ => match v.src with
      | .at_ (.r d) => outOn K dst d (.ptr (.e d none z i 0))
      | .at_ (.b d off) => outOn K dst d (.ptr (.e d (some off) z i 0))
      | .sub (.r d) lo => outOn K dst d (.ptr (.e d none z (lo + i) 0))
      | .sub (.b d off) lo => outOn K dst d (.ptr (.e d (some off) z (lo + i) 0))
      | _ => (copy v).bind fun | [.sl _ els] => (Pg.opt els[i]?).bind fun e => out K dst (.fp e) | _ => .fail else .fail
    | _ => .fail
def extV (K : Kills) (dst : Option Nat) (x i : Nat) (vs : List (Bool × List OV)) : Pg Unit := (Pg.opt vs[i]?).bind fun (ag, cs) => if plainAll cs then outVal K dst ag cs
      else .put x (.t (vs.set i (ag, cs.map fun _ => .hole))) (outVal K dst ag cs)
def callvV (K : Kills) (cf : Nat → List AV → Option CRes) (dst : Option Nat) (f : Nat) (caps : List AV) (args : List (Od × Bool)) : Pg Unit := (argsP K args).bind fun (as, ls) => (capsP K caps).bind fun (cs, ms) => callP K cf dst f (as ++ cs) (ls ++ ms)
def appC (K : Kills) (keep : Bool) (u : Val) : Pg (List OV) := if keep then take K u else (copy u).bind fun cs => .ret (cs.map OV.p)
def skipP (K : Kills) (d : Option Nat) : Pg Unit := match d with | some d => wr K d .u | none => .ret ()
def oBool : PV → Option Bool
  | .bool b => some b
  | _ => none
theorem oBool_eq (b : Bool) : oBool (.bool b) = some b := rfl
def oStr : PV → Option (List UInt8)
  | .str s => some s
  | _ => none
theorem oStr_eq (s : List UInt8) : oStr (.str s) = some s := rfl
def oBit : AV → Option Bool
  | .w (.p (.bool b)) => some b
  | _ => none
theorem oBit_eq (b : Bool) : oBit (.w (.p (.bool b))) = some b := rfl
def oB2s : List OV → Option (List UInt8)
  | [.p (.sl 1 els)] => bytesOf els
  | [.own 1 els] => if OV.wholess els then bytesOf (OV.frzss els) else none
  | _ => none
theorem oB2s_p (els : List (List PV)) : oB2s [.p (.sl 1 els)] = bytesOf els := rfl
theorem oB2s_o (els : List (List OV)) : oB2s [.own 1 els] = if OV.wholess els then bytesOf (OV.frzss els) else none := rfl
def oOwn (z : Nat) : List OV → Option (List (List OV))
  | [.own z' els] => if z' == z then some els else none
  | _ => none
theorem oOwn_eq (z : Nat) (els : List (List OV)) : oOwn z [.own z els] = some els := by simp [oOwn]
def oEl (z : Nat) : List OV → Option (List (List OV))
  | [.p (.sl z' els)] => if z' == z then some (plains els) else none
  | [.own z' els] => if z' == z && OV.wholess els then some els else none
  | _ => none
theorem oEl_p (z : Nat) (els : List (List PV)) : oEl z [.p (.sl z els)] = some (plains els) := by simp [oEl]
theorem oEl_o (z : Nat) (els : List (List OV)) : oEl z [.own z els] = if OV.wholess els then some els else none := by simp [oEl]
def oEls : List PV → Option (List (List PV))
  | [.sl _ els] => some els
  | _ => none
theorem oEls_eq (z : Nat) (els : List (List PV)) : oEls [.sl z els] = some els := rfl
def mmPV (max : Bool) : PV → PV → Option PV
  | .int k a, .int k' b => if k = k' then some (.int k (if max then (if b > a then b else a) else (if b < a then b else a))) else none
  | _, _ => none
theorem mmPV_max (k : IntKind) (a b : Int) : mmPV true (.int k a) (.int k b) = some (.int k (if b > a then b else a)) := by simp [mmPV]
theorem mmPV_min (k : IntKind) (a b : Int) : mmPV false (.int k a) (.int k b) = some (.int k (if b < a then b else a)) := by simp [mmPV]
def capV (i : Nat) : AV → AV
  | .box _ => .ptr (.b i 0)
  | v => v
theorem plains_length (els : List (List PV)) : (plains els).length = els.length := by simp [plains]
theorem xS_bind {n : Nat} {l : Asc} {α β : Type} (p : Pg α) (f : α → Pg β) : (Pg.runS n (p.bind f) l) = obind ((Pg.runS n (p) l)) fun q => (Pg.runS n (f q.1) q.2) := by first | rfl | exact runS_bind .. | exact (runS_bind ..).trans rfl
theorem xS_ret {n : Nat} {l : Asc} {α : Type} (x : α) : (Pg.runS n (Pg.ret x) l) = some (x, l) := rfl
theorem xS_opt {n : Nat} {l : Asc} {α : Type} (x : α) : (Pg.runS n (Pg.opt (some x)) l) = some (x, l) := rfl
theorem xS_guard {n : Nat} {l : Asc}  : (Pg.runS n (Pg.guard true) l) = some ((), l) := rfl
theorem xS_get {n : Nat} {l : Asc} {α : Type} (t : Nat) (k : AV → Pg α) : (Pg.runS n (Pg.get t k) l) = ogo (look l t) fun v => (Pg.runS n (k v) l) := rfl
theorem xS_val_t {n : Nat} {l : Asc} (i : Nat) : (Pg.runS n (val (.t i)) l) = ogo (look l i) fun v => (Pg.runS n (valOf i v) l) := rfl
theorem xS_val_cw {n : Nat} {l : Asc} (c : OV) : (Pg.runS n (val (.c (.w c))) l) = some ((⟨false, [c], .no⟩ : Val), l) := rfl
theorem xS_val_ca {n : Nat} {l : Asc} (c : List OV) : (Pg.runS n (val (.c (.a c))) l) = some ((⟨true, c, .no⟩ : Val), l) := rfl
theorem xS_valOf_w {n : Nat} {l : Asc} (x : Nat) (c : OV) : (Pg.runS n (valOf x (.w c)) l) = some ((⟨false, [c], .at_ (.r x)⟩ : Val), l) := rfl
theorem xS_valOf_a {n : Nat} {l : Asc} (x : Nat) (c : List OV) : (Pg.runS n (valOf x (.a c)) l) = some ((⟨true, c, .at_ (.r x)⟩ : Val), l) := rfl
theorem xS_valOf_alr {n : Nat} {l : Asc} (x d m : Nat) (ag : Bool) : (Pg.runS n (valOf x (.al (.r d) m ag)) l) = ogo (look l d) fun v => (Pg.runS n (match v.cells with | some (ag', cs) => if ag' = ag then .ret ⟨ag, cs, .at_ (.r d)⟩ else .fail | none => .fail) l) := rfl
theorem xS_valOf_alb {n : Nat} {l : Asc} (x d o m : Nat) (ag : Bool) : (Pg.runS n (valOf x (.al (.b d o) m ag)) l) = obind ((Pg.runS n (getPl (.b d o) m) l)) fun q => some ((⟨ag, q.1, .at_ (.b d o)⟩ : Val), q.2) := by first | rfl | exact runS_bind .. | exact (runS_bind ..).trans rfl
theorem xS_valOf_ale {n : Nat} {l : Asc} (x d : Nat) (c : Option Nat) (z i o m : Nat) (ag : Bool) : (Pg.runS n (valOf x (.al (.e d c z i o) m ag)) l) = obind ((Pg.runS n (getPl (.e d c z i o) m) l)) fun q => some ((⟨ag, q.1, .at_ (.e d c z i o)⟩ : Val), q.2) := by first | rfl | exact runS_bind .. | exact (runS_bind ..).trans rfl
theorem xS_valOf_svr {n : Nat} {l : Asc} (x d z lo hi : Nat) : (Pg.runS n (valOf x (.sv (.r d) z lo hi)) l) = ogo (look l d) fun v => (Pg.runS n (match v with | .w c => (Pg.opt (subOf z lo hi [c])).bind fun cs' => .ret ⟨false, cs', .sub (.r d) lo⟩ | _ => .fail) l) := rfl
theorem xS_valOf_svb {n : Nat} {l : Asc} (x d o z lo hi : Nat) : (Pg.runS n (valOf x (.sv (.b d o) z lo hi)) l) = obind ((Pg.runS n (getPl (.b d o) 1) l)) fun q => obind (subOf z lo hi q.1) fun cs' => some ((⟨false, cs', .sub (.b d o) lo⟩ : Val), q.2) := by
  all_goals (try (simp only [valOf, xS_bind, xS_ret, gS, oS, ob_assoc, oif_b, obind_some]))
  repeat' (first | with_reducible rfl | (with_reducible refine ob_congr fun _ => ?_) | (with_reducible refine oif_c ?_) | (with_reducible refine ochk_c ?_) | (simp only [xS_bind, xS_ret, gS, oS, iS, ob_assoc, oif_b, obind_some]))
  all_goals first | rfl | skip
  all_goals (rfl)
theorem xS_valOf_sve {n : Nat} {l : Asc} (x d : Nat) (c : Option Nat) (y i o z lo hi : Nat) : (Pg.runS n (valOf x (.sv (.e d c y i o) z lo hi)) l) = obind ((Pg.runS n (getPl (.e d c y i o) 1) l)) fun q => obind (subOf z lo hi q.1) fun cs' => some ((⟨false, cs', .sub (.e d c y i o) lo⟩ : Val), q.2) := by
  all_goals (try (simp only [valOf, xS_bind, xS_ret, gS, oS, ob_assoc, oif_b, obind_some]))
  repeat' (first | with_reducible rfl | (with_reducible refine ob_congr fun _ => ?_) | (with_reducible refine oif_c ?_) | (with_reducible refine ochk_c ?_) | (simp only [xS_bind, xS_ret, gS, oS, iS, ob_assoc, oif_b, obind_some]))
  all_goals first | rfl | skip
  all_goals (rfl)
theorem xS_getPl_r {n : Nat} {l : Asc} (d m : Nat) : (Pg.runS n (getPl (.r d) m) l) = ogo (look l d) fun v => (Pg.runS n (Pg.opt (getIn v (.r d) m)) l) := rfl
theorem xS_getPl_b {n : Nat} {l : Asc} (d o m : Nat) : (Pg.runS n (getPl (.b d o) m) l) = ogo (look l d) fun v => (Pg.runS n (Pg.opt (getIn v (.b d o) m)) l) := rfl
theorem xS_getPl_e {n : Nat} {l : Asc} (d : Nat) (c : Option Nat) (z i o m : Nat) : (Pg.runS n (getPl (.e d c z i o) m) l) = ogo (look l d) fun v => (Pg.runS n (Pg.opt (getIn v (.e d c z i o) m)) l) := rfl
theorem xS_putPl_r {n : Nat} {l : Asc} (d : Nat) (cs : List OV) : (Pg.runS n (putPl (.r d) cs) l) = ogo (look l d) fun v => obind (putIn v (.r d) cs) fun v' => (Pg.runS n (Pg.put d v' (.ret ())) l) := by
  exact (xS_bind (Pg.opt (putIn (look l d) _ cs)) (fun v' => Pg.put d v' (.ret ()))).trans (by rw [oS, ob_assoc]; rfl)
theorem xS_putPl_b {n : Nat} {l : Asc} (d o : Nat) (cs : List OV) : (Pg.runS n (putPl (.b d o) cs) l) = ogo (look l d) fun v => obind (putIn v (.b d o) cs) fun v' => (Pg.runS n (Pg.put d v' (.ret ())) l) := by
  exact (xS_bind (Pg.opt (putIn (look l d) _ cs)) (fun v' => Pg.put d v' (.ret ()))).trans (by rw [oS, ob_assoc]; rfl)
theorem xS_putPl_e {n : Nat} {l : Asc} (d : Nat) (c : Option Nat) (z i o : Nat) (cs : List OV) : (Pg.runS n (putPl (.e d c z i o) cs) l) = ogo (look l d) fun v => obind (putIn v (.e d c z i o) cs) fun v' => (Pg.runS n (Pg.put d v' (.ret ())) l) := by
  exact (xS_bind (Pg.opt (putIn (look l d) _ cs)) (fun v' => Pg.put d v' (.ret ()))).trans (by rw [oS, ob_assoc]; rfl)
theorem xS_put {n : Nat} {l : Asc} {α : Type} (t : Nat) (v : AV) (k : Pg α) : (Pg.runS n (Pg.put t v k) l) = oif (decide (t < n)) ((Pg.runS n (k) (ins t v l))) := by
  exact (oif_dec (_ < n) _).symm
theorem xS_killIf {n : Nat} {l : Asc} (c : AV → Bool) (ts : List Nat) : (Pg.runS n (killIf c ts) l) = some ((), killF (c) ts l) := rfl
theorem xS_killMem {n : Nat} {l : Asc} (K : Kills) (d : Nat) : (Pg.runS n (killMem K d) l) = some ((), killF (AV.onMem d) (K.getD d []) l) := rfl
theorem xS_wr {n : Nat} {l : Asc} (K : Kills) (d : Nat) (v : AV) : (Pg.runS n (wr K d v) l) = oif (decide (d < n)) (some ((), ins d v (killF (AV.on d) (K.getD d []) l))) := by
  exact (oif_dec (_ < n) _).symm
theorem xS_copy {n : Nat} {l : Asc} (ag : Bool) (cs : List OV) (s : Src) : (Pg.runS n (copy ⟨ag, cs, s⟩) l) = ocond (plainAll cs) (some (OV.frzs cs, l)) (oif (OV.wholes cs) ((Pg.runS n (copyS s cs) l))) := by
  exact (cS ..).trans (congrArg (ocond _ _) (cS ..))
theorem xS_copyS_no {n : Nat} {l : Asc} (cs : List OV) : (Pg.runS n (copyS .no cs) l) = some (OV.frzs cs, l) := rfl
theorem xS_copyS_at {n : Nat} {l : Asc} (pl : Pl) (cs : List OV) : (Pg.runS n (copyS (.at_ pl) cs) l) = obind ((Pg.runS n (putPl pl (cs.map fun c => .p c.frz)) l)) fun q => some (OV.frzs cs, q.2) := by first | rfl | exact runS_bind .. | exact (runS_bind ..).trans rfl
theorem xS_copyS_sub {n : Nat} {l : Asc} (pl : Pl) (lo : Nat) (cs : List OV) : (Pg.runS n (copyS (.sub pl lo) cs) l) = obind ((Pg.runS n (getPl pl 1) l)) fun q => oif (OV.wholes q.1) ((Pg.runS n ((putPl pl (q.1.map fun c => .p c.frz)).bind fun _ => .ret (OV.frzs cs)) q.2)) := by
  all_goals (try (simp only [copyS, xS_bind, xS_ret, gS, oS, ob_assoc, oif_b, obind_some]))
  repeat' (first | with_reducible rfl | (with_reducible refine ob_congr fun _ => ?_) | (with_reducible refine oif_c ?_) | (with_reducible refine ochk_c ?_) | (simp only [xS_bind, xS_ret, gS, oS, iS, ob_assoc, oif_b, obind_some]))
  all_goals first | rfl | skip
  all_goals (rfl)
theorem xS_take {n : Nat} {l : Asc} (K : Kills) (ag : Bool) (cs : List OV) (s : Src) : (Pg.runS n (take K ⟨ag, cs, s⟩) l) = ocond (plainAll cs) (some (cs, l)) ((Pg.runS n (takeS K s cs) l)) := by
  exact cS ..
theorem xS_takeS_no {n : Nat} {l : Asc} (K : Kills) (cs : List OV) : (Pg.runS n (takeS K .no cs) l) = some (cs, l) := rfl
theorem xS_takeS_atr {n : Nat} {l : Asc} (K : Kills) (d : Nat) (cs : List OV) : (Pg.runS n (takeS K (.at_ (.r d)) cs) l) = obind ((Pg.runS n (wr K d .u) l)) fun q => some (cs, q.2) := by first | rfl | exact runS_bind .. | exact (runS_bind ..).trans rfl
theorem xS_takeS_atb {n : Nat} {l : Asc} (K : Kills) (d o : Nat) (cs : List OV) : (Pg.runS n (takeS K (.at_ (.b d o)) cs) l) = obind ((Pg.runS n (putPl (.b d o) (cs.map fun _ => .hole)) l)) fun q => obind ((Pg.runS n (killIf (AV.onEl d) (K.getD d [])) q.2)) fun q => some (cs, q.2) := by
  all_goals (try (simp only [takeS, xS_bind, xS_ret, gS, oS, ob_assoc, oif_b, obind_some]))
  repeat' (first | with_reducible rfl | (with_reducible refine ob_congr fun _ => ?_) | (with_reducible refine oif_c ?_) | (with_reducible refine ochk_c ?_) | (simp only [xS_bind, xS_ret, gS, oS, iS, ob_assoc, oif_b, obind_some]))
  all_goals first | rfl | skip
  all_goals (rfl)
theorem xS_takeS_ate {n : Nat} {l : Asc} (K : Kills) (d : Nat) (c : Option Nat) (z i o : Nat) (cs : List OV) : (Pg.runS n (takeS K (.at_ (.e d c z i o)) cs) l) = obind ((Pg.runS n (putPl (.e d c z i o) (cs.map fun _ => .hole)) l)) fun q => obind ((Pg.runS n (killIf (AV.onEl d) (K.getD d [])) q.2)) fun q => some (cs, q.2) := by
  all_goals (try (simp only [takeS, xS_bind, xS_ret, gS, oS, ob_assoc, oif_b, obind_some]))
  repeat' (first | with_reducible rfl | (with_reducible refine ob_congr fun _ => ?_) | (with_reducible refine oif_c ?_) | (with_reducible refine ochk_c ?_) | (simp only [xS_bind, xS_ret, gS, oS, iS, ob_assoc, oif_b, obind_some]))
  all_goals first | rfl | skip
  all_goals (rfl)
theorem xS_takeS_subr {n : Nat} {l : Asc} (K : Kills) (d lo : Nat) (cs : List OV) : (Pg.runS n (takeS K (.sub (.r d) lo) cs) l) = obind ((Pg.runS n (wr K d .u) l)) fun q => some (cs, q.2) := by first | rfl | exact runS_bind .. | exact (runS_bind ..).trans rfl
theorem xS_takeS_subb {n : Nat} {l : Asc} (K : Kills) (d o lo : Nat) (cs : List OV) : (Pg.runS n (takeS K (.sub (.b d o) lo) cs) l) = obind ((Pg.runS n (putPl (.b d o) [.hole]) l)) fun q => obind ((Pg.runS n (killIf (AV.onEl d) (K.getD d [])) q.2)) fun q => some (cs, q.2) := by
  all_goals (try (simp only [takeS, xS_bind, xS_ret, gS, oS, ob_assoc, oif_b, obind_some]))
  repeat' (first | with_reducible rfl | (with_reducible refine ob_congr fun _ => ?_) | (with_reducible refine oif_c ?_) | (with_reducible refine ochk_c ?_) | (simp only [xS_bind, xS_ret, gS, oS, iS, ob_assoc, oif_b, obind_some]))
  all_goals first | rfl | skip
  all_goals (rfl)
theorem xS_out_some {n : Nat} {l : Asc} (K : Kills) (d : Nat) (v : AV) : (Pg.runS n (out K (some d) v) l) = (Pg.runS n (wr K d v) l) := rfl
theorem xS_out_none {n : Nat} {l : Asc} (K : Kills) (v : AV) : (Pg.runS n (out K none v) l) = some ((), l) := rfl
theorem xS_outOn_none {n : Nat} {l : Asc} (K : Kills) (h : Nat) (v : AV) : (Pg.runS n (outOn K none h v) l) = some ((), l) := rfl
theorem xS_outOn_some {n : Nat} {l : Asc} (K : Kills) (h d : Nat) (v : AV) (hc : onOk K h d = true) : (Pg.runS n (outOn K (some d) h v) l) = (Pg.runS n (wr K d v) l) := by
  all_goals (try (simp only [outOn, xS_bind, xS_ret, gS, oS, ob_assoc, oif_b, obind_some]))
  repeat' (first | with_reducible rfl | (with_reducible refine ob_congr fun _ => ?_) | (with_reducible refine oif_c ?_) | (with_reducible refine ochk_c ?_) | (simp only [xS_bind, xS_ret, gS, oS, iS, ob_assoc, oif_b, obind_some]))
  all_goals first | rfl | skip
  all_goals (exact ochk_pos hc)
theorem xS_outVal_w {n : Nat} {l : Asc} (K : Kills) (dst : Option Nat) (c : OV) : (Pg.runS n (outVal K dst false [c]) l) = (Pg.runS n (out K dst (.w c)) l) := rfl
theorem xS_outVal_a {n : Nat} {l : Asc} (K : Kills) (dst : Option Nat) (cs : List OV) : (Pg.runS n (outVal K dst true cs) l) = (Pg.runS n (out K dst (.a cs)) l) := rfl
theorem xS_sc {n : Nat} {l : Asc} (x : Od) : (Pg.runS n (sc x) l) = obind ((Pg.runS n (val x) l)) fun q => obind (oSc q.1) fun c => some (c, q.2) := by
  all_goals (try (simp only [sc, xS_bind, xS_ret, gS, oS, ob_assoc, oif_b, obind_some]))
  repeat' (first | with_reducible rfl | (with_reducible refine ob_congr fun _ => ?_) | (with_reducible refine oif_c ?_) | (with_reducible refine ochk_c ?_) | (simp only [xS_bind, xS_ret, gS, oS, iS, ob_assoc, oif_b, obind_some]))
  all_goals first | rfl | skip
  all_goals (rename_i y; rcases y with ⟨⟨ag, cs, s⟩, z⟩; cases ag <;> first | rfl | (rcases cs with _ | ⟨c, _ | ⟨c', cs⟩⟩ <;> first | rfl | (cases c <;> rfl)))
theorem xS_scInt {n : Nat} {l : Asc} (x : Od) : (Pg.runS n (scInt x) l) = obind ((Pg.runS n (sc x) l)) fun q => obind (oInt q.1) fun c => some (c, q.2) := by
  all_goals (try (simp only [scInt, xS_bind, xS_ret, gS, oS, ob_assoc, oif_b, obind_some]))
  repeat' (first | with_reducible rfl | (with_reducible refine ob_congr fun _ => ?_) | (with_reducible refine oif_c ?_) | (with_reducible refine ochk_c ?_) | (simp only [xS_bind, xS_ret, gS, oS, iS, ob_assoc, oif_b, obind_some]))
  all_goals first | rfl | skip
  all_goals (rename_i y; rcases y with ⟨y, z⟩; cases y <;> rfl)
theorem xS_movPtr_box {n : Nat} {l : Asc} (K : Kills) (dst : Option Nat) (i : Nat) (els : Pg Unit) (cs : List OV) : (Pg.runS n (movPtr K dst i els (.box cs)) l) = (Pg.runS n (outOn K dst i (.ptr (.b i 0))) l) := rfl
theorem xS_movPtr_ptr {n : Nat} {l : Asc} (K : Kills) (dst : Option Nat) (i : Nat) (els : Pg Unit) (pl : Pl) : (Pg.runS n (movPtr K dst i els (.ptr pl)) l) = (Pg.runS n (outOn K dst pl.holder (.ptr pl)) l) := rfl
theorem xS_movPtr_fp {n : Nat} {l : Asc} (K : Kills) (dst : Option Nat) (i : Nat) (els : Pg Unit) (cs : List PV) : (Pg.runS n (movPtr K dst i els (.fp cs)) l) = (Pg.runS n (out K dst (.fp cs)) l) := rfl
theorem xS_movPtr_clo {n : Nat} {l : Asc} (K : Kills) (d i : Nat) (els : Pg Unit) (g : Nat) (caps : List AV) : (Pg.runS n (movPtr K (some d) i els (.clo g caps)) l) = oif (capsOn K d caps) ((Pg.runS n (wr K d (.clo g caps)) l)) := by
  all_goals (try (simp only [movPtr, xS_bind, xS_ret, gS, oS, ob_assoc, oif_b, obind_some]))
  repeat' (first | with_reducible rfl | (with_reducible refine ob_congr fun _ => ?_) | (with_reducible refine oif_c ?_) | (with_reducible refine ochk_c ?_) | (simp only [xS_bind, xS_ret, gS, oS, iS, ob_assoc, oif_b, obind_some]))
  all_goals first | rfl | skip
  all_goals (rfl)
theorem xS_movPtr_w {n : Nat} {l : Asc} (K : Kills) (dst : Option Nat) (i : Nat) (els : Pg Unit) (c : OV) : (Pg.runS n (movPtr K dst i els (.w c)) l) = (Pg.runS n (els) l) := rfl
theorem xS_movPtr_a {n : Nat} {l : Asc} (K : Kills) (dst : Option Nat) (i : Nat) (els : Pg Unit) (c : List OV) : (Pg.runS n (movPtr K dst i els (.a c)) l) = (Pg.runS n (els) l) := rfl
theorem xS_movPtr_al {n : Nat} {l : Asc} (K : Kills) (dst : Option Nat) (i : Nat) (els : Pg Unit) (pl : Pl) (m : Nat) (ag : Bool) : (Pg.runS n (movPtr K dst i els (.al pl m ag)) l) = (Pg.runS n (els) l) := rfl
theorem xS_movPtr_sv {n : Nat} {l : Asc} (K : Kills) (dst : Option Nat) (i : Nat) (els : Pg Unit) (pl : Pl) (z lo hi : Nat) : (Pg.runS n (movPtr K dst i els (.sv pl z lo hi)) l) = (Pg.runS n (els) l) := rfl
theorem xS_movVal_w {n : Nat} {l : Asc} (K : Kills) (dst : Option Nat) (i : Nat) (c : OV) : (Pg.runS n (movVal K dst i (.w c)) l) = ocond c.plain ((Pg.runS n (out K dst (.w c)) l)) ((Pg.runS n (outOn K dst i (.al (.r i) 1 false)) l)) := by
  all_goals (try (simp only [movVal, xS_bind, xS_ret, gS, oS, ob_assoc, oif_b, obind_some]))
  repeat' (first | with_reducible rfl | (with_reducible refine ob_congr fun _ => ?_) | (with_reducible refine oif_c ?_) | (with_reducible refine ochk_c ?_) | (simp only [xS_bind, xS_ret, gS, oS, iS, ob_assoc, oif_b, obind_some]))
  all_goals first | rfl | skip
  all_goals (exact cS ..)
theorem xS_movVal_a {n : Nat} {l : Asc} (K : Kills) (dst : Option Nat) (i : Nat) (c : List OV) : (Pg.runS n (movVal K dst i (.a c)) l) = ocond (plainAll c) ((Pg.runS n (out K dst (.a c)) l)) ((Pg.runS n (outOn K dst i (.al (.r i) c.length true)) l)) := by
  all_goals (try (simp only [movVal, xS_bind, xS_ret, gS, oS, ob_assoc, oif_b, obind_some]))
  repeat' (first | with_reducible rfl | (with_reducible refine ob_congr fun _ => ?_) | (with_reducible refine oif_c ?_) | (with_reducible refine ochk_c ?_) | (simp only [xS_bind, xS_ret, gS, oS, iS, ob_assoc, oif_b, obind_some]))
  all_goals first | rfl | skip
  all_goals (exact cS ..)
theorem xS_movVal_al {n : Nat} {l : Asc} (K : Kills) (dst : Option Nat) (i : Nat) (pl : Pl) (m : Nat) (ag : Bool) : (Pg.runS n (movVal K dst i (.al pl m ag)) l) = (Pg.runS n (outOn K dst pl.holder (.al pl m ag)) l) := rfl
theorem xS_movVal_t {n : Nat} {l : Asc} (K : Kills) (dst : Option Nat) (i : Nat) (vs : List (Bool × List OV)) : (Pg.runS n (movVal K dst i (.t vs)) l) = obind ((Pg.runS n (wr K i .u) l)) fun q => (Pg.runS n (out K dst (.t vs)) q.2) := by first | rfl | exact runS_bind .. | exact (runS_bind ..).trans rfl
theorem xS_movPtr_t {n : Nat} {l : Asc} (K : Kills) (dst : Option Nat) (i : Nat) (els : Pg Unit) (vs : List (Bool × List OV)) : (Pg.runS n (movPtr K dst i els (.t vs)) l) = (Pg.runS n (els) l) := rfl
theorem xS_movVal_sv {n : Nat} {l : Asc} (K : Kills) (dst : Option Nat) (i : Nat) (pl : Pl) (z lo hi : Nat) : (Pg.runS n (movVal K dst i (.sv pl z lo hi)) l) = (Pg.runS n (outOn K dst pl.holder (.sv pl z lo hi)) l) := rfl
theorem xS_adr {n : Nat} {l : Asc} (i : Nat) : (Pg.runS n (adr (.t i)) l) = ogo (look l i) fun v => (Pg.runS n (match v with | .box _ => .ret (.inl (.b i 0)) | .ptr pl => .ret (.inl pl) | .fp cs => .ret (.inr cs) | _ => .fail) l) := rfl
theorem xS_build_nil {n : Nat} {l : Asc} (K : Kills) (cs : List OV) : (Pg.runS n (buildP K cs []) l) = some (cs, l) := rfl
theorem xS_build_cons {n : Nat} {l : Asc} (K : Kills) (cs : List OV) (off m : Nat) (x : Od) (ps : List (Nat × Nat × Od)) : (Pg.runS n (buildP K cs ((off, m, x) :: ps)) l) = obind ((Pg.runS n (val x) l)) fun q => oif (q.1.cs.length == m && OV.wholes q.1.cs) (obind ((Pg.runS n (take K q.1) q.2)) fun q => obind (cellsPut cs off q.1) fun cs' => (Pg.runS n (buildP K cs' ps) q.2)) := by
  all_goals (try (simp only [buildP, xS_bind, xS_ret, gS, oS, ob_assoc, oif_b, obind_some]))
  repeat' (first | with_reducible rfl | (with_reducible refine ob_congr fun _ => ?_) | (with_reducible refine oif_c ?_) | (with_reducible refine ochk_c ?_) | (simp only [xS_bind, xS_ret, gS, oS, iS, ob_assoc, oif_b, obind_some]))
  all_goals first | rfl | skip
  all_goals (rfl)
theorem xS_bslice_nil {n : Nat} {l : Asc} (K : Kills) (z : Nat) (els : List (List OV)) : (Pg.runS n (bsliceP K z els []) l) = some (els, l) := rfl
theorem xS_bslice_cons {n : Nat} {l : Asc} (K : Kills) (z : Nat) (els : List (List OV)) (i : Nat) (x : Od) (ps : List (Nat × Od)) : (Pg.runS n (bsliceP K z els ((i, x) :: ps)) l) = obind ((Pg.runS n (val x) l)) fun q => oif (q.1.cs.length == z && decide (i < els.length) && OV.wholes q.1.cs) (obind ((Pg.runS n (take K q.1) q.2)) fun q => (Pg.runS n (bsliceP K z (els.set i q.1) ps) q.2)) := by
  all_goals (try (simp only [bsliceP, xS_bind, xS_ret, gS, oS, ob_assoc, oif_b, obind_some]))
  repeat' (first | with_reducible rfl | (with_reducible refine ob_congr fun _ => ?_) | (with_reducible refine oif_c ?_) | (with_reducible refine ochk_c ?_) | (simp only [xS_bind, xS_ret, gS, oS, iS, ob_assoc, oif_b, obind_some]))
  all_goals first | rfl | skip
  all_goals (rfl)
theorem xS_ends_nn {n : Nat} {l : Asc} (len : Nat) : (Pg.runS n (ends len none none) l) = some ((0, len), l) := by
  all_goals (try (simp only [ends, xS_bind, xS_ret, gS, oS, ob_assoc, oif_b, obind_some]))
  repeat' (first | with_reducible rfl | (with_reducible refine ob_congr fun _ => ?_) | (with_reducible refine oif_c ?_) | (with_reducible refine ochk_c ?_) | (simp only [xS_bind, xS_ret, gS, oS, iS, ob_assoc, oif_b, obind_some]))
  all_goals first | rfl | skip
  all_goals (simp [ochk])
theorem xS_ends_sn {n : Nat} {l : Asc} (len : Nat) (x : Od) : (Pg.runS n (ends len (some x) none) l) = obind ((Pg.runS n (scInt x) l)) fun q => ochk (0 ≤ q.1 ∧ q.1 ≤ (len : Int)) (some ((q.1.toNat, len), q.2)) := by
  all_goals (try (simp only [ends, xS_bind, xS_ret, gS, oS, ob_assoc, oif_b, obind_some]))
  repeat' (first | with_reducible rfl | (with_reducible refine ob_congr fun _ => ?_) | (with_reducible refine oif_c ?_) | (with_reducible refine ochk_c ?_) | (simp only [xS_bind, xS_ret, gS, oS, iS, ob_assoc, oif_b, obind_some]))
  all_goals first | rfl | skip
  all_goals (simp [ochk])
theorem xS_ends_ns {n : Nat} {l : Asc} (len : Nat) (y : Od) : (Pg.runS n (ends len none (some y)) l) = obind ((Pg.runS n (scInt y) l)) fun q => ochk (0 ≤ q.1 ∧ q.1 ≤ (len : Int)) (some ((0, q.1.toNat), q.2)) := by
  all_goals (try (simp only [ends, xS_bind, xS_ret, gS, oS, ob_assoc, oif_b, obind_some]))
  repeat' (first | with_reducible rfl | (with_reducible refine ob_congr fun _ => ?_) | (with_reducible refine oif_c ?_) | (with_reducible refine ochk_c ?_) | (simp only [xS_bind, xS_ret, gS, oS, iS, ob_assoc, oif_b, obind_some]))
  all_goals first | rfl | skip
  all_goals (simp [ochk])
theorem xS_ends_ss {n : Nat} {l : Asc} (len : Nat) (x y : Od) : (Pg.runS n (ends len (some x) (some y)) l) = obind ((Pg.runS n (scInt x) l)) fun p => obind ((Pg.runS n (scInt y) p.2)) fun q => ochk (0 ≤ p.1 ∧ p.1 ≤ q.1 ∧ q.1 ≤ (len : Int)) (some ((p.1.toNat, q.1.toNat), q.2)) := by
  all_goals (try (simp only [ends, xS_bind, xS_ret, gS, oS, ob_assoc, oif_b, obind_some]))
  repeat' (first | with_reducible rfl | (with_reducible refine ob_congr fun _ => ?_) | (with_reducible refine oif_c ?_) | (with_reducible refine ochk_c ?_) | (simp only [xS_bind, xS_ret, gS, oS, iS, ob_assoc, oif_b, obind_some]))
  all_goals first | rfl | skip
  all_goals (simp [ochk])
theorem xS_argP_cw {n : Nat} {l : Asc} (K : Kills) (c : OV) (mv : Bool) : (Pg.runS n (argP K (.c (.w c), mv)) l) = some ((AV.w c, (none : Option Nat)), l) := rfl
theorem xS_argP_ca {n : Nat} {l : Asc} (K : Kills) (c : List OV) (mv : Bool) : (Pg.runS n (argP K (.c (.a c), mv)) l) = some ((AV.a c, (none : Option Nat)), l) := rfl
theorem xS_argP_clo {n : Nat} {l : Asc} (K : Kills) (g : Nat) (mv : Bool) : (Pg.runS n (argP K (.c (.clo g []), mv)) l) = some ((AV.clo g [], (none : Option Nat)), l) := rfl
theorem xS_argP_t {n : Nat} {l : Asc} (K : Kills) (i : Nat) (mv : Bool) : (Pg.runS n (argP K (.t i, mv)) l) = ogo (look l i) fun v => (Pg.runS n (argV K i mv v) l) := by
  simp only [argP, Pg.runS, ogo]; generalize look l i = v; cases v <;> rfl
theorem xS_argV_box {n : Nat} {l : Asc} (K : Kills) (i : Nat) (mv : Bool) (cs : List OV) : (Pg.runS n (argV K i mv (.box cs)) l) = obind ((Pg.runS n (killMem K i) l)) fun q => (Pg.runS n (Pg.put i .u (.ret (AV.box cs, some i))) q.2) := by first | rfl | exact runS_bind .. | exact (runS_bind ..).trans rfl
theorem xS_argV_ptr {n : Nat} {l : Asc} (K : Kills) (i d : Nat) (mv : Bool) : (Pg.runS n (argV K i mv (.ptr (.b d 0))) l) = ogo (look l d) fun v => (Pg.runS n (match v with | .box cs => (killMem K d).bind fun _ => .put d .u (.ret (.box cs, some d)) | _ => .fail) l) := rfl
theorem xS_argV_fp {n : Nat} {l : Asc} (K : Kills) (i : Nat) (mv : Bool) (cs : List PV) : (Pg.runS n (argV K i mv (.fp cs)) l) = some ((AV.fp cs, (none : Option Nat)), l) := rfl
theorem xS_argV_clo {n : Nat} {l : Asc} (K : Kills) (i g : Nat) (mv : Bool) (caps : List AV) : (Pg.runS n (argV K i mv (.clo g caps)) l) = oif (caps.all (fun | .w c => c.plain | .a cs => plainAll cs | _ => false)) (some ((AV.clo g caps, (none : Option Nat)), l)) := by
  all_goals (try (simp only [argV, xS_bind, xS_ret, gS, oS, ob_assoc, oif_b, obind_some]))
  repeat' (first | with_reducible rfl | (with_reducible refine ob_congr fun _ => ?_) | (with_reducible refine oif_c ?_) | (with_reducible refine ochk_c ?_) | (simp only [xS_bind, xS_ret, gS, oS, iS, ob_assoc, oif_b, obind_some]))
  all_goals first | rfl | skip
  all_goals (rfl)
theorem xS_argV_w {n : Nat} {l : Asc} (K : Kills) (i : Nat) (mv : Bool) (c : OV) : (Pg.runS n (argV K i mv (.w c)) l) = obind ((Pg.runS n (valOf i (.w c)) l)) fun q => (Pg.runS n (argW K mv q.1) q.2) := by first | rfl | exact runS_bind .. | exact (runS_bind ..).trans rfl
theorem xS_argV_a {n : Nat} {l : Asc} (K : Kills) (i : Nat) (mv : Bool) (c : List OV) : (Pg.runS n (argV K i mv (.a c)) l) = obind ((Pg.runS n (valOf i (.a c)) l)) fun q => (Pg.runS n (argW K mv q.1) q.2) := by first | rfl | exact runS_bind .. | exact (runS_bind ..).trans rfl
theorem xS_argV_al {n : Nat} {l : Asc} (K : Kills) (i : Nat) (mv : Bool) (pl : Pl) (m : Nat) (ag : Bool) : (Pg.runS n (argV K i mv (.al pl m ag)) l) = obind ((Pg.runS n (valOf i (.al pl m ag)) l)) fun q => (Pg.runS n (argW K mv q.1) q.2) := by first | rfl | exact runS_bind .. | exact (runS_bind ..).trans rfl
theorem xS_argV_sv {n : Nat} {l : Asc} (K : Kills) (i : Nat) (mv : Bool) (pl : Pl) (z lo hi : Nat) : (Pg.runS n (argV K i mv (.sv pl z lo hi)) l) = obind ((Pg.runS n (valOf i (.sv pl z lo hi)) l)) fun q => (Pg.runS n (argW K mv q.1) q.2) := by first | rfl | exact runS_bind .. | exact (runS_bind ..).trans rfl
theorem xS_argW_m {n : Nat} {l : Asc} (K : Kills) (x : Val) : (Pg.runS n (argW K true x) l) = obind ((Pg.runS n (take K x) l)) fun q => obind (AV.mk x.ag q.1) fun y => some ((y, (none : Option Nat)), q.2) := by
  exact (xS_bind ..).trans (ob_congr fun q => (xS_bind ..).trans (by rw [oS, ob_assoc]; rfl))
theorem xS_argW_c {n : Nat} {l : Asc} (K : Kills) (x : Val) : (Pg.runS n (argW K false x) l) = obind ((Pg.runS n (copy x) l)) fun q => obind (AV.mk x.ag (q.1.map .p)) fun y => some ((y, (none : Option Nat)), q.2) := by
  exact (xS_bind ..).trans (ob_congr fun q => (xS_bind ..).trans (by rw [oS, ob_assoc]; rfl))
theorem xS_args_nil {n : Nat} {l : Asc} (K : Kills) : (Pg.runS n (argsP K []) l) = some ((([] : List AV), ([] : List Nat)), l) := rfl
theorem xS_args_cons {n : Nat} {l : Asc} (K : Kills) (x : Od × Bool) (xs : List (Od × Bool)) : (Pg.runS n (argsP K (x :: xs)) l) = obind ((Pg.runS n (argP K x) l)) fun p => obind ((Pg.runS n (argsP K xs) p.2)) fun q => some ((p.1.1 :: q.1.1, p.1.2.toList ++ q.1.2), q.2) := by
  all_goals (try (simp only [argsP, xS_bind, xS_ret, gS, oS, ob_assoc, oif_b, obind_some]))
  repeat' (first | with_reducible rfl | (with_reducible refine ob_congr fun _ => ?_) | (with_reducible refine oif_c ?_) | (with_reducible refine ochk_c ?_) | (simp only [xS_bind, xS_ret, gS, oS, iS, ob_assoc, oif_b, obind_some]))
  all_goals first | rfl | skip
  all_goals (rfl)
theorem xS_caps_nil {n : Nat} {l : Asc} (K : Kills) : (Pg.runS n (capsP K []) l) = some ((([] : List AV), ([] : List Nat)), l) := rfl
theorem xS_caps_ptr {n : Nat} {l : Asc} (K : Kills) (d : Nat) (xs : List AV) : (Pg.runS n (capsP K (.ptr (.b d 0) :: xs)) l) = ogo (look l d) fun v => (Pg.runS n (match v with | .box cs => (killMem K d).bind fun _ => .put d .u ((capsP K xs).bind fun (as, ls) => .ret (.box cs :: as, d :: ls)) | _ => .fail) l) := rfl
theorem xS_caps_w {n : Nat} {l : Asc} (K : Kills) (c : OV) (xs : List AV) : (Pg.runS n (capsP K (.w c :: xs)) l) = oif c.plain (obind ((Pg.runS n (capsP K xs) l)) fun q => some ((AV.w c :: q.1.1, q.1.2), q.2)) := by
  all_goals (try (simp only [capsP, xS_bind, xS_ret, gS, oS, ob_assoc, oif_b, obind_some]))
  repeat' (first | with_reducible rfl | (with_reducible refine ob_congr fun _ => ?_) | (with_reducible refine oif_c ?_) | (with_reducible refine ochk_c ?_) | (simp only [xS_bind, xS_ret, gS, oS, iS, ob_assoc, oif_b, obind_some]))
  all_goals first | rfl | skip
  all_goals (rfl)
theorem xS_caps_a {n : Nat} {l : Asc} (K : Kills) (c : List OV) (xs : List AV) : (Pg.runS n (capsP K (.a c :: xs)) l) = oif (plainAll c) (obind ((Pg.runS n (capsP K xs) l)) fun q => some ((AV.a c :: q.1.1, q.1.2), q.2)) := by
  all_goals (try (simp only [capsP, xS_bind, xS_ret, gS, oS, ob_assoc, oif_b, obind_some]))
  repeat' (first | with_reducible rfl | (with_reducible refine ob_congr fun _ => ?_) | (with_reducible refine oif_c ?_) | (with_reducible refine ochk_c ?_) | (simp only [xS_bind, xS_ret, gS, oS, iS, ob_assoc, oif_b, obind_some]))
  all_goals first | rfl | skip
  all_goals (rfl)
theorem xS_give_nil {n : Nat} {l : Asc} (K : Kills) : (Pg.runS n (giveBack K [] []) l) = some ((), l) := rfl
theorem xS_give_cons {n : Nat} {l : Asc} (K : Kills) (d : Nat) (ds : List Nat) (cs : List OV) (css : List (List OV)) : (Pg.runS n (giveBack K (d :: ds) (cs :: css)) l) = (Pg.runS n (Pg.put d (.box cs) ((killMem K d).bind fun _ => giveBack K ds css)) l) := rfl
theorem xS_outRes_1 {n : Nat} {l : Asc} (K : Kills) (dst : Option Nat) (ag : Bool) (cs : List OV) : (Pg.runS n (outRes K dst [(ag, cs)]) l) = (Pg.runS n (outVal K dst ag cs) l) := rfl
theorem xS_outRes_0 {n : Nat} {l : Asc} (K : Kills) (dst : Option Nat) : (Pg.runS n (outRes K dst []) l) = (Pg.runS n (out K dst (.t [])) l) := rfl
theorem xS_outRes_2 {n : Nat} {l : Asc} (K : Kills) (dst : Option Nat) (x y : Bool × List OV) (vs : List (Bool × List OV)) : (Pg.runS n (outRes K dst (x :: y :: vs)) l) = (Pg.runS n (out K dst (.t (x :: y :: vs))) l) := rfl
theorem xS_callP {n : Nat} {l : Asc} (K : Kills) (cf : Nat → List AV → Option CRes) (dst : Option Nat) (f : Nat) (as : List AV) (ls : List Nat) : (Pg.runS n (callP K cf dst f as ls) l) = obind (cf f as) fun p => obind ((Pg.runS n (giveBack K ls p.2) l)) fun q => (Pg.runS n (outRes K dst p.1) q.2) := by
  all_goals (try (simp only [callP, xS_bind, xS_ret, gS, oS, ob_assoc, oif_b, obind_some]))
  repeat' (first | with_reducible rfl | (with_reducible refine ob_congr fun _ => ?_) | (with_reducible refine oif_c ?_) | (with_reducible refine ochk_c ?_) | (simp only [xS_bind, xS_ret, gS, oS, iS, ob_assoc, oif_b, obind_some]))
  all_goals first | rfl | skip
  all_goals (rfl)
theorem xS_op_mov_c {n : Nat} {l : Asc} (K : Kills) (cf : Nat → List AV → Option CRes) (dst : Option Nat) (v : AV) : (Pg.runS n (opP K cf dst (.mov (.c v))) l) = (Pg.runS n (out K dst v) l) := rfl
theorem xS_op_mov_t {n : Nat} {l : Asc} (K : Kills) (cf : Nat → List AV → Option CRes) (dst : Option Nat) (i : Nat) : (Pg.runS n (opP K cf dst (.mov (.t i))) l) = ogo (look l i) fun v => (Pg.runS n (movPtr K dst i (movVal K dst i v) v) l) := rfl
theorem xS_op_asg_c {n : Nat} {l : Asc} (K : Kills) (cf : Nat → List AV → Option CRes) (dst : Option Nat) (v : AV) : (Pg.runS n (opP K cf dst (.asg (.c v))) l) = (Pg.runS n (out K dst v) l) := rfl
theorem xS_op_asg_t {n : Nat} {l : Asc} (K : Kills) (cf : Nat → List AV → Option CRes) (dst : Option Nat) (i : Nat) : (Pg.runS n (opP K cf dst (.asg (.t i))) l) = ogo (look l i) fun v => (Pg.runS n (movPtr K dst i (asgV K dst i v) v) l) := by
  all_goals (try (simp only [opP, xS_bind, xS_ret, gS, oS, ob_assoc, oif_b, obind_some]))
  repeat' (first | with_reducible rfl | (with_reducible refine ob_congr fun _ => ?_) | (with_reducible refine oif_c ?_) | (with_reducible refine ochk_c ?_) | (simp only [xS_bind, xS_ret, gS, oS, iS, ob_assoc, oif_b, obind_some]))
  all_goals first | rfl | skip
  all_goals (rfl)
theorem xS_asgV {n : Nat} {l : Asc} (K : Kills) (dst : Option Nat) (i : Nat) (a : AV) : (Pg.runS n (asgV K dst i a) l) = obind ((Pg.runS n (valOf i a) l)) fun p => obind ((Pg.runS n (take K p.1) p.2)) fun q => (Pg.runS n (outVal K dst p.1.ag q.1) q.2) := by
  all_goals (try (simp only [asgV, xS_bind, xS_ret, gS, oS, ob_assoc, oif_b, obind_some]))
  repeat' (first | with_reducible rfl | (with_reducible refine ob_congr fun _ => ?_) | (with_reducible refine oif_c ?_) | (with_reducible refine ochk_c ?_) | (simp only [xS_bind, xS_ret, gS, oS, iS, ob_assoc, oif_b, obind_some]))
  all_goals first | rfl | skip
  all_goals (rfl)
theorem xS_op_pick {n : Nat} {l : Asc} (K : Kills) (cf : Nat → List AV → Option CRes) (dst : Option Nat) (c a b : Od) : (Pg.runS n (opP K cf dst (.pick c a b)) l) = obind ((Pg.runS n (sc c) l)) fun q => obind (oBool q.1) fun t => obind ((Pg.runS n (sc (if t then a else b)) q.2)) fun q => (Pg.runS n (out K dst (.w (.p q.1))) q.2) := by
  all_goals (try (simp only [opP, xS_bind, xS_ret, gS, oS, ob_assoc, oif_b, obind_some]))
  repeat' (first | with_reducible rfl | (with_reducible refine ob_congr fun _ => ?_) | (with_reducible refine oif_c ?_) | (with_reducible refine ochk_c ?_) | (simp only [xS_bind, xS_ret, gS, oS, iS, ob_assoc, oif_b, obind_some]))
  all_goals first | rfl | skip
  all_goals (rename_i y; rcases y with ⟨y, z⟩; cases y <;> first | rfl | exact xS_bind ..)
theorem xS_op_alloc {n : Nat} {l : Asc} (K : Kills) (cf : Nat → List AV → Option CRes) (dst : Option Nat) (z : List OV) : (Pg.runS n (opP K cf dst (.alloc z)) l) = (Pg.runS n (out K dst (.box z)) l) := rfl
theorem xS_op_box {n : Nat} {l : Asc} (K : Kills) (cf : Nat → List AV → Option CRes) (dst : Option Nat) (x : Od) : (Pg.runS n (opP K cf dst (.box x)) l) = obind ((Pg.runS n (val x) l)) fun p => oif (OV.wholes p.1.cs) (obind ((Pg.runS n (take K p.1) p.2)) fun q => (Pg.runS n (out K dst (.box q.1)) q.2)) := by
  all_goals (try (simp only [opP, xS_bind, xS_ret, gS, oS, ob_assoc, oif_b, obind_some]))
  repeat' (first | with_reducible rfl | (with_reducible refine ob_congr fun _ => ?_) | (with_reducible refine oif_c ?_) | (with_reducible refine ochk_c ?_) | (simp only [xS_bind, xS_ret, gS, oS, iS, ob_assoc, oif_b, obind_some]))
  all_goals first | rfl | skip
  all_goals (rfl)
theorem xS_op_build {n : Nat} {l : Asc} (K : Kills) (cf : Nat → List AV → Option CRes) (dst : Option Nat) (z : List OV) (ps : List (Nat × Nat × Od)) : (Pg.runS n (opP K cf dst (.build z ps)) l) = obind ((Pg.runS n (buildP K z ps) l)) fun q => (Pg.runS n (out K dst (.a q.1)) q.2) := by first | rfl | exact runS_bind .. | exact (runS_bind ..).trans rfl
theorem xS_op_bslice {n : Nat} {l : Asc} (K : Kills) (cf : Nat → List AV → Option CRes) (dst : Option Nat) (z : Nat) (ze : List OV) (m : Nat) (ps : List (Nat × Od)) : (Pg.runS n (opP K cf dst (.bslice z ze m ps)) l) = obind ((Pg.runS n (bsliceP K z (List.replicate m ze) ps) l)) fun q => (Pg.runS n (out K dst (.w (.own z q.1))) q.2) := by first | rfl | exact runS_bind .. | exact (runS_bind ..).trans rfl
theorem xS_op_load {n : Nat} {l : Asc} (K : Kills) (cf : Nat → List AV → Option CRes) (dst : Option Nat) (m : Nat) (ag : Bool) (x : Od) : (Pg.runS n (opP K cf dst (.load m ag x)) l) = obind ((Pg.runS n (adr x) l)) fun q => (Pg.runS n (loadV K dst m ag q.1) q.2) := by
  all_goals (try (simp only [opP, xS_bind, xS_ret, gS, oS, ob_assoc, oif_b, obind_some]))
  repeat' (first | with_reducible rfl | (with_reducible refine ob_congr fun _ => ?_) | (with_reducible refine oif_c ?_) | (with_reducible refine ochk_c ?_) | (simp only [xS_bind, xS_ret, gS, oS, iS, ob_assoc, oif_b, obind_some]))
  all_goals first | rfl | skip
  all_goals (rename_i y; rcases y with ⟨y, z⟩; cases y <;> rfl)
theorem xS_loadV_l {n : Nat} {l : Asc} (K : Kills) (dst : Option Nat) (m : Nat) (ag : Bool) (pl : Pl) : (Pg.runS n (loadV K dst m ag (.inl pl)) l) = obind ((Pg.runS n (getPl pl m) l)) fun q => ocond (plainAll q.1) ((Pg.runS n (outVal K dst ag q.1) q.2)) ((Pg.runS n (outOn K dst pl.holder (.al pl m ag)) q.2)) := by
  all_goals (try (simp only [loadV, xS_bind, xS_ret, gS, oS, ob_assoc, oif_b, obind_some]))
  repeat' (first | with_reducible rfl | (with_reducible refine ob_congr fun _ => ?_) | (with_reducible refine oif_c ?_) | (with_reducible refine ochk_c ?_) | (simp only [xS_bind, xS_ret, gS, oS, iS, ob_assoc, oif_b, obind_some]))
  all_goals first | rfl | skip
  all_goals (exact cS ..)
theorem xS_loadV_r {n : Nat} {l : Asc} (K : Kills) (dst : Option Nat) (m : Nat) (ag : Bool) (cs : List PV) : (Pg.runS n (loadV K dst m ag (.inr cs)) l) = oif (decide (m ≤ cs.length)) ((Pg.runS n (outVal K dst ag ((cs.take m).map .p)) l)) := by
  all_goals (try (simp only [loadV, xS_bind, xS_ret, gS, oS, ob_assoc, oif_b, obind_some]))
  repeat' (first | with_reducible rfl | (with_reducible refine ob_congr fun _ => ?_) | (with_reducible refine oif_c ?_) | (with_reducible refine ochk_c ?_) | (simp only [xS_bind, xS_ret, gS, oS, iS, ob_assoc, oif_b, obind_some]))
  all_goals first | rfl | skip
  all_goals (rfl)
theorem xS_op_store {n : Nat} {l : Asc} (K : Kills) (cf : Nat → List AV → Option CRes) (dst : Option Nat) (m : Nat) (x v : Od) (keep : Bool) : (Pg.runS n (opP K cf dst (.store m x v keep)) l) = obind ((Pg.runS n (adr x) l)) fun q => (Pg.runS n (storeV K m v keep q.1) q.2) := by
  all_goals (try (simp only [opP, xS_bind, xS_ret, gS, oS, ob_assoc, oif_b, obind_some]))
  repeat' (first | with_reducible rfl | (with_reducible refine ob_congr fun _ => ?_) | (with_reducible refine oif_c ?_) | (with_reducible refine ochk_c ?_) | (simp only [xS_bind, xS_ret, gS, oS, iS, ob_assoc, oif_b, obind_some]))
  all_goals first | rfl | skip
  all_goals (rename_i y; rcases y with ⟨y, z⟩; cases y <;> rfl)
theorem xS_storeV_l {n : Nat} {l : Asc} (K : Kills) (m : Nat) (y : Od) (keep : Bool) (pl : Pl) : (Pg.runS n (storeV K m y keep (.inl pl)) l) = obind ((Pg.runS n (val y) l)) fun p => oif (p.1.cs.length == m && OV.wholes p.1.cs) (obind ((Pg.runS n (storeC K pl keep p.1) p.2)) fun q => obind ((Pg.runS n (putPl pl q.1) q.2)) fun q => (Pg.runS n (killMem K pl.holder) q.2)) := by
  all_goals (try (simp only [storeV, xS_bind, xS_ret, gS, oS, ob_assoc, oif_b, obind_some]))
  repeat' (first | with_reducible rfl | (with_reducible refine ob_congr fun _ => ?_) | (with_reducible refine oif_c ?_) | (with_reducible refine ochk_c ?_) | (simp only [xS_bind, xS_ret, gS, oS, iS, ob_assoc, oif_b, obind_some]))
  all_goals first | rfl | skip
  all_goals (rfl)
theorem xS_storeC_e {n : Nat} {l : Asc} (K : Kills) (d : Nat) (c : Option Nat) (z i o : Nat) (x : Val) : (Pg.runS n (storeC K (.e d c z i o) false x) l) = obind ((Pg.runS n (copy x) l)) fun q => some (q.1.map OV.p, q.2) := by first | rfl | exact runS_bind .. | exact (runS_bind ..).trans rfl
theorem xS_storeC_k {n : Nat} {l : Asc} (K : Kills) (pl : Pl) (x : Val) : (Pg.runS n (storeC K pl true x) l) = (Pg.runS n (take K x) l) := by
  all_goals (try (simp only [storeC, xS_bind, xS_ret, gS, oS, ob_assoc, oif_b, obind_some]))
  repeat' (first | with_reducible rfl | (with_reducible refine ob_congr fun _ => ?_) | (with_reducible refine oif_c ?_) | (with_reducible refine ochk_c ?_) | (simp only [xS_bind, xS_ret, gS, oS, iS, ob_assoc, oif_b, obind_some]))
  all_goals first | rfl | skip
  all_goals (rfl)
theorem xS_storeC_b {n : Nat} {l : Asc} (K : Kills) (d o : Nat) (keep : Bool) (x : Val) : (Pg.runS n (storeC K (.b d o) keep x) l) = (Pg.runS n (take K x) l) := rfl
theorem xS_storeC_r {n : Nat} {l : Asc} (K : Kills) (d : Nat) (keep : Bool) (x : Val) : (Pg.runS n (storeC K (.r d) keep x) l) = (Pg.runS n (take K x) l) := rfl
theorem xS_op_nilchk {n : Nat} {l : Asc} (K : Kills) (cf : Nat → List AV → Option CRes) (dst : Option Nat) (i : Nat) : (Pg.runS n (opP K cf dst (.nilchk (.t i))) l) = ogo (look l i) fun v => (Pg.runS n (movPtr K dst i .fail v) l) := rfl
theorem xS_op_bin {n : Nat} {l : Asc} (K : Kills) (cf : Nat → List AV → Option CRes) (dst : Option Nat) (o : BinOp) (x y : Od) : (Pg.runS n (opP K cf dst (.bin o x y)) l) = obind ((Pg.runS n (sc x) l)) fun p => obind ((Pg.runS n (sc y) p.2)) fun q => obind (binPV o p.1 q.1) fun c => (Pg.runS n (out K dst (.w (.p c))) q.2) := by
  all_goals (try (simp only [opP, xS_bind, xS_ret, gS, oS, ob_assoc, oif_b, obind_some]))
  repeat' (first | with_reducible rfl | (with_reducible refine ob_congr fun _ => ?_) | (with_reducible refine oif_c ?_) | (with_reducible refine ochk_c ?_) | (simp only [xS_bind, xS_ret, gS, oS, iS, ob_assoc, oif_b, obind_some]))
  all_goals first | rfl | skip
  all_goals (rfl)
theorem xS_op_eqs {n : Nat} {l : Asc} (K : Kills) (cf : Nat → List AV → Option CRes) (dst : Option Nat) (neg : Bool) (x y : Od) : (Pg.runS n (opP K cf dst (.eqs neg x y)) l) = obind ((Pg.runS n (val x) l)) fun p => obind ((Pg.runS n (val y) p.2)) fun q => oif (p.1.ag && q.1.ag && plainAll p.1.cs && plainAll q.1.cs) (obind (cellsEq (OV.frzs p.1.cs) (OV.frzs q.1.cs)) fun r => (Pg.runS n (out K dst (.w (.p (.bool (if neg then !r else r))))) q.2)) := by
  all_goals (try (simp only [opP, xS_bind, xS_ret, gS, oS, ob_assoc, oif_b, obind_some]))
  repeat' (first | with_reducible rfl | (with_reducible refine ob_congr fun _ => ?_) | (with_reducible refine oif_c ?_) | (with_reducible refine ochk_c ?_) | (simp only [xS_bind, xS_ret, gS, oS, iS, ob_assoc, oif_b, obind_some]))
  all_goals first | rfl | skip
  all_goals (rfl)
theorem xS_op_beq {n : Nat} {l : Asc} (K : Kills) (cf : Nat → List AV → Option CRes) (dst : Option Nat) (neg : Bool) (x y : Od) : (Pg.runS n (opP K cf dst (.beq neg x y)) l) = obind ((Pg.runS n (sc x) l)) fun p => obind (oBool p.1) fun a => obind ((Pg.runS n (sc y) p.2)) fun q => obind (oBool q.1) fun b => (Pg.runS n (out K dst (.w (.p (.bool (if neg then !(a == b) else a == b))))) q.2) := by
  all_goals (try (simp only [opP, xS_bind, xS_ret, gS, oS, ob_assoc, oif_b, obind_some]))
  repeat' (first | with_reducible rfl | (with_reducible refine ob_congr fun _ => ?_) | (with_reducible refine oif_c ?_) | (with_reducible refine ochk_c ?_) | (simp only [xS_bind, xS_ret, gS, oS, iS, ob_assoc, oif_b, obind_some]))
  all_goals first | rfl | skip
  all_goals (rename_i y; rcases y with ⟨y, z⟩; cases y <;> first | rfl | (refine (xS_bind ..).trans (ob_congr fun ⟨y, z⟩ => ?_); cases y <;> rfl))
theorem xS_op_un {n : Nat} {l : Asc} (K : Kills) (cf : Nat → List AV → Option CRes) (dst : Option Nat) (o : UnOp) (x : Od) : (Pg.runS n (opP K cf dst (.un o x)) l) = obind ((Pg.runS n (sc x) l)) fun q => obind (unPV o q.1) fun c => (Pg.runS n (out K dst (.w (.p c))) q.2) := by
  all_goals (try (simp only [opP, xS_bind, xS_ret, gS, oS, ob_assoc, oif_b, obind_some]))
  repeat' (first | with_reducible rfl | (with_reducible refine ob_congr fun _ => ?_) | (with_reducible refine oif_c ?_) | (with_reducible refine ochk_c ?_) | (simp only [xS_bind, xS_ret, gS, oS, iS, ob_assoc, oif_b, obind_some]))
  all_goals first | rfl | skip
  all_goals (rfl)
theorem xS_op_cvi {n : Nat} {l : Asc} (K : Kills) (cf : Nat → List AV → Option CRes) (dst : Option Nat) (k : IntKind) (x : Od) : (Pg.runS n (opP K cf dst (.cvi k x)) l) = obind ((Pg.runS n (scInt x) l)) fun q => (Pg.runS n (out K dst (.w (.p (.int k (k.wrap q.1))))) q.2) := by first | rfl | exact runS_bind .. | exact (runS_bind ..).trans rfl
theorem xS_op_b2s {n : Nat} {l : Asc} (K : Kills) (cf : Nat → List AV → Option CRes) (dst : Option Nat) (x : Od) : (Pg.runS n (opP K cf dst (.b2s x)) l) = obind ((Pg.runS n (val x) l)) fun q => oif (!q.1.ag) (obind (oB2s q.1.cs) fun s => (Pg.runS n (out K dst (.w (.p (.str s)))) q.2)) := by
  all_goals (try (simp only [opP, xS_bind, xS_ret, gS, oS, ob_assoc, oif_b, obind_some]))
  repeat' (first | with_reducible rfl | (with_reducible refine ob_congr fun _ => ?_) | (with_reducible refine oif_c ?_) | (with_reducible refine ochk_c ?_) | (simp only [xS_bind, xS_ret, gS, oS, iS, ob_assoc, oif_b, obind_some]))
  all_goals first | rfl | skip
  all_goals (rename_i y; rcases y with ⟨⟨ag, cs, s⟩, z⟩; dsimp only; unfold oB2s; split <;> split <;> simp_all [xS_bind, oS, gS, ob_assoc, oif_b, obind_some, oif, obind, Pg.runS] <;> (try (split <;> simp_all)) <;> (try (generalize bytesOf _ = o; cases o <;> rfl)))
theorem xS_op_s2b {n : Nat} {l : Asc} (K : Kills) (cf : Nat → List AV → Option CRes) (dst : Option Nat) (x : Od) : (Pg.runS n (opP K cf dst (.s2b x)) l) = obind ((Pg.runS n (sc x) l)) fun q => obind (oStr q.1) fun s => (Pg.runS n (out K dst (.w (.own 1 (plains (ofBytes s))))) q.2) := by
  all_goals (try (simp only [opP, xS_bind, xS_ret, gS, oS, ob_assoc, oif_b, obind_some]))
  repeat' (first | with_reducible rfl | (with_reducible refine ob_congr fun _ => ?_) | (with_reducible refine oif_c ?_) | (with_reducible refine ochk_c ?_) | (simp only [xS_bind, xS_ret, gS, oS, iS, ob_assoc, oif_b, obind_some]))
  all_goals first | rfl | skip
  all_goals (rename_i y; rcases y with ⟨y, z⟩; cases y <;> rfl)
theorem xS_op_i2s {n : Nat} {l : Asc} (K : Kills) (cf : Nat → List AV → Option CRes) (dst : Option Nat) (x : Od) : (Pg.runS n (opP K cf dst (.i2s x)) l) = obind ((Pg.runS n (scInt x) l)) fun q => (Pg.runS n (out K dst (.w (.p (.str (Utf8.encode q.1).data.toList)))) q.2) := by first | rfl | exact runS_bind .. | exact (runS_bind ..).trans rfl
theorem xS_op_sid {n : Nat} {l : Asc} (K : Kills) (cf : Nat → List AV → Option CRes) (dst : Option Nat) (x : Od) : (Pg.runS n (opP K cf dst (.sid x)) l) = obind ((Pg.runS n (sc x) l)) fun q => obind (oStr q.1) fun s => (Pg.runS n (out K dst (.w (.p (.str s)))) q.2) := by
  all_goals (try (simp only [opP, xS_bind, xS_ret, gS, oS, ob_assoc, oif_b, obind_some]))
  repeat' (first | with_reducible rfl | (with_reducible refine ob_congr fun _ => ?_) | (with_reducible refine oif_c ?_) | (with_reducible refine ochk_c ?_) | (simp only [xS_bind, xS_ret, gS, oS, iS, ob_assoc, oif_b, obind_some]))
  all_goals first | rfl | skip
  all_goals (rename_i y; rcases y with ⟨y, z⟩; cases y <;> rfl)
theorem xS_op_sls {n : Nat} {l : Asc} (K : Kills) (cf : Nat → List AV → Option CRes) (dst : Option Nat) (x : Od) (lo hi : Option Od) : (Pg.runS n (opP K cf dst (.sls x lo hi)) l) = obind ((Pg.runS n (sc x) l)) fun p => obind (oStr p.1) fun s => obind ((Pg.runS n (ends s.length lo hi) p.2)) fun q => (Pg.runS n (out K dst (.w (.p (.str ((s.take q.1.2).drop q.1.1))))) q.2) := by
  all_goals (try (simp only [opP, xS_bind, xS_ret, gS, oS, ob_assoc, oif_b, obind_some]))
  repeat' (first | with_reducible rfl | (with_reducible refine ob_congr fun _ => ?_) | (with_reducible refine oif_c ?_) | (with_reducible refine ochk_c ?_) | (simp only [xS_bind, xS_ret, gS, oS, iS, ob_assoc, oif_b, obind_some]))
  all_goals first | rfl | skip
  all_goals (rename_i y; rcases y with ⟨y, z⟩; cases y <;> first | rfl | exact xS_bind ..)
theorem xS_op_slc {n : Nat} {l : Asc} (K : Kills) (cf : Nat → List AV → Option CRes) (dst : Option Nat) (z : Nat) (x : Od) (lo hi : Option Od) : (Pg.runS n (opP K cf dst (.slc z x lo hi)) l) = obind ((Pg.runS n (val x) l)) fun p => oif (!p.1.ag) (obind (elsLen p.1.cs) fun len => obind ((Pg.runS n (ends len lo hi) p.2)) fun q => (Pg.runS n (slcV K dst z p.1.cs p.1.src q.1.1 q.1.2) q.2)) := by
  all_goals (try (simp only [opP, xS_bind, xS_ret, gS, oS, ob_assoc, oif_b, obind_some]))
  repeat' (first | with_reducible rfl | (with_reducible refine ob_congr fun _ => ?_) | (with_reducible refine oif_c ?_) | (with_reducible refine ochk_c ?_) | (simp only [xS_bind, xS_ret, gS, oS, iS, ob_assoc, oif_b, obind_some]))
  all_goals first | rfl | skip
  all_goals (rfl)
theorem xS_slcV_p {n : Nat} {l : Asc} (K : Kills) (dst : Option Nat) (z z' : Nat) (els : List (List PV)) (s : Src) (lo hi : Nat) : (Pg.runS n (slcV K dst z [.p (.sl z' els)] s lo hi) l) = oif (z' == z) ((Pg.runS n (out K dst (.w (.p (.sl z ((els.take hi).drop lo))))) l)) := by
  all_goals (try (simp only [slcV, xS_bind, xS_ret, gS, oS, ob_assoc, oif_b, obind_some]))
  repeat' (first | with_reducible rfl | (with_reducible refine ob_congr fun _ => ?_) | (with_reducible refine oif_c ?_) | (with_reducible refine ochk_c ?_) | (simp only [xS_bind, xS_ret, gS, oS, iS, ob_assoc, oif_b, obind_some]))
  all_goals first | rfl | skip
  all_goals (exact ochk_beq ..)
theorem xS_slcV_no {n : Nat} {l : Asc} (K : Kills) (dst : Option Nat) (z z' : Nat) (els : List (List OV)) (lo hi : Nat) : (Pg.runS n (slcV K dst z [.own z' els] .no lo hi) l) = oif (z' == z) ((Pg.runS n (out K dst (.w (.own z ((els.take hi).drop lo)))) l)) := by
  all_goals (try (simp only [slcV, xS_bind, xS_ret, gS, oS, ob_assoc, oif_b, obind_some]))
  repeat' (first | with_reducible rfl | (with_reducible refine ob_congr fun _ => ?_) | (with_reducible refine oif_c ?_) | (with_reducible refine ochk_c ?_) | (simp only [xS_bind, xS_ret, gS, oS, iS, ob_assoc, oif_b, obind_some]))
  all_goals first | rfl | skip
  all_goals (exact ochk_beq ..)
theorem xS_slcV_at {n : Nat} {l : Asc} (K : Kills) (dst : Option Nat) (z z' : Nat) (els : List (List OV)) (pl : Pl) (lo hi : Nat) : (Pg.runS n (slcV K dst z [.own z' els] (.at_ pl) lo hi) l) = oif (z' == z) ((Pg.runS n (outOn K dst pl.holder (.sv pl z lo hi)) l)) := by
  all_goals (try (simp only [slcV, xS_bind, xS_ret, gS, oS, ob_assoc, oif_b, obind_some]))
  repeat' (first | with_reducible rfl | (with_reducible refine ob_congr fun _ => ?_) | (with_reducible refine oif_c ?_) | (with_reducible refine ochk_c ?_) | (simp only [xS_bind, xS_ret, gS, oS, iS, ob_assoc, oif_b, obind_some]))
  all_goals first | rfl | skip
  all_goals (exact ochk_beq ..)
theorem xS_op_fad {n : Nat} {l : Asc} (K : Kills) (cf : Nat → List AV → Option CRes) (dst : Option Nat) (o : Nat) (x : Od) : (Pg.runS n (opP K cf dst (.fad o x)) l) = obind ((Pg.runS n (adr x) l)) fun q => (Pg.runS n (fadV K dst o q.1) q.2) := by
  all_goals (try (simp only [opP, xS_bind, xS_ret, gS, oS, ob_assoc, oif_b, obind_some]))
  repeat' (first | with_reducible rfl | (with_reducible refine ob_congr fun _ => ?_) | (with_reducible refine oif_c ?_) | (with_reducible refine ochk_c ?_) | (simp only [xS_bind, xS_ret, gS, oS, iS, ob_assoc, oif_b, obind_some]))
  all_goals first | rfl | skip
  all_goals (rename_i y; rcases y with ⟨y, z⟩; cases y <;> rfl)
theorem xS_fadV_l {n : Nat} {l : Asc} (K : Kills) (dst : Option Nat) (o : Nat) (pl : Pl) : (Pg.runS n (fadV K dst o (.inl pl)) l) = (Pg.runS n (outOn K dst pl.holder (.ptr (pl.plus o))) l) := rfl
theorem xS_fadV_r {n : Nat} {l : Asc} (K : Kills) (dst : Option Nat) (o : Nat) (cs : List PV) : (Pg.runS n (fadV K dst o (.inr cs)) l) = (Pg.runS n (out K dst (.fp (cs.drop o))) l) := rfl
theorem xS_op_fld {n : Nat} {l : Asc} (K : Kills) (cf : Nat → List AV → Option CRes) (dst : Option Nat) (o m : Nat) (ag : Bool) (x : Od) : (Pg.runS n (opP K cf dst (.fld o m ag x)) l) = obind ((Pg.runS n (val x) l)) fun p => oif p.1.ag (obind (cellsAt p.1.cs o m) fun cs => oif (plainAll cs) ((Pg.runS n (outVal K dst ag cs) p.2))) := by
  all_goals (try (simp only [opP, xS_bind, xS_ret, gS, oS, ob_assoc, oif_b, obind_some]))
  repeat' (first | with_reducible rfl | (with_reducible refine ob_congr fun _ => ?_) | (with_reducible refine oif_c ?_) | (with_reducible refine ochk_c ?_) | (simp only [xS_bind, xS_ret, gS, oS, iS, ob_assoc, oif_b, obind_some]))
  all_goals first | rfl | skip
  all_goals (rfl)
theorem xS_op_iad {n : Nat} {l : Asc} (K : Kills) (cf : Nat → List AV → Option CRes) (dst : Option Nat) (z : Nat) (x i : Od) : (Pg.runS n (opP K cf dst (.iad z x i)) l) = obind ((Pg.runS n (val x) l)) fun p => oif (!p.1.ag) (obind ((Pg.runS n (scInt i) p.2)) fun q => ochk (0 ≤ q.1) ((Pg.runS n (iadV K dst z p.1 q.1.toNat) q.2))) := by
  all_goals (try (simp only [opP, xS_bind, xS_ret, gS, oS, ob_assoc, oif_b, obind_some]))
  repeat' (first | with_reducible rfl | (with_reducible refine ob_congr fun _ => ?_) | (with_reducible refine oif_c ?_) | (with_reducible refine ochk_c ?_) | (simp only [xS_bind, xS_ret, gS, oS, iS, ob_assoc, oif_b, obind_some]))
  all_goals first | rfl | skip
  all_goals (exact oif_dec ..)
theorem xS_iadV_p {n : Nat} {l : Asc} (K : Kills) (dst : Option Nat) (z z' : Nat) (els : List (List PV)) (ag : Bool) (s : Src) (i : Nat) : (Pg.runS n (iadV K dst z ⟨ag, [.p (.sl z' els)], s⟩ i) l) = oif (z' == z) (obind els[i]? fun e => (Pg.runS n (out K dst (.fp e)) l)) := by
  all_goals (try (simp only [iadV, xS_bind, xS_ret, gS, oS, ob_assoc, oif_b, obind_some]))
  repeat' (first | with_reducible rfl | (with_reducible refine ob_congr fun _ => ?_) | (with_reducible refine oif_c ?_) | (with_reducible refine ochk_c ?_) | (simp only [xS_bind, xS_ret, gS, oS, iS, ob_assoc, oif_b, obind_some]))
  all_goals first | rfl | skip
  all_goals (exact ochk_beq ..)
theorem xS_iadV_atr {n : Nat} {l : Asc} (K : Kills) (dst : Option Nat) (z z' : Nat) (els : List (List OV)) (ag : Bool) (i : Nat) (d : Nat) : (Pg.runS n (iadV K dst z ⟨ag, [.own z' els], .at_ (.r d)⟩ i) l) = oif (z' == z) (ochk (i < els.length) ((Pg.runS n (outOn K dst d (.ptr (.e d none z i 0))) l))) := by
  all_goals (try (simp only [iadV, xS_bind, xS_ret, gS, oS, ob_assoc, oif_b, obind_some]))
  repeat' (first | with_reducible rfl | (with_reducible refine ob_congr fun _ => ?_) | (with_reducible refine oif_c ?_) | (with_reducible refine ochk_c ?_) | (simp only [xS_bind, xS_ret, gS, oS, iS, ob_assoc, oif_b, obind_some]))
  all_goals first | rfl | skip
  all_goals (exact (ochk_beq ..).trans (oif_c (oif_dec ..)))
theorem xS_iadV_atb {n : Nat} {l : Asc} (K : Kills) (dst : Option Nat) (z z' : Nat) (els : List (List OV)) (ag : Bool) (i : Nat) (d o : Nat) : (Pg.runS n (iadV K dst z ⟨ag, [.own z' els], .at_ (.b d o)⟩ i) l) = oif (z' == z) (ochk (i < els.length) ((Pg.runS n (outOn K dst d (.ptr (.e d (some o) z i 0))) l))) := by
  all_goals (try (simp only [iadV, xS_bind, xS_ret, gS, oS, ob_assoc, oif_b, obind_some]))
  repeat' (first | with_reducible rfl | (with_reducible refine ob_congr fun _ => ?_) | (with_reducible refine oif_c ?_) | (with_reducible refine ochk_c ?_) | (simp only [xS_bind, xS_ret, gS, oS, iS, ob_assoc, oif_b, obind_some]))
  all_goals first | rfl | skip
  all_goals (exact (ochk_beq ..).trans (oif_c (oif_dec ..)))
theorem xS_iadV_subr {n : Nat} {l : Asc} (K : Kills) (dst : Option Nat) (z z' : Nat) (els : List (List OV)) (ag : Bool) (i : Nat) (d lo : Nat) : (Pg.runS n (iadV K dst z ⟨ag, [.own z' els], .sub (.r d) lo⟩ i) l) = oif (z' == z) (ochk (i < els.length) ((Pg.runS n (outOn K dst d (.ptr (.e d none z (lo + i) 0))) l))) := by
  all_goals (try (simp only [iadV, xS_bind, xS_ret, gS, oS, ob_assoc, oif_b, obind_some]))
  repeat' (first | with_reducible rfl | (with_reducible refine ob_congr fun _ => ?_) | (with_reducible refine oif_c ?_) | (with_reducible refine ochk_c ?_) | (simp only [xS_bind, xS_ret, gS, oS, iS, ob_assoc, oif_b, obind_some]))
  all_goals first | rfl | skip
  all_goals (exact (ochk_beq ..).trans (oif_c (oif_dec ..)))
theorem xS_iadV_subb {n : Nat} {l : Asc} (K : Kills) (dst : Option Nat) (z z' : Nat) (els : List (List OV)) (ag : Bool) (i : Nat) (d o lo : Nat) : (Pg.runS n (iadV K dst z ⟨ag, [.own z' els], .sub (.b d o) lo⟩ i) l) = oif (z' == z) (ochk (i < els.length) ((Pg.runS n (outOn K dst d (.ptr (.e d (some o) z (lo + i) 0))) l))) := by
  all_goals (try (simp only [iadV, xS_bind, xS_ret, gS, oS, ob_assoc, oif_b, obind_some]))
  repeat' (first | with_reducible rfl | (with_reducible refine ob_congr fun _ => ?_) | (with_reducible refine oif_c ?_) | (with_reducible refine ochk_c ?_) | (simp only [xS_bind, xS_ret, gS, oS, iS, ob_assoc, oif_b, obind_some]))
  all_goals first | rfl | skip
  all_goals (exact (ochk_beq ..).trans (oif_c (oif_dec ..)))
theorem xS_iadV_no {n : Nat} {l : Asc} (K : Kills) (dst : Option Nat) (z z' : Nat) (els : List (List OV)) (ag : Bool) (i : Nat)  : (Pg.runS n (iadV K dst z ⟨ag, [.own z' els], .no⟩ i) l) = oif (z' == z) (ochk (i < els.length) (obind ((Pg.runS n (copy ⟨ag, [.own z' els], .no⟩) l)) fun q => obind (oEls q.1) fun ps => obind ps[i]? fun e => (Pg.runS n (out K dst (.fp e)) q.2))) := by
  all_goals (try (simp only [iadV, xS_bind, xS_ret, gS, oS, ob_assoc, oif_b, obind_some]))
  repeat' (first | with_reducible rfl | (with_reducible refine ob_congr fun _ => ?_) | (with_reducible refine oif_c ?_) | (with_reducible refine ochk_c ?_) | (simp only [xS_bind, xS_ret, gS, oS, iS, ob_assoc, oif_b, obind_some]))
  all_goals first | rfl | skip
  all_goals (refine (ochk_beq ..).trans (oif_c ((oif_dec ..).trans (ochk_c (ob_congr fun q => ?_)))); rcases q with ⟨y, z⟩; rcases y with _ | ⟨c, _ | ⟨d, y⟩⟩ <;> first | rfl | (cases c <;> first | rfl | exact (xS_bind ..).trans (by rw [oS, ob_assoc]; rfl)))
theorem xS_iadV_ate {n : Nat} {l : Asc} (K : Kills) (dst : Option Nat) (z z' : Nat) (els : List (List OV)) (ag : Bool) (i : Nat) (d : Nat) (c : Option Nat) (y j o : Nat) : (Pg.runS n (iadV K dst z ⟨ag, [.own z' els], .at_ (.e d c y j o)⟩ i) l) = oif (z' == z) (ochk (i < els.length) (obind ((Pg.runS n (copy ⟨ag, [.own z' els], .at_ (.e d c y j o)⟩) l)) fun q => obind (oEls q.1) fun ps => obind ps[i]? fun e => (Pg.runS n (out K dst (.fp e)) q.2))) := by
  all_goals (try (simp only [iadV, xS_bind, xS_ret, gS, oS, ob_assoc, oif_b, obind_some]))
  repeat' (first | with_reducible rfl | (with_reducible refine ob_congr fun _ => ?_) | (with_reducible refine oif_c ?_) | (with_reducible refine ochk_c ?_) | (simp only [xS_bind, xS_ret, gS, oS, iS, ob_assoc, oif_b, obind_some]))
  all_goals first | rfl | skip
  all_goals (refine (ochk_beq ..).trans (oif_c ((oif_dec ..).trans (ochk_c (ob_congr fun q => ?_)))); rcases q with ⟨y, z⟩; rcases y with _ | ⟨c, _ | ⟨d, y⟩⟩ <;> first | rfl | (cases c <;> first | rfl | exact (xS_bind ..).trans (by rw [oS, ob_assoc]; rfl)))
theorem xS_op_ixs {n : Nat} {l : Asc} (K : Kills) (cf : Nat → List AV → Option CRes) (dst : Option Nat) (x i : Od) : (Pg.runS n (opP K cf dst (.ixs x i)) l) = obind ((Pg.runS n (sc x) l)) fun p => obind (oStr p.1) fun s => obind ((Pg.runS n (scInt i) p.2)) fun q => ochk (0 ≤ q.1) (obind s[q.1.toNat]? fun b => (Pg.runS n (out K dst (.w (.p (.int .u8 b.toNat)))) q.2)) := by
  all_goals (try (simp only [opP, xS_bind, xS_ret, gS, oS, ob_assoc, oif_b, obind_some]))
  repeat' (first | with_reducible rfl | (with_reducible refine ob_congr fun _ => ?_) | (with_reducible refine oif_c ?_) | (with_reducible refine ochk_c ?_) | (simp only [xS_bind, xS_ret, gS, oS, iS, ob_assoc, oif_b, obind_some]))
  all_goals first | rfl | skip
  all_goals (rename_i y; rcases y with ⟨y, z⟩; cases y <;> first | rfl | (dsimp only; simp only [xS_bind, oS, gS, ob_assoc, oif_b, obind_some]; refine ob_congr fun q => ?_; exact oif_dec ..))
theorem xS_op_ext {n : Nat} {l : Asc} (K : Kills) (cf : Nat → List AV → Option CRes) (dst : Option Nat) (x i : Nat) : (Pg.runS n (opP K cf dst (.ext (.t x) i)) l) = ogo (look l x) fun v => (Pg.runS n (match v with | .t vs => extV K dst x i vs | _ => .fail) l) := by
  simp only [opP, Pg.runS, ogo]; generalize look l x = v; cases v <;> rfl
theorem xS_extV {n : Nat} {l : Asc} (K : Kills) (dst : Option Nat) (x i : Nat) (vs : List (Bool × List OV)) : (Pg.runS n (extV K dst x i vs) l) = obind vs[i]? fun e => ocond (plainAll e.2) ((Pg.runS n (outVal K dst e.1 e.2) l)) ((Pg.runS n (Pg.put x (.t (vs.set i (e.1, e.2.map fun _ => .hole))) (outVal K dst e.1 e.2)) l)) := by
  all_goals (try (simp only [extV, xS_bind, xS_ret, gS, oS, ob_assoc, oif_b, obind_some]))
  repeat' (first | with_reducible rfl | (with_reducible refine ob_congr fun _ => ?_) | (with_reducible refine oif_c ?_) | (with_reducible refine ochk_c ?_) | (simp only [xS_bind, xS_ret, gS, oS, iS, ob_assoc, oif_b, obind_some]))
  all_goals first | rfl | skip
  all_goals (exact cS ..)
theorem xS_op_call {n : Nat} {l : Asc} (K : Kills) (cf : Nat → List AV → Option CRes) (dst : Option Nat) (f : Nat) (args : List (Od × Bool)) : (Pg.runS n (opP K cf dst (.call f args)) l) = obind ((Pg.runS n (argsP K args) l)) fun q => (Pg.runS n (callP K cf dst f q.1.1 q.1.2) q.2) := by
  all_goals (try (simp only [opP, xS_bind, xS_ret, gS, oS, ob_assoc, oif_b, obind_some]))
  repeat' (first | with_reducible rfl | (with_reducible refine ob_congr fun _ => ?_) | (with_reducible refine oif_c ?_) | (with_reducible refine ochk_c ?_) | (simp only [xS_bind, xS_ret, gS, oS, iS, ob_assoc, oif_b, obind_some]))
  all_goals first | rfl | skip
  all_goals (rfl)
theorem xS_op_callv {n : Nat} {l : Asc} (K : Kills) (cf : Nat → List AV → Option CRes) (dst : Option Nat) (x : Nat) (args : List (Od × Bool)) : (Pg.runS n (opP K cf dst (.callv (.t x) args)) l) = ogo (look l x) fun v => (Pg.runS n (match v with | .clo f caps => callvV K cf dst f caps args | _ => .fail) l) := by
  simp only [opP, Pg.runS, ogo]; generalize look l x = v; cases v <;> rfl
theorem xS_callvV {n : Nat} {l : Asc} (K : Kills) (cf : Nat → List AV → Option CRes) (dst : Option Nat) (f : Nat) (caps : List AV) (args : List (Od × Bool)) : (Pg.runS n (callvV K cf dst f caps args) l) = obind ((Pg.runS n (argsP K args) l)) fun p => obind ((Pg.runS n (capsP K caps) p.2)) fun q => (Pg.runS n (callP K cf dst f (p.1.1 ++ q.1.1) (p.1.2 ++ q.1.2)) q.2) := by
  all_goals (try (simp only [callvV, xS_bind, xS_ret, gS, oS, ob_assoc, oif_b, obind_some]))
  repeat' (first | with_reducible rfl | (with_reducible refine ob_congr fun _ => ?_) | (with_reducible refine oif_c ?_) | (with_reducible refine ochk_c ?_) | (simp only [xS_bind, xS_ret, gS, oS, iS, ob_assoc, oif_b, obind_some]))
  all_goals first | rfl | skip
  all_goals (rfl)
theorem xS_op_len_f {n : Nat} {l : Asc} (K : Kills) (cf : Nat → List AV → Option CRes) (dst : Option Nat) (x : Od) : (Pg.runS n (opP K cf dst (.len false x)) l) = obind ((Pg.runS n (val x) l)) fun q => oif (!q.1.ag) (obind (elsLen q.1.cs) fun m => (Pg.runS n (out K dst (.w (.p (.int .i64 m)))) q.2)) := by
  all_goals (try (simp only [opP, xS_bind, xS_ret, gS, oS, ob_assoc, oif_b, obind_some]))
  repeat' (first | with_reducible rfl | (with_reducible refine ob_congr fun _ => ?_) | (with_reducible refine oif_c ?_) | (with_reducible refine ochk_c ?_) | (simp only [xS_bind, xS_ret, gS, oS, iS, ob_assoc, oif_b, obind_some]))
  all_goals first | rfl | skip
  all_goals (rfl)
theorem xS_op_len_t {n : Nat} {l : Asc} (K : Kills) (cf : Nat → List AV → Option CRes) (dst : Option Nat) (x : Od) : (Pg.runS n (opP K cf dst (.len true x)) l) = obind ((Pg.runS n (sc x) l)) fun q => obind (oStr q.1) fun s => (Pg.runS n (out K dst (.w (.p (.int .i64 s.length)))) q.2) := by
  all_goals (try (simp only [opP, xS_bind, xS_ret, gS, oS, ob_assoc, oif_b, obind_some]))
  repeat' (first | with_reducible rfl | (with_reducible refine ob_congr fun _ => ?_) | (with_reducible refine oif_c ?_) | (with_reducible refine ochk_c ?_) | (simp only [xS_bind, xS_ret, gS, oS, iS, ob_assoc, oif_b, obind_some]))
  all_goals first | rfl | skip
  all_goals (rename_i y; rcases y with ⟨y, z⟩; cases y <;> rfl)
theorem xS_op_app {n : Nat} {l : Asc} (K : Kills) (cf : Nat → List AV → Option CRes) (dst : Option Nat) (z bytes : Nat) (x y : Od) (keep : Bool) : (Pg.runS n (opP K cf dst (.app z bytes x y keep)) l) = obind ((Pg.runS n (val x) l)) fun p => oif (!p.1.ag) (obind (oOwn z p.1.cs) fun els => obind ((Pg.runS n (take K p.1) p.2)) fun q => obind ((Pg.runS n (val y) q.2)) fun p => oif (!p.1.ag) (obind ((Pg.runS n (appC K keep p.1) p.2)) fun q => obind (oEl z q.1) fun new => ochk (els.length + new.length ≤ 140737488351232 ∧ (els.length + new.length) * bytes ≤ 140737488351232) ((Pg.runS n (out K dst (.w (.own z (els ++ new)))) q.2)))) := by
  all_goals (try (simp only [opP, xS_bind, xS_ret, gS, oS, ob_assoc, oif_b, obind_some]))
  repeat' (first | with_reducible rfl | (with_reducible refine ob_congr fun _ => ?_) | (with_reducible refine oif_c ?_) | (with_reducible refine ochk_c ?_) | (simp only [xS_bind, xS_ret, gS, oS, iS, ob_assoc, oif_b, obind_some]))
  all_goals first | rfl | skip
  rename_i y0; rcases y0 with ⟨⟨ag, cs, s⟩, z0⟩; dsimp only; rcases cs with _ | ⟨c, _ | ⟨c', cs⟩⟩ <;> first | rfl | (cases c <;> first | rfl | skip)
  rename_i z' els
  dsimp only [oOwn]
  by_cases h : z' = z
  · subst h
    simp only [beq_self_eq_true, if_true, obind_some, xS_bind, gS, oif_b]
    refine ob_congr fun q1 => ob_congr fun q2 => oif_c ?_
    have e : Pg.runS n (if keep = true then take K q2.1 else (copy q2.1).bind fun cs => Pg.ret (List.map OV.p cs)) q2.2 = Pg.runS n (appC K keep q2.1) q2.2 := by unfold appC; rfl
    rw [e]
    refine ob_congr fun q3 => ?_
    rcases q3 with ⟨cs, z3⟩
    rcases cs with _ | ⟨c, _ | ⟨c', cs⟩⟩ <;> first | rfl | (rcases c with c | ⟨z'', new⟩ | _ <;> first | rfl | (cases c <;> first | rfl | skip) | skip)
    · rename_i z'' new
      dsimp only [oEl]
      by_cases h2 : z'' = z' <;> simp only [h2, beq_self_eq_true, if_true, decide_true, Bool.true_and, plains_length, obind_some]
      · unfold ochk
        by_cases a1 : els.length + new.length ≤ 140737488351232 <;> by_cases a2 : (els.length + new.length) * bytes ≤ 140737488351232 <;> simp [a1, a2] <;> rfl
      · have h3 : (z'' == z') = false := by simpa using h2
        simp [h2, h3, obind]; rfl
    · dsimp only [oEl]
      by_cases h2 : z'' = z'
      · subst h2
        simp only [beq_self_eq_true, if_true, decide_true, Bool.true_and]
        by_cases h3 : OV.wholess new = true
        · simp only [h3, if_true, Bool.true_and, obind_some]
          unfold ochk
          by_cases a1 : els.length + new.length ≤ 140737488351232 <;> by_cases a2 : (els.length + new.length) * bytes ≤ 140737488351232 <;> simp [a1, a2] <;> rfl
        · simp only [Bool.not_eq_true] at h3
          simp [h3, obind]; rfl
      · have h3 : (z'' == z') = false := by simpa using h2
        simp [h2, h3, obind]; rfl
  · have h3 : (z' == z) = false := by simpa using h
    simp [h, h3, obind]; rfl
theorem xS_appC_t {n : Nat} {l : Asc} (K : Kills) (x : Val) : (Pg.runS n (appC K true x) l) = (Pg.runS n (take K x) l) := rfl
theorem xS_appC_f {n : Nat} {l : Asc} (K : Kills) (x : Val) : (Pg.runS n (appC K false x) l) = obind ((Pg.runS n (copy x) l)) fun q => some (q.1.map OV.p, q.2) := by first | rfl | exact runS_bind .. | exact (runS_bind ..).trans rfl
theorem xS_op_apps {n : Nat} {l : Asc} (K : Kills) (cf : Nat → List AV → Option CRes) (dst : Option Nat) (x y : Od) : (Pg.runS n (opP K cf dst (.apps x y)) l) = obind ((Pg.runS n (val x) l)) fun p => oif (!p.1.ag) (obind (oOwn 1 p.1.cs) fun els => obind ((Pg.runS n (take K p.1) p.2)) fun q => obind ((Pg.runS n (sc y) q.2)) fun q => obind (oStr q.1) fun s => ochk (els.length + s.length ≤ 140737488351232) ((Pg.runS n (out K dst (.w (.own 1 (els ++ plains (ofBytes s))))) q.2))) := by
  all_goals (try (simp only [opP, xS_bind, xS_ret, gS, oS, ob_assoc, oif_b, obind_some]))
  repeat' (first | with_reducible rfl | (with_reducible refine ob_congr fun _ => ?_) | (with_reducible refine oif_c ?_) | (with_reducible refine ochk_c ?_) | (simp only [xS_bind, xS_ret, gS, oS, iS, ob_assoc, oif_b, obind_some]))
  all_goals first | rfl | skip
  rename_i y0; rcases y0 with ⟨⟨ag, cs, s⟩, z0⟩; dsimp only; rcases cs with _ | ⟨c, _ | ⟨c', cs⟩⟩ <;> first | rfl | (cases c <;> first | rfl | (split <;> first | rfl | (rename_i e; simp at e; done)) | skip)
  rename_i z' els
  dsimp only [oOwn]
  by_cases h : z' = 1
  · subst h
    simp only [beq_self_eq_true, if_true, obind_some, xS_bind]
    refine ob_congr fun q1 => ob_congr fun q2 => ?_
    rcases q2 with ⟨y, z⟩; cases y <;> first | rfl | exact iS ..
  · have h3 : (z' == 1) = false := by simpa using h
    simp only [h3, obind]
    split
    · rename_i e; simp at e; exact absurd e.1 h
    · rfl
theorem xS_op_mks {n : Nat} {l : Asc} (K : Kills) (cf : Nat → List AV → Option CRes) (dst : Option Nat) (z bytes : Nat) (ze : List OV) (m c : Od) : (Pg.runS n (opP K cf dst (.mks z bytes ze m c)) l) = obind ((Pg.runS n (scInt m) l)) fun p => obind ((Pg.runS n (scInt c) p.2)) fun q => ochk (0 ≤ p.1 ∧ p.1 ≤ q.1 ∧ q.1 * bytes ≤ 140737488351232 ∧ q.1 ≤ 140737488351232) ((Pg.runS n (out K dst (.w (.own z (mkRep p.1.toNat ze)))) q.2)) := by
  all_goals (try (simp only [opP, xS_bind, xS_ret, gS, oS, ob_assoc, oif_b, obind_some]))
  repeat' (first | with_reducible rfl | (with_reducible refine ob_congr fun _ => ?_) | (with_reducible refine oif_c ?_) | (with_reducible refine ochk_c ?_) | (simp only [xS_bind, xS_ret, gS, oS, iS, ob_assoc, oif_b, obind_some]))
  all_goals first | rfl | skip
  all_goals (rfl)
theorem xS_op_mm {n : Nat} {l : Asc} (K : Kills) (cf : Nat → List AV → Option CRes) (dst : Option Nat) (m : Bool) (x y : Od) : (Pg.runS n (opP K cf dst (.mm m x y)) l) = obind ((Pg.runS n (sc x) l)) fun p => obind ((Pg.runS n (sc y) p.2)) fun q => obind (mmPV m p.1 q.1) fun c => (Pg.runS n (out K dst (.w (.p c))) q.2) := by
  all_goals (try (simp only [opP, xS_bind, xS_ret, gS, oS, ob_assoc, oif_b, obind_some]))
  repeat' (first | with_reducible rfl | (with_reducible refine ob_congr fun _ => ?_) | (with_reducible refine oif_c ?_) | (with_reducible refine ochk_c ?_) | (simp only [xS_bind, xS_ret, gS, oS, iS, ob_assoc, oif_b, obind_some]))
  all_goals first | rfl | skip
  all_goals (rename_i y1 y2; rcases y1 with ⟨y1, z1⟩; rcases y2 with ⟨y2, z2⟩; cases y1 <;> cases y2 <;> first | rfl | (rename_i k a k' b; dsimp only [mmPV]; by_cases h : k = k' <;> simp only [h, if_true, if_false] <;> rfl))
theorem xS_op_mkf {n : Nat} {l : Asc} (K : Kills) (cf : Nat → List AV → Option CRes) (d f : Nat) (caps : List Od) : (Pg.runS n (opP K cf (some d) (.mkf f caps)) l) = obind ((Pg.runS n (opP.capsM caps) l)) fun q => oif (capsOn K d q.1) ((Pg.runS n (wr K d (.clo f q.1)) q.2)) := by
  all_goals (try (simp only [opP, xS_bind, xS_ret, gS, oS, ob_assoc, oif_b, obind_some]))
  repeat' (first | with_reducible rfl | (with_reducible refine ob_congr fun _ => ?_) | (with_reducible refine oif_c ?_) | (with_reducible refine ochk_c ?_) | (simp only [xS_bind, xS_ret, gS, oS, iS, ob_assoc, oif_b, obind_some]))
  all_goals first | rfl | skip
  all_goals (rfl)
theorem xS_capsM_nil {n : Nat} {l : Asc}  : (Pg.runS n (opP.capsM []) l) = some (([] : List AV), l) := rfl
theorem xS_capsM_c {n : Nat} {l : Asc} (v : AV) (rs : List Od) : (Pg.runS n (opP.capsM (.c v :: rs)) l) = obind ((Pg.runS n (opP.capsM rs) l)) fun q => some (v :: q.1, q.2) := by first | rfl | exact runS_bind .. | exact (runS_bind ..).trans rfl
theorem xS_capsM_t {n : Nat} {l : Asc} (i : Nat) (rs : List Od) : (Pg.runS n (opP.capsM (.t i :: rs)) l) = ogo (look l i) fun v => obind ((Pg.runS n (opP.capsM rs) l)) fun q => some ((capV i v) :: q.1, q.2) := by
  simp only [opP.capsM, Pg.runS, ogo]; generalize look l i = v; cases v <;> exact xS_bind ..
theorem xS_oper {n : Nat} {l : Asc} (K : Kills) (cf : Nat → List AV → Option CRes) (d : Option Nat) (o : IOp) : (Pg.runS n (operP K cf ⟨d, o, none⟩) l) = (Pg.runS n (opP K cf d o) l) := rfl
theorem xS_opergt {n : Nat} {l : Asc} (K : Kills) (cf : Nat → List AV → Option CRes) (d : Option Nat) (o : IOp) (t : Nat) : (Pg.runS n (operP K cf ⟨d, o, some (t, true)⟩) l) = ogo (look l t) fun v => obind (oBit v) fun b => ogcond b ((Pg.runS n (opP K cf d o) l)) ((Pg.runS n (skipP K d) l)) := by
  simp only [operP, Pg.runS, ogo]; generalize look l t = v; cases v <;> first | rfl | (rename_i c; cases c <;> first | rfl | (rename_i p; cases p <;> first | rfl | (rename_i b; cases b <;> rfl)))
theorem xS_opergf {n : Nat} {l : Asc} (K : Kills) (cf : Nat → List AV → Option CRes) (d : Option Nat) (o : IOp) (t : Nat) : (Pg.runS n (operP K cf ⟨d, o, some (t, false)⟩) l) = ogo (look l t) fun v => obind (oBit v) fun b => ogcond b ((Pg.runS n (skipP K d) l)) ((Pg.runS n (opP K cf d o) l)) := by
  simp only [operP, Pg.runS, ogo]; generalize look l t = v; cases v <;> first | rfl | (rename_i c; cases c <;> first | rfl | (rename_i p; cases p <;> first | rfl | (rename_i b; cases b <;> rfl)))
theorem xS_skip_s {n : Nat} {l : Asc} (K : Kills) (d : Nat) : (Pg.runS n (skipP K (some d)) l) = (Pg.runS n (wr K d .u) l) := rfl
theorem xS_skip_n {n : Nat} {l : Asc} (K : Kills) : (Pg.runS n (skipP K none) l) = some ((), l) := rfl
theorem xS_res_nil {n : Nat} {l : Asc} (K : Kills) : (Pg.runS n (resP K []) l) = some (([] : List (Bool × List OV)), l) := rfl
theorem xS_res_tmp {n : Nat} {l : Asc} (K : Kills) (t : Nat) (rs : List IRes) : (Pg.runS n (resP K (.tmp t :: rs)) l) = obind ((Pg.runS n (val (.t t)) l)) fun p => obind ((Pg.runS n (take K p.1) p.2)) fun q0 => obind ((Pg.runS n (resP K rs) q0.2)) fun q => some ((p.1.ag, q0.1) :: q.1, q.2) := by
  all_goals (try (simp only [resP, xS_bind, xS_ret, gS, oS, ob_assoc, oif_b, obind_some]))
  repeat' (first | with_reducible rfl | (with_reducible refine ob_congr fun _ => ?_) | (with_reducible refine oif_c ?_) | (with_reducible refine ochk_c ?_) | (simp only [xS_bind, xS_ret, gS, oS, iS, ob_assoc, oif_b, obind_some]))
  all_goals first | rfl | skip
  all_goals (rfl)
theorem xS_res_cell {n : Nat} {l : Asc} (K : Kills) (t m : Nat) (ag : Bool) (rs : List IRes) : (Pg.runS n (resP K (.cell t m ag :: rs)) l) = ogo (look l t) fun v => obind (oBox m v) fun cs => obind ((Pg.runS n (killMem K t) l)) fun q => obind ((Pg.runS n (Pg.put t .u (resP K rs)) q.2)) fun q => some ((ag, cs) :: q.1, q.2) := by
  simp only [resP, Pg.runS, ogo]; generalize look l t = v; cases v <;> first | rfl | skip
  rename_i cs
  dsimp only [oBox]; by_cases h : cs.length = m <;> simp only [h, if_true, if_false, obind_some, xS_bind] <;> first | rfl | skip
  refine ob_congr fun q => ?_
  simp only [Pg.runS]
  split <;> first | rfl | exact xS_bind ..
theorem xS_back_nil {n : Nat} {l : Asc} (K : Kills) (G : List Nat) (j : Nat) : (Pg.runS n (backP K G [] j) l) = some (([] : List (List OV)), l) := rfl
theorem xS_back_w {n : Nat} {l : Asc} (K : Kills) (G : List Nat) (j : Nat) (c : OV) (as : List AV) : (Pg.runS n (backP K G (.w c :: as) j) l) = (Pg.runS n (backP K G as (j + 1)) l) := rfl
theorem xS_back_a {n : Nat} {l : Asc} (K : Kills) (G : List Nat) (j : Nat) (c : List OV) (as : List AV) : (Pg.runS n (backP K G (.a c :: as) j) l) = (Pg.runS n (backP K G as (j + 1)) l) := rfl
theorem xS_back_clo {n : Nat} {l : Asc} (K : Kills) (G : List Nat) (j g : Nat) (c : List AV) (as : List AV) : (Pg.runS n (backP K G (.clo g c :: as) j) l) = (Pg.runS n (backP K G as (j + 1)) l) := rfl
theorem xS_back_fp {n : Nat} {l : Asc} (K : Kills) (G : List Nat) (j : Nat) (c : List PV) (as : List AV) : (Pg.runS n (backP K G (.fp c :: as) j) l) = (Pg.runS n (backP K G as (j + 1)) l) := rfl
theorem xS_back_box {n : Nat} {l : Asc} (K : Kills) (G : List Nat) (j : Nat) (c : List OV) (as : List AV) : (Pg.runS n (backP K G (.box c :: as) j) l) = oif (G.contains j) (ogo (look l j) fun v => obind (oBoxA v) fun cs => obind ((Pg.runS n (killMem K j) l)) fun q => obind ((Pg.runS n (Pg.put j .u (backP K G as (j + 1))) q.2)) fun q => some (cs :: q.1, q.2)) := by
  simp only [backP, Pg.runS]; unfold oif; by_cases h : G.contains j = true <;> simp only [h, if_true, if_false, Bool.false_eq_true, Pg.runS, ogo] <;> first | rfl | skip
  generalize look l j = v; cases v <;> first | rfl | skip
  dsimp only [oBoxA]; simp only [obind_some, xS_bind]
  refine ob_congr fun q => ?_
  simp only [Pg.runS]
  split <;> first | rfl | exact xS_bind ..
theorem xL_bind {n : Nat} {l : Asc} {L : Lg} {α β : Type} (p : Pg α) (f : α → Pg β) : (Pg.runL n (p.bind f) l L) = obind ((Pg.runL n (p) l L)) fun q => (Pg.runL n (f q.1) q.2.1 q.2.2) := by first | rfl | exact runL_bind .. | exact (runL_bind ..).trans rfl
theorem xL_ret {n : Nat} {l : Asc} {L : Lg} {α : Type} (x : α) : (Pg.runL n (Pg.ret x) l L) = some (x, l, L) := rfl
theorem xL_opt {n : Nat} {l : Asc} {L : Lg} {α : Type} (x : α) : (Pg.runL n (Pg.opt (some x)) l L) = some (x, l, L) := rfl
theorem xL_guard {n : Nat} {l : Asc} {L : Lg}  : (Pg.runL n (Pg.guard true) l L) = some ((), l, L) := rfl
theorem xL_get {n : Nat} {l : Asc} {L : Lg} {α : Type} (t : Nat) (k : AV → Pg α) : (Pg.runL n (Pg.get t k) l L) = ogo (look l t) fun v => (Pg.runL n (k v) l (L.rd t v)) := rfl
theorem xL_val_t {n : Nat} {l : Asc} {L : Lg} (i : Nat) : (Pg.runL n (val (.t i)) l L) = ogo (look l i) fun v => (Pg.runL n (valOf i v) l (L.rd i v)) := rfl
theorem xL_val_cw {n : Nat} {l : Asc} {L : Lg} (c : OV) : (Pg.runL n (val (.c (.w c))) l L) = some ((⟨false, [c], .no⟩ : Val), l, L) := rfl
theorem xL_val_ca {n : Nat} {l : Asc} {L : Lg} (c : List OV) : (Pg.runL n (val (.c (.a c))) l L) = some ((⟨true, c, .no⟩ : Val), l, L) := rfl
theorem xL_valOf_w {n : Nat} {l : Asc} {L : Lg} (x : Nat) (c : OV) : (Pg.runL n (valOf x (.w c)) l L) = some ((⟨false, [c], .at_ (.r x)⟩ : Val), l, L) := rfl
theorem xL_valOf_a {n : Nat} {l : Asc} {L : Lg} (x : Nat) (c : List OV) : (Pg.runL n (valOf x (.a c)) l L) = some ((⟨true, c, .at_ (.r x)⟩ : Val), l, L) := rfl
theorem xL_valOf_alr {n : Nat} {l : Asc} {L : Lg} (x d m : Nat) (ag : Bool) : (Pg.runL n (valOf x (.al (.r d) m ag)) l L) = ogo (look l d) fun v => (Pg.runL n (match v.cells with | some (ag', cs) => if ag' = ag then .ret ⟨ag, cs, .at_ (.r d)⟩ else .fail | none => .fail) l (L.rd d v)) := rfl
theorem xL_valOf_alb {n : Nat} {l : Asc} {L : Lg} (x d o m : Nat) (ag : Bool) : (Pg.runL n (valOf x (.al (.b d o) m ag)) l L) = obind ((Pg.runL n (getPl (.b d o) m) l L)) fun q => some ((⟨ag, q.1, .at_ (.b d o)⟩ : Val), q.2.1, q.2.2) := by first | rfl | exact runL_bind .. | exact (runL_bind ..).trans rfl
theorem xL_valOf_ale {n : Nat} {l : Asc} {L : Lg} (x d : Nat) (c : Option Nat) (z i o m : Nat) (ag : Bool) : (Pg.runL n (valOf x (.al (.e d c z i o) m ag)) l L) = obind ((Pg.runL n (getPl (.e d c z i o) m) l L)) fun q => some ((⟨ag, q.1, .at_ (.e d c z i o)⟩ : Val), q.2.1, q.2.2) := by first | rfl | exact runL_bind .. | exact (runL_bind ..).trans rfl
theorem xL_valOf_svr {n : Nat} {l : Asc} {L : Lg} (x d z lo hi : Nat) : (Pg.runL n (valOf x (.sv (.r d) z lo hi)) l L) = ogo (look l d) fun v => (Pg.runL n (match v with | .w c => (Pg.opt (subOf z lo hi [c])).bind fun cs' => .ret ⟨false, cs', .sub (.r d) lo⟩ | _ => .fail) l (L.rd d v)) := rfl
theorem xL_valOf_svb {n : Nat} {l : Asc} {L : Lg} (x d o z lo hi : Nat) : (Pg.runL n (valOf x (.sv (.b d o) z lo hi)) l L) = obind ((Pg.runL n (getPl (.b d o) 1) l L)) fun q => obind (subOf z lo hi q.1) fun cs' => some ((⟨false, cs', .sub (.b d o) lo⟩ : Val), q.2.1, q.2.2) := by
  all_goals (try (simp only [valOf, xL_bind, xL_ret, gL, oL, ob_assoc, oif_b, obind_some]))
  repeat' (first | with_reducible rfl | (with_reducible refine ob_congr fun _ => ?_) | (with_reducible refine oif_c ?_) | (with_reducible refine ochk_c ?_) | (simp only [xL_bind, xL_ret, gL, oL, iL, ob_assoc, oif_b, obind_some]))
  all_goals first | rfl | skip
  all_goals (rfl)
theorem xL_valOf_sve {n : Nat} {l : Asc} {L : Lg} (x d : Nat) (c : Option Nat) (y i o z lo hi : Nat) : (Pg.runL n (valOf x (.sv (.e d c y i o) z lo hi)) l L) = obind ((Pg.runL n (getPl (.e d c y i o) 1) l L)) fun q => obind (subOf z lo hi q.1) fun cs' => some ((⟨false, cs', .sub (.e d c y i o) lo⟩ : Val), q.2.1, q.2.2) := by
  all_goals (try (simp only [valOf, xL_bind, xL_ret, gL, oL, ob_assoc, oif_b, obind_some]))
  repeat' (first | with_reducible rfl | (with_reducible refine ob_congr fun _ => ?_) | (with_reducible refine oif_c ?_) | (with_reducible refine ochk_c ?_) | (simp only [xL_bind, xL_ret, gL, oL, iL, ob_assoc, oif_b, obind_some]))
  all_goals first | rfl | skip
  all_goals (rfl)
theorem xL_getPl_r {n : Nat} {l : Asc} {L : Lg} (d m : Nat) : (Pg.runL n (getPl (.r d) m) l L) = ogo (look l d) fun v => (Pg.runL n (Pg.opt (getIn v (.r d) m)) l (L.rd d v)) := rfl
theorem xL_getPl_b {n : Nat} {l : Asc} {L : Lg} (d o m : Nat) : (Pg.runL n (getPl (.b d o) m) l L) = ogo (look l d) fun v => (Pg.runL n (Pg.opt (getIn v (.b d o) m)) l (L.rd d v)) := rfl
theorem xL_getPl_e {n : Nat} {l : Asc} {L : Lg} (d : Nat) (c : Option Nat) (z i o m : Nat) : (Pg.runL n (getPl (.e d c z i o) m) l L) = ogo (look l d) fun v => (Pg.runL n (Pg.opt (getIn v (.e d c z i o) m)) l (L.rd d v)) := rfl
theorem xL_putPl_r {n : Nat} {l : Asc} {L : Lg} (d : Nat) (cs : List OV) : (Pg.runL n (putPl (.r d) cs) l L) = ogo (look l d) fun v => obind (putIn v (.r d) cs) fun v' => (Pg.runL n (Pg.put d v' (.ret ())) l (L.rd d v)) := by
  exact (xL_bind (Pg.opt (putIn (look l d) _ cs)) (fun v' => Pg.put d v' (.ret ()))).trans (by rw [oL, ob_assoc]; rfl)
theorem xL_putPl_b {n : Nat} {l : Asc} {L : Lg} (d o : Nat) (cs : List OV) : (Pg.runL n (putPl (.b d o) cs) l L) = ogo (look l d) fun v => obind (putIn v (.b d o) cs) fun v' => (Pg.runL n (Pg.put d v' (.ret ())) l (L.rd d v)) := by
  exact (xL_bind (Pg.opt (putIn (look l d) _ cs)) (fun v' => Pg.put d v' (.ret ()))).trans (by rw [oL, ob_assoc]; rfl)
theorem xL_putPl_e {n : Nat} {l : Asc} {L : Lg} (d : Nat) (c : Option Nat) (z i o : Nat) (cs : List OV) : (Pg.runL n (putPl (.e d c z i o) cs) l L) = ogo (look l d) fun v => obind (putIn v (.e d c z i o) cs) fun v' => (Pg.runL n (Pg.put d v' (.ret ())) l (L.rd d v)) := by
  exact (xL_bind (Pg.opt (putIn (look l d) _ cs)) (fun v' => Pg.put d v' (.ret ()))).trans (by rw [oL, ob_assoc]; rfl)
theorem xL_put {n : Nat} {l : Asc} {L : Lg} {α : Type} (t : Nat) (v : AV) (k : Pg α) : (Pg.runL n (Pg.put t v k) l L) = oif (decide (t < n)) ((Pg.runL n (k) (ins t v l) (L.wt t v))) := by
  exact (oif_dec (_ < n) _).symm
theorem xL_killIf {n : Nat} {l : Asc} {L : Lg} (c : AV → Bool) (ts : List Nat) : (Pg.runL n (killIf c ts) l L) = some ((), killF (c) ts l, L.ki (c) ts) := rfl
theorem xL_killMem {n : Nat} {l : Asc} {L : Lg} (K : Kills) (d : Nat) : (Pg.runL n (killMem K d) l L) = some ((), killF (AV.onMem d) (K.getD d []) l, L.ki (AV.onMem d) (K.getD d [])) := rfl
theorem xL_wr {n : Nat} {l : Asc} {L : Lg} (K : Kills) (d : Nat) (v : AV) : (Pg.runL n (wr K d v) l L) = oif (decide (d < n)) (some ((), ins d v (killF (AV.on d) (K.getD d []) l), (L.ki (AV.on d) (K.getD d [])).wt d v)) := by
  exact (oif_dec (_ < n) _).symm
theorem xL_copy {n : Nat} {l : Asc} {L : Lg} (ag : Bool) (cs : List OV) (s : Src) : (Pg.runL n (copy ⟨ag, cs, s⟩) l L) = ocond (plainAll cs) (some (OV.frzs cs, l, L)) (oif (OV.wholes cs) ((Pg.runL n (copyS s cs) l L))) := by
  exact (cL ..).trans (congrArg (ocond _ _) (cL ..))
theorem xL_copyS_no {n : Nat} {l : Asc} {L : Lg} (cs : List OV) : (Pg.runL n (copyS .no cs) l L) = some (OV.frzs cs, l, L) := rfl
theorem xL_copyS_at {n : Nat} {l : Asc} {L : Lg} (pl : Pl) (cs : List OV) : (Pg.runL n (copyS (.at_ pl) cs) l L) = obind ((Pg.runL n (putPl pl (cs.map fun c => .p c.frz)) l L)) fun q => some (OV.frzs cs, q.2.1, q.2.2) := by first | rfl | exact runL_bind .. | exact (runL_bind ..).trans rfl
theorem xL_copyS_sub {n : Nat} {l : Asc} {L : Lg} (pl : Pl) (lo : Nat) (cs : List OV) : (Pg.runL n (copyS (.sub pl lo) cs) l L) = obind ((Pg.runL n (getPl pl 1) l L)) fun q => oif (OV.wholes q.1) ((Pg.runL n ((putPl pl (q.1.map fun c => .p c.frz)).bind fun _ => .ret (OV.frzs cs)) q.2.1 q.2.2)) := by
  all_goals (try (simp only [copyS, xL_bind, xL_ret, gL, oL, ob_assoc, oif_b, obind_some]))
  repeat' (first | with_reducible rfl | (with_reducible refine ob_congr fun _ => ?_) | (with_reducible refine oif_c ?_) | (with_reducible refine ochk_c ?_) | (simp only [xL_bind, xL_ret, gL, oL, iL, ob_assoc, oif_b, obind_some]))
  all_goals first | rfl | skip
  all_goals (rfl)
theorem xL_take {n : Nat} {l : Asc} {L : Lg} (K : Kills) (ag : Bool) (cs : List OV) (s : Src) : (Pg.runL n (take K ⟨ag, cs, s⟩) l L) = ocond (plainAll cs) (some (cs, l, L)) ((Pg.runL n (takeS K s cs) l L)) := by
  exact cL ..
theorem xL_takeS_no {n : Nat} {l : Asc} {L : Lg} (K : Kills) (cs : List OV) : (Pg.runL n (takeS K .no cs) l L) = some (cs, l, L) := rfl
theorem xL_takeS_atr {n : Nat} {l : Asc} {L : Lg} (K : Kills) (d : Nat) (cs : List OV) : (Pg.runL n (takeS K (.at_ (.r d)) cs) l L) = obind ((Pg.runL n (wr K d .u) l L)) fun q => some (cs, q.2.1, q.2.2) := by first | rfl | exact runL_bind .. | exact (runL_bind ..).trans rfl
theorem xL_takeS_atb {n : Nat} {l : Asc} {L : Lg} (K : Kills) (d o : Nat) (cs : List OV) : (Pg.runL n (takeS K (.at_ (.b d o)) cs) l L) = obind ((Pg.runL n (putPl (.b d o) (cs.map fun _ => .hole)) l L)) fun q => obind ((Pg.runL n (killIf (AV.onEl d) (K.getD d [])) q.2.1 q.2.2)) fun q => some (cs, q.2.1, q.2.2) := by
  all_goals (try (simp only [takeS, xL_bind, xL_ret, gL, oL, ob_assoc, oif_b, obind_some]))
  repeat' (first | with_reducible rfl | (with_reducible refine ob_congr fun _ => ?_) | (with_reducible refine oif_c ?_) | (with_reducible refine ochk_c ?_) | (simp only [xL_bind, xL_ret, gL, oL, iL, ob_assoc, oif_b, obind_some]))
  all_goals first | rfl | skip
  all_goals (rfl)
theorem xL_takeS_ate {n : Nat} {l : Asc} {L : Lg} (K : Kills) (d : Nat) (c : Option Nat) (z i o : Nat) (cs : List OV) : (Pg.runL n (takeS K (.at_ (.e d c z i o)) cs) l L) = obind ((Pg.runL n (putPl (.e d c z i o) (cs.map fun _ => .hole)) l L)) fun q => obind ((Pg.runL n (killIf (AV.onEl d) (K.getD d [])) q.2.1 q.2.2)) fun q => some (cs, q.2.1, q.2.2) := by
  all_goals (try (simp only [takeS, xL_bind, xL_ret, gL, oL, ob_assoc, oif_b, obind_some]))
  repeat' (first | with_reducible rfl | (with_reducible refine ob_congr fun _ => ?_) | (with_reducible refine oif_c ?_) | (with_reducible refine ochk_c ?_) | (simp only [xL_bind, xL_ret, gL, oL, iL, ob_assoc, oif_b, obind_some]))
  all_goals first | rfl | skip
  all_goals (rfl)
theorem xL_takeS_subr {n : Nat} {l : Asc} {L : Lg} (K : Kills) (d lo : Nat) (cs : List OV) : (Pg.runL n (takeS K (.sub (.r d) lo) cs) l L) = obind ((Pg.runL n (wr K d .u) l L)) fun q => some (cs, q.2.1, q.2.2) := by first | rfl | exact runL_bind .. | exact (runL_bind ..).trans rfl
theorem xL_takeS_subb {n : Nat} {l : Asc} {L : Lg} (K : Kills) (d o lo : Nat) (cs : List OV) : (Pg.runL n (takeS K (.sub (.b d o) lo) cs) l L) = obind ((Pg.runL n (putPl (.b d o) [.hole]) l L)) fun q => obind ((Pg.runL n (killIf (AV.onEl d) (K.getD d [])) q.2.1 q.2.2)) fun q => some (cs, q.2.1, q.2.2) := by
  all_goals (try (simp only [takeS, xL_bind, xL_ret, gL, oL, ob_assoc, oif_b, obind_some]))
  repeat' (first | with_reducible rfl | (with_reducible refine ob_congr fun _ => ?_) | (with_reducible refine oif_c ?_) | (with_reducible refine ochk_c ?_) | (simp only [xL_bind, xL_ret, gL, oL, iL, ob_assoc, oif_b, obind_some]))
  all_goals first | rfl | skip
  all_goals (rfl)
theorem xL_out_some {n : Nat} {l : Asc} {L : Lg} (K : Kills) (d : Nat) (v : AV) : (Pg.runL n (out K (some d) v) l L) = (Pg.runL n (wr K d v) l L) := rfl
theorem xL_out_none {n : Nat} {l : Asc} {L : Lg} (K : Kills) (v : AV) : (Pg.runL n (out K none v) l L) = some ((), l, L) := rfl
theorem xL_outOn_none {n : Nat} {l : Asc} {L : Lg} (K : Kills) (h : Nat) (v : AV) : (Pg.runL n (outOn K none h v) l L) = some ((), l, L) := rfl
theorem xL_outOn_some {n : Nat} {l : Asc} {L : Lg} (K : Kills) (h d : Nat) (v : AV) (hc : onOk K h d = true) : (Pg.runL n (outOn K (some d) h v) l L) = (Pg.runL n (wr K d v) l L) := by
  all_goals (try (simp only [outOn, xL_bind, xL_ret, gL, oL, ob_assoc, oif_b, obind_some]))
  repeat' (first | with_reducible rfl | (with_reducible refine ob_congr fun _ => ?_) | (with_reducible refine oif_c ?_) | (with_reducible refine ochk_c ?_) | (simp only [xL_bind, xL_ret, gL, oL, iL, ob_assoc, oif_b, obind_some]))
  all_goals first | rfl | skip
  all_goals (exact ochk_pos hc)
theorem xL_outVal_w {n : Nat} {l : Asc} {L : Lg} (K : Kills) (dst : Option Nat) (c : OV) : (Pg.runL n (outVal K dst false [c]) l L) = (Pg.runL n (out K dst (.w c)) l L) := rfl
theorem xL_outVal_a {n : Nat} {l : Asc} {L : Lg} (K : Kills) (dst : Option Nat) (cs : List OV) : (Pg.runL n (outVal K dst true cs) l L) = (Pg.runL n (out K dst (.a cs)) l L) := rfl
theorem xL_sc {n : Nat} {l : Asc} {L : Lg} (x : Od) : (Pg.runL n (sc x) l L) = obind ((Pg.runL n (val x) l L)) fun q => obind (oSc q.1) fun c => some (c, q.2.1, q.2.2) := by
  all_goals (try (simp only [sc, xL_bind, xL_ret, gL, oL, ob_assoc, oif_b, obind_some]))
  repeat' (first | with_reducible rfl | (with_reducible refine ob_congr fun _ => ?_) | (with_reducible refine oif_c ?_) | (with_reducible refine ochk_c ?_) | (simp only [xL_bind, xL_ret, gL, oL, iL, ob_assoc, oif_b, obind_some]))
  all_goals first | rfl | skip
  all_goals (rename_i y; rcases y with ⟨⟨ag, cs, s⟩, z⟩; cases ag <;> first | rfl | (rcases cs with _ | ⟨c, _ | ⟨c', cs⟩⟩ <;> first | rfl | (cases c <;> rfl)))
theorem xL_scInt {n : Nat} {l : Asc} {L : Lg} (x : Od) : (Pg.runL n (scInt x) l L) = obind ((Pg.runL n (sc x) l L)) fun q => obind (oInt q.1) fun c => some (c, q.2.1, q.2.2) := by
  all_goals (try (simp only [scInt, xL_bind, xL_ret, gL, oL, ob_assoc, oif_b, obind_some]))
  repeat' (first | with_reducible rfl | (with_reducible refine ob_congr fun _ => ?_) | (with_reducible refine oif_c ?_) | (with_reducible refine ochk_c ?_) | (simp only [xL_bind, xL_ret, gL, oL, iL, ob_assoc, oif_b, obind_some]))
  all_goals first | rfl | skip
  all_goals (rename_i y; rcases y with ⟨y, z⟩; cases y <;> rfl)
theorem xL_movPtr_box {n : Nat} {l : Asc} {L : Lg} (K : Kills) (dst : Option Nat) (i : Nat) (els : Pg Unit) (cs : List OV) : (Pg.runL n (movPtr K dst i els (.box cs)) l L) = (Pg.runL n (outOn K dst i (.ptr (.b i 0))) l L) := rfl
theorem xL_movPtr_ptr {n : Nat} {l : Asc} {L : Lg} (K : Kills) (dst : Option Nat) (i : Nat) (els : Pg Unit) (pl : Pl) : (Pg.runL n (movPtr K dst i els (.ptr pl)) l L) = (Pg.runL n (outOn K dst pl.holder (.ptr pl)) l L) := rfl
theorem xL_movPtr_fp {n : Nat} {l : Asc} {L : Lg} (K : Kills) (dst : Option Nat) (i : Nat) (els : Pg Unit) (cs : List PV) : (Pg.runL n (movPtr K dst i els (.fp cs)) l L) = (Pg.runL n (out K dst (.fp cs)) l L) := rfl
theorem xL_movPtr_clo {n : Nat} {l : Asc} {L : Lg} (K : Kills) (d i : Nat) (els : Pg Unit) (g : Nat) (caps : List AV) : (Pg.runL n (movPtr K (some d) i els (.clo g caps)) l L) = oif (capsOn K d caps) ((Pg.runL n (wr K d (.clo g caps)) l L)) := by
  all_goals (try (simp only [movPtr, xL_bind, xL_ret, gL, oL, ob_assoc, oif_b, obind_some]))
  repeat' (first | with_reducible rfl | (with_reducible refine ob_congr fun _ => ?_) | (with_reducible refine oif_c ?_) | (with_reducible refine ochk_c ?_) | (simp only [xL_bind, xL_ret, gL, oL, iL, ob_assoc, oif_b, obind_some]))
  all_goals first | rfl | skip
  all_goals (rfl)
theorem xL_movPtr_w {n : Nat} {l : Asc} {L : Lg} (K : Kills) (dst : Option Nat) (i : Nat) (els : Pg Unit) (c : OV) : (Pg.runL n (movPtr K dst i els (.w c)) l L) = (Pg.runL n (els) l L) := rfl
theorem xL_movPtr_a {n : Nat} {l : Asc} {L : Lg} (K : Kills) (dst : Option Nat) (i : Nat) (els : Pg Unit) (c : List OV) : (Pg.runL n (movPtr K dst i els (.a c)) l L) = (Pg.runL n (els) l L) := rfl
theorem xL_movPtr_al {n : Nat} {l : Asc} {L : Lg} (K : Kills) (dst : Option Nat) (i : Nat) (els : Pg Unit) (pl : Pl) (m : Nat) (ag : Bool) : (Pg.runL n (movPtr K dst i els (.al pl m ag)) l L) = (Pg.runL n (els) l L) := rfl
theorem xL_movPtr_sv {n : Nat} {l : Asc} {L : Lg} (K : Kills) (dst : Option Nat) (i : Nat) (els : Pg Unit) (pl : Pl) (z lo hi : Nat) : (Pg.runL n (movPtr K dst i els (.sv pl z lo hi)) l L) = (Pg.runL n (els) l L) := rfl
theorem xL_movVal_w {n : Nat} {l : Asc} {L : Lg} (K : Kills) (dst : Option Nat) (i : Nat) (c : OV) : (Pg.runL n (movVal K dst i (.w c)) l L) = ocond c.plain ((Pg.runL n (out K dst (.w c)) l L)) ((Pg.runL n (outOn K dst i (.al (.r i) 1 false)) l L)) := by
  all_goals (try (simp only [movVal, xL_bind, xL_ret, gL, oL, ob_assoc, oif_b, obind_some]))
  repeat' (first | with_reducible rfl | (with_reducible refine ob_congr fun _ => ?_) | (with_reducible refine oif_c ?_) | (with_reducible refine ochk_c ?_) | (simp only [xL_bind, xL_ret, gL, oL, iL, ob_assoc, oif_b, obind_some]))
  all_goals first | rfl | skip
  all_goals (exact cL ..)
theorem xL_movVal_a {n : Nat} {l : Asc} {L : Lg} (K : Kills) (dst : Option Nat) (i : Nat) (c : List OV) : (Pg.runL n (movVal K dst i (.a c)) l L) = ocond (plainAll c) ((Pg.runL n (out K dst (.a c)) l L)) ((Pg.runL n (outOn K dst i (.al (.r i) c.length true)) l L)) := by
  all_goals (try (simp only [movVal, xL_bind, xL_ret, gL, oL, ob_assoc, oif_b, obind_some]))
  repeat' (first | with_reducible rfl | (with_reducible refine ob_congr fun _ => ?_) | (with_reducible refine oif_c ?_) | (with_reducible refine ochk_c ?_) | (simp only [xL_bind, xL_ret, gL, oL, iL, ob_assoc, oif_b, obind_some]))
  all_goals first | rfl | skip
  all_goals (exact cL ..)
theorem xL_movVal_al {n : Nat} {l : Asc} {L : Lg} (K : Kills) (dst : Option Nat) (i : Nat) (pl : Pl) (m : Nat) (ag : Bool) : (Pg.runL n (movVal K dst i (.al pl m ag)) l L) = (Pg.runL n (outOn K dst pl.holder (.al pl m ag)) l L) := rfl
theorem xL_movVal_t {n : Nat} {l : Asc} {L : Lg} (K : Kills) (dst : Option Nat) (i : Nat) (vs : List (Bool × List OV)) : (Pg.runL n (movVal K dst i (.t vs)) l L) = obind ((Pg.runL n (wr K i .u) l L)) fun q => (Pg.runL n (out K dst (.t vs)) q.2.1 q.2.2) := by first | rfl | exact runL_bind .. | exact (runL_bind ..).trans rfl
theorem xL_movPtr_t {n : Nat} {l : Asc} {L : Lg} (K : Kills) (dst : Option Nat) (i : Nat) (els : Pg Unit) (vs : List (Bool × List OV)) : (Pg.runL n (movPtr K dst i els (.t vs)) l L) = (Pg.runL n (els) l L) := rfl
theorem xL_movVal_sv {n : Nat} {l : Asc} {L : Lg} (K : Kills) (dst : Option Nat) (i : Nat) (pl : Pl) (z lo hi : Nat) : (Pg.runL n (movVal K dst i (.sv pl z lo hi)) l L) = (Pg.runL n (outOn K dst pl.holder (.sv pl z lo hi)) l L) := rfl
theorem xL_adr {n : Nat} {l : Asc} {L : Lg} (i : Nat) : (Pg.runL n (adr (.t i)) l L) = ogo (look l i) fun v => (Pg.runL n (match v with | .box _ => .ret (.inl (.b i 0)) | .ptr pl => .ret (.inl pl) | .fp cs => .ret (.inr cs) | _ => .fail) l (L.rd i v)) := rfl
theorem xL_build_nil {n : Nat} {l : Asc} {L : Lg} (K : Kills) (cs : List OV) : (Pg.runL n (buildP K cs []) l L) = some (cs, l, L) := rfl
theorem xL_build_cons {n : Nat} {l : Asc} {L : Lg} (K : Kills) (cs : List OV) (off m : Nat) (x : Od) (ps : List (Nat × Nat × Od)) : (Pg.runL n (buildP K cs ((off, m, x) :: ps)) l L) = obind ((Pg.runL n (val x) l L)) fun q => oif (q.1.cs.length == m && OV.wholes q.1.cs) (obind ((Pg.runL n (take K q.1) q.2.1 q.2.2)) fun q => obind (cellsPut cs off q.1) fun cs' => (Pg.runL n (buildP K cs' ps) q.2.1 q.2.2)) := by
  all_goals (try (simp only [buildP, xL_bind, xL_ret, gL, oL, ob_assoc, oif_b, obind_some]))
  repeat' (first | with_reducible rfl | (with_reducible refine ob_congr fun _ => ?_) | (with_reducible refine oif_c ?_) | (with_reducible refine ochk_c ?_) | (simp only [xL_bind, xL_ret, gL, oL, iL, ob_assoc, oif_b, obind_some]))
  all_goals first | rfl | skip
  all_goals (rfl)
theorem xL_bslice_nil {n : Nat} {l : Asc} {L : Lg} (K : Kills) (z : Nat) (els : List (List OV)) : (Pg.runL n (bsliceP K z els []) l L) = some (els, l, L) := rfl
theorem xL_bslice_cons {n : Nat} {l : Asc} {L : Lg} (K : Kills) (z : Nat) (els : List (List OV)) (i : Nat) (x : Od) (ps : List (Nat × Od)) : (Pg.runL n (bsliceP K z els ((i, x) :: ps)) l L) = obind ((Pg.runL n (val x) l L)) fun q => oif (q.1.cs.length == z && decide (i < els.length) && OV.wholes q.1.cs) (obind ((Pg.runL n (take K q.1) q.2.1 q.2.2)) fun q => (Pg.runL n (bsliceP K z (els.set i q.1) ps) q.2.1 q.2.2)) := by
  all_goals (try (simp only [bsliceP, xL_bind, xL_ret, gL, oL, ob_assoc, oif_b, obind_some]))
  repeat' (first | with_reducible rfl | (with_reducible refine ob_congr fun _ => ?_) | (with_reducible refine oif_c ?_) | (with_reducible refine ochk_c ?_) | (simp only [xL_bind, xL_ret, gL, oL, iL, ob_assoc, oif_b, obind_some]))
  all_goals first | rfl | skip
  all_goals (rfl)
theorem xL_ends_nn {n : Nat} {l : Asc} {L : Lg} (len : Nat) : (Pg.runL n (ends len none none) l L) = some ((0, len), l, L) := by
  all_goals (try (simp only [ends, xL_bind, xL_ret, gL, oL, ob_assoc, oif_b, obind_some]))
  repeat' (first | with_reducible rfl | (with_reducible refine ob_congr fun _ => ?_) | (with_reducible refine oif_c ?_) | (with_reducible refine ochk_c ?_) | (simp only [xL_bind, xL_ret, gL, oL, iL, ob_assoc, oif_b, obind_some]))
  all_goals first | rfl | skip
  all_goals (simp [ochk])
theorem xL_ends_sn {n : Nat} {l : Asc} {L : Lg} (len : Nat) (x : Od) : (Pg.runL n (ends len (some x) none) l L) = obind ((Pg.runL n (scInt x) l L)) fun q => ochk (0 ≤ q.1 ∧ q.1 ≤ (len : Int)) (some ((q.1.toNat, len), q.2.1, q.2.2)) := by
  all_goals (try (simp only [ends, xL_bind, xL_ret, gL, oL, ob_assoc, oif_b, obind_some]))
  repeat' (first | with_reducible rfl | (with_reducible refine ob_congr fun _ => ?_) | (with_reducible refine oif_c ?_) | (with_reducible refine ochk_c ?_) | (simp only [xL_bind, xL_ret, gL, oL, iL, ob_assoc, oif_b, obind_some]))
  all_goals first | rfl | skip
  all_goals (simp [ochk])
theorem xL_ends_ns {n : Nat} {l : Asc} {L : Lg} (len : Nat) (y : Od) : (Pg.runL n (ends len none (some y)) l L) = obind ((Pg.runL n (scInt y) l L)) fun q => ochk (0 ≤ q.1 ∧ q.1 ≤ (len : Int)) (some ((0, q.1.toNat), q.2.1, q.2.2)) := by
  all_goals (try (simp only [ends, xL_bind, xL_ret, gL, oL, ob_assoc, oif_b, obind_some]))
  repeat' (first | with_reducible rfl | (with_reducible refine ob_congr fun _ => ?_) | (with_reducible refine oif_c ?_) | (with_reducible refine ochk_c ?_) | (simp only [xL_bind, xL_ret, gL, oL, iL, ob_assoc, oif_b, obind_some]))
  all_goals first | rfl | skip
  all_goals (simp [ochk])
theorem xL_ends_ss {n : Nat} {l : Asc} {L : Lg} (len : Nat) (x y : Od) : (Pg.runL n (ends len (some x) (some y)) l L) = obind ((Pg.runL n (scInt x) l L)) fun p => obind ((Pg.runL n (scInt y) p.2.1 p.2.2)) fun q => ochk (0 ≤ p.1 ∧ p.1 ≤ q.1 ∧ q.1 ≤ (len : Int)) (some ((p.1.toNat, q.1.toNat), q.2.1, q.2.2)) := by
  all_goals (try (simp only [ends, xL_bind, xL_ret, gL, oL, ob_assoc, oif_b, obind_some]))
  repeat' (first | with_reducible rfl | (with_reducible refine ob_congr fun _ => ?_) | (with_reducible refine oif_c ?_) | (with_reducible refine ochk_c ?_) | (simp only [xL_bind, xL_ret, gL, oL, iL, ob_assoc, oif_b, obind_some]))
  all_goals first | rfl | skip
  all_goals (simp [ochk])
theorem xL_argP_cw {n : Nat} {l : Asc} {L : Lg} (K : Kills) (c : OV) (mv : Bool) : (Pg.runL n (argP K (.c (.w c), mv)) l L) = some ((AV.w c, (none : Option Nat)), l, L) := rfl
theorem xL_argP_ca {n : Nat} {l : Asc} {L : Lg} (K : Kills) (c : List OV) (mv : Bool) : (Pg.runL n (argP K (.c (.a c), mv)) l L) = some ((AV.a c, (none : Option Nat)), l, L) := rfl
theorem xL_argP_clo {n : Nat} {l : Asc} {L : Lg} (K : Kills) (g : Nat) (mv : Bool) : (Pg.runL n (argP K (.c (.clo g []), mv)) l L) = some ((AV.clo g [], (none : Option Nat)), l, L) := rfl
theorem xL_argP_t {n : Nat} {l : Asc} {L : Lg} (K : Kills) (i : Nat) (mv : Bool) : (Pg.runL n (argP K (.t i, mv)) l L) = ogo (look l i) fun v => (Pg.runL n (argV K i mv v) l (L.rd i v)) := by
  simp only [argP, Pg.runL, ogo]; generalize look l i = v; cases v <;> rfl
theorem xL_argV_box {n : Nat} {l : Asc} {L : Lg} (K : Kills) (i : Nat) (mv : Bool) (cs : List OV) : (Pg.runL n (argV K i mv (.box cs)) l L) = obind ((Pg.runL n (killMem K i) l L)) fun q => (Pg.runL n (Pg.put i .u (.ret (AV.box cs, some i))) q.2.1 q.2.2) := by first | rfl | exact runL_bind .. | exact (runL_bind ..).trans rfl
theorem xL_argV_ptr {n : Nat} {l : Asc} {L : Lg} (K : Kills) (i d : Nat) (mv : Bool) : (Pg.runL n (argV K i mv (.ptr (.b d 0))) l L) = ogo (look l d) fun v => (Pg.runL n (match v with | .box cs => (killMem K d).bind fun _ => .put d .u (.ret (.box cs, some d)) | _ => .fail) l (L.rd d v)) := rfl
theorem xL_argV_fp {n : Nat} {l : Asc} {L : Lg} (K : Kills) (i : Nat) (mv : Bool) (cs : List PV) : (Pg.runL n (argV K i mv (.fp cs)) l L) = some ((AV.fp cs, (none : Option Nat)), l, L) := rfl
theorem xL_argV_clo {n : Nat} {l : Asc} {L : Lg} (K : Kills) (i g : Nat) (mv : Bool) (caps : List AV) : (Pg.runL n (argV K i mv (.clo g caps)) l L) = oif (caps.all (fun | .w c => c.plain | .a cs => plainAll cs | _ => false)) (some ((AV.clo g caps, (none : Option Nat)), l, L)) := by
  all_goals (try (simp only [argV, xL_bind, xL_ret, gL, oL, ob_assoc, oif_b, obind_some]))
  repeat' (first | with_reducible rfl | (with_reducible refine ob_congr fun _ => ?_) | (with_reducible refine oif_c ?_) | (with_reducible refine ochk_c ?_) | (simp only [xL_bind, xL_ret, gL, oL, iL, ob_assoc, oif_b, obind_some]))
  all_goals first | rfl | skip
  all_goals (rfl)
theorem xL_argV_w {n : Nat} {l : Asc} {L : Lg} (K : Kills) (i : Nat) (mv : Bool) (c : OV) : (Pg.runL n (argV K i mv (.w c)) l L) = obind ((Pg.runL n (valOf i (.w c)) l L)) fun q => (Pg.runL n (argW K mv q.1) q.2.1 q.2.2) := by first | rfl | exact runL_bind .. | exact (runL_bind ..).trans rfl
theorem xL_argV_a {n : Nat} {l : Asc} {L : Lg} (K : Kills) (i : Nat) (mv : Bool) (c : List OV) : (Pg.runL n (argV K i mv (.a c)) l L) = obind ((Pg.runL n (valOf i (.a c)) l L)) fun q => (Pg.runL n (argW K mv q.1) q.2.1 q.2.2) := by first | rfl | exact runL_bind .. | exact (runL_bind ..).trans rfl
theorem xL_argV_al {n : Nat} {l : Asc} {L : Lg} (K : Kills) (i : Nat) (mv : Bool) (pl : Pl) (m : Nat) (ag : Bool) : (Pg.runL n (argV K i mv (.al pl m ag)) l L) = obind ((Pg.runL n (valOf i (.al pl m ag)) l L)) fun q => (Pg.runL n (argW K mv q.1) q.2.1 q.2.2) := by first | rfl | exact runL_bind .. | exact (runL_bind ..).trans rfl
theorem xL_argV_sv {n : Nat} {l : Asc} {L : Lg} (K : Kills) (i : Nat) (mv : Bool) (pl : Pl) (z lo hi : Nat) : (Pg.runL n (argV K i mv (.sv pl z lo hi)) l L) = obind ((Pg.runL n (valOf i (.sv pl z lo hi)) l L)) fun q => (Pg.runL n (argW K mv q.1) q.2.1 q.2.2) := by first | rfl | exact runL_bind .. | exact (runL_bind ..).trans rfl
theorem xL_argW_m {n : Nat} {l : Asc} {L : Lg} (K : Kills) (x : Val) : (Pg.runL n (argW K true x) l L) = obind ((Pg.runL n (take K x) l L)) fun q => obind (AV.mk x.ag q.1) fun y => some ((y, (none : Option Nat)), q.2.1, q.2.2) := by
  exact (xL_bind ..).trans (ob_congr fun q => (xL_bind ..).trans (by rw [oL, ob_assoc]; rfl))
theorem xL_argW_c {n : Nat} {l : Asc} {L : Lg} (K : Kills) (x : Val) : (Pg.runL n (argW K false x) l L) = obind ((Pg.runL n (copy x) l L)) fun q => obind (AV.mk x.ag (q.1.map .p)) fun y => some ((y, (none : Option Nat)), q.2.1, q.2.2) := by
  exact (xL_bind ..).trans (ob_congr fun q => (xL_bind ..).trans (by rw [oL, ob_assoc]; rfl))
theorem xL_args_nil {n : Nat} {l : Asc} {L : Lg} (K : Kills) : (Pg.runL n (argsP K []) l L) = some ((([] : List AV), ([] : List Nat)), l, L) := rfl
theorem xL_args_cons {n : Nat} {l : Asc} {L : Lg} (K : Kills) (x : Od × Bool) (xs : List (Od × Bool)) : (Pg.runL n (argsP K (x :: xs)) l L) = obind ((Pg.runL n (argP K x) l L)) fun p => obind ((Pg.runL n (argsP K xs) p.2.1 p.2.2)) fun q => some ((p.1.1 :: q.1.1, p.1.2.toList ++ q.1.2), q.2.1, q.2.2) := by
  all_goals (try (simp only [argsP, xL_bind, xL_ret, gL, oL, ob_assoc, oif_b, obind_some]))
  repeat' (first | with_reducible rfl | (with_reducible refine ob_congr fun _ => ?_) | (with_reducible refine oif_c ?_) | (with_reducible refine ochk_c ?_) | (simp only [xL_bind, xL_ret, gL, oL, iL, ob_assoc, oif_b, obind_some]))
  all_goals first | rfl | skip
  all_goals (rfl)
theorem xL_caps_nil {n : Nat} {l : Asc} {L : Lg} (K : Kills) : (Pg.runL n (capsP K []) l L) = some ((([] : List AV), ([] : List Nat)), l, L) := rfl
theorem xL_caps_ptr {n : Nat} {l : Asc} {L : Lg} (K : Kills) (d : Nat) (xs : List AV) : (Pg.runL n (capsP K (.ptr (.b d 0) :: xs)) l L) = ogo (look l d) fun v => (Pg.runL n (match v with | .box cs => (killMem K d).bind fun _ => .put d .u ((capsP K xs).bind fun (as, ls) => .ret (.box cs :: as, d :: ls)) | _ => .fail) l (L.rd d v)) := rfl
theorem xL_caps_w {n : Nat} {l : Asc} {L : Lg} (K : Kills) (c : OV) (xs : List AV) : (Pg.runL n (capsP K (.w c :: xs)) l L) = oif c.plain (obind ((Pg.runL n (capsP K xs) l L)) fun q => some ((AV.w c :: q.1.1, q.1.2), q.2.1, q.2.2)) := by
  all_goals (try (simp only [capsP, xL_bind, xL_ret, gL, oL, ob_assoc, oif_b, obind_some]))
  repeat' (first | with_reducible rfl | (with_reducible refine ob_congr fun _ => ?_) | (with_reducible refine oif_c ?_) | (with_reducible refine ochk_c ?_) | (simp only [xL_bind, xL_ret, gL, oL, iL, ob_assoc, oif_b, obind_some]))
  all_goals first | rfl | skip
  all_goals (rfl)
theorem xL_caps_a {n : Nat} {l : Asc} {L : Lg} (K : Kills) (c : List OV) (xs : List AV) : (Pg.runL n (capsP K (.a c :: xs)) l L) = oif (plainAll c) (obind ((Pg.runL n (capsP K xs) l L)) fun q => some ((AV.a c :: q.1.1, q.1.2), q.2.1, q.2.2)) := by
  all_goals (try (simp only [capsP, xL_bind, xL_ret, gL, oL, ob_assoc, oif_b, obind_some]))
  repeat' (first | with_reducible rfl | (with_reducible refine ob_congr fun _ => ?_) | (with_reducible refine oif_c ?_) | (with_reducible refine ochk_c ?_) | (simp only [xL_bind, xL_ret, gL, oL, iL, ob_assoc, oif_b, obind_some]))
  all_goals first | rfl | skip
  all_goals (rfl)
theorem xL_give_nil {n : Nat} {l : Asc} {L : Lg} (K : Kills) : (Pg.runL n (giveBack K [] []) l L) = some ((), l, L) := rfl
theorem xL_give_cons {n : Nat} {l : Asc} {L : Lg} (K : Kills) (d : Nat) (ds : List Nat) (cs : List OV) (css : List (List OV)) : (Pg.runL n (giveBack K (d :: ds) (cs :: css)) l L) = (Pg.runL n (Pg.put d (.box cs) ((killMem K d).bind fun _ => giveBack K ds css)) l L) := rfl
theorem xL_outRes_1 {n : Nat} {l : Asc} {L : Lg} (K : Kills) (dst : Option Nat) (ag : Bool) (cs : List OV) : (Pg.runL n (outRes K dst [(ag, cs)]) l L) = (Pg.runL n (outVal K dst ag cs) l L) := rfl
theorem xL_outRes_0 {n : Nat} {l : Asc} {L : Lg} (K : Kills) (dst : Option Nat) : (Pg.runL n (outRes K dst []) l L) = (Pg.runL n (out K dst (.t [])) l L) := rfl
theorem xL_outRes_2 {n : Nat} {l : Asc} {L : Lg} (K : Kills) (dst : Option Nat) (x y : Bool × List OV) (vs : List (Bool × List OV)) : (Pg.runL n (outRes K dst (x :: y :: vs)) l L) = (Pg.runL n (out K dst (.t (x :: y :: vs))) l L) := rfl
theorem xL_callP {n : Nat} {l : Asc} {L : Lg} (K : Kills) (cf : Nat → List AV → Option CRes) (dst : Option Nat) (f : Nat) (as : List AV) (ls : List Nat) : (Pg.runL n (callP K cf dst f as ls) l L) = obind (cf f as) fun p => obind ((Pg.runL n (giveBack K ls p.2) l L)) fun q => (Pg.runL n (outRes K dst p.1) q.2.1 q.2.2) := by
  all_goals (try (simp only [callP, xL_bind, xL_ret, gL, oL, ob_assoc, oif_b, obind_some]))
  repeat' (first | with_reducible rfl | (with_reducible refine ob_congr fun _ => ?_) | (with_reducible refine oif_c ?_) | (with_reducible refine ochk_c ?_) | (simp only [xL_bind, xL_ret, gL, oL, iL, ob_assoc, oif_b, obind_some]))
  all_goals first | rfl | skip
  all_goals (rfl)
theorem xL_op_mov_c {n : Nat} {l : Asc} {L : Lg} (K : Kills) (cf : Nat → List AV → Option CRes) (dst : Option Nat) (v : AV) : (Pg.runL n (opP K cf dst (.mov (.c v))) l L) = (Pg.runL n (out K dst v) l L) := rfl
theorem xL_op_mov_t {n : Nat} {l : Asc} {L : Lg} (K : Kills) (cf : Nat → List AV → Option CRes) (dst : Option Nat) (i : Nat) : (Pg.runL n (opP K cf dst (.mov (.t i))) l L) = ogo (look l i) fun v => (Pg.runL n (movPtr K dst i (movVal K dst i v) v) l (L.rd i v)) := rfl
theorem xL_op_asg_c {n : Nat} {l : Asc} {L : Lg} (K : Kills) (cf : Nat → List AV → Option CRes) (dst : Option Nat) (v : AV) : (Pg.runL n (opP K cf dst (.asg (.c v))) l L) = (Pg.runL n (out K dst v) l L) := rfl
theorem xL_op_asg_t {n : Nat} {l : Asc} {L : Lg} (K : Kills) (cf : Nat → List AV → Option CRes) (dst : Option Nat) (i : Nat) : (Pg.runL n (opP K cf dst (.asg (.t i))) l L) = ogo (look l i) fun v => (Pg.runL n (movPtr K dst i (asgV K dst i v) v) l (L.rd i v)) := by
  all_goals (try (simp only [opP, xL_bind, xL_ret, gL, oL, ob_assoc, oif_b, obind_some]))
  repeat' (first | with_reducible rfl | (with_reducible refine ob_congr fun _ => ?_) | (with_reducible refine oif_c ?_) | (with_reducible refine ochk_c ?_) | (simp only [xL_bind, xL_ret, gL, oL, iL, ob_assoc, oif_b, obind_some]))
  all_goals first | rfl | skip
  all_goals (rfl)
theorem xL_asgV {n : Nat} {l : Asc} {L : Lg} (K : Kills) (dst : Option Nat) (i : Nat) (a : AV) : (Pg.runL n (asgV K dst i a) l L) = obind ((Pg.runL n (valOf i a) l L)) fun p => obind ((Pg.runL n (take K p.1) p.2.1 p.2.2)) fun q => (Pg.runL n (outVal K dst p.1.ag q.1) q.2.1 q.2.2) := by
  all_goals (try (simp only [asgV, xL_bind, xL_ret, gL, oL, ob_assoc, oif_b, obind_some]))
  repeat' (first | with_reducible rfl | (with_reducible refine ob_congr fun _ => ?_) | (with_reducible refine oif_c ?_) | (with_reducible refine ochk_c ?_) | (simp only [xL_bind, xL_ret, gL, oL, iL, ob_assoc, oif_b, obind_some]))
  all_goals first | rfl | skip
  all_goals (rfl)
theorem xL_op_pick {n : Nat} {l : Asc} {L : Lg} (K : Kills) (cf : Nat → List AV → Option CRes) (dst : Option Nat) (c a b : Od) : (Pg.runL n (opP K cf dst (.pick c a b)) l L) = obind ((Pg.runL n (sc c) l L)) fun q => obind (oBool q.1) fun t => obind ((Pg.runL n (sc (if t then a else b)) q.2.1 q.2.2)) fun q => (Pg.runL n (out K dst (.w (.p q.1))) q.2.1 q.2.2) := by
  all_goals (try (simp only [opP, xL_bind, xL_ret, gL, oL, ob_assoc, oif_b, obind_some]))
  repeat' (first | with_reducible rfl | (with_reducible refine ob_congr fun _ => ?_) | (with_reducible refine oif_c ?_) | (with_reducible refine ochk_c ?_) | (simp only [xL_bind, xL_ret, gL, oL, iL, ob_assoc, oif_b, obind_some]))
  all_goals first | rfl | skip
  all_goals (rename_i y; rcases y with ⟨y, z⟩; cases y <;> first | rfl | exact xL_bind ..)
theorem xL_op_alloc {n : Nat} {l : Asc} {L : Lg} (K : Kills) (cf : Nat → List AV → Option CRes) (dst : Option Nat) (z : List OV) : (Pg.runL n (opP K cf dst (.alloc z)) l L) = (Pg.runL n (out K dst (.box z)) l L) := rfl
theorem xL_op_box {n : Nat} {l : Asc} {L : Lg} (K : Kills) (cf : Nat → List AV → Option CRes) (dst : Option Nat) (x : Od) : (Pg.runL n (opP K cf dst (.box x)) l L) = obind ((Pg.runL n (val x) l L)) fun p => oif (OV.wholes p.1.cs) (obind ((Pg.runL n (take K p.1) p.2.1 p.2.2)) fun q => (Pg.runL n (out K dst (.box q.1)) q.2.1 q.2.2)) := by
  all_goals (try (simp only [opP, xL_bind, xL_ret, gL, oL, ob_assoc, oif_b, obind_some]))
  repeat' (first | with_reducible rfl | (with_reducible refine ob_congr fun _ => ?_) | (with_reducible refine oif_c ?_) | (with_reducible refine ochk_c ?_) | (simp only [xL_bind, xL_ret, gL, oL, iL, ob_assoc, oif_b, obind_some]))
  all_goals first | rfl | skip
  all_goals (rfl)
theorem xL_op_build {n : Nat} {l : Asc} {L : Lg} (K : Kills) (cf : Nat → List AV → Option CRes) (dst : Option Nat) (z : List OV) (ps : List (Nat × Nat × Od)) : (Pg.runL n (opP K cf dst (.build z ps)) l L) = obind ((Pg.runL n (buildP K z ps) l L)) fun q => (Pg.runL n (out K dst (.a q.1)) q.2.1 q.2.2) := by first | rfl | exact runL_bind .. | exact (runL_bind ..).trans rfl
theorem xL_op_bslice {n : Nat} {l : Asc} {L : Lg} (K : Kills) (cf : Nat → List AV → Option CRes) (dst : Option Nat) (z : Nat) (ze : List OV) (m : Nat) (ps : List (Nat × Od)) : (Pg.runL n (opP K cf dst (.bslice z ze m ps)) l L) = obind ((Pg.runL n (bsliceP K z (List.replicate m ze) ps) l L)) fun q => (Pg.runL n (out K dst (.w (.own z q.1))) q.2.1 q.2.2) := by first | rfl | exact runL_bind .. | exact (runL_bind ..).trans rfl
theorem xL_op_load {n : Nat} {l : Asc} {L : Lg} (K : Kills) (cf : Nat → List AV → Option CRes) (dst : Option Nat) (m : Nat) (ag : Bool) (x : Od) : (Pg.runL n (opP K cf dst (.load m ag x)) l L) = obind ((Pg.runL n (adr x) l L)) fun q => (Pg.runL n (loadV K dst m ag q.1) q.2.1 q.2.2) := by
  all_goals (try (simp only [opP, xL_bind, xL_ret, gL, oL, ob_assoc, oif_b, obind_some]))
  repeat' (first | with_reducible rfl | (with_reducible refine ob_congr fun _ => ?_) | (with_reducible refine oif_c ?_) | (with_reducible refine ochk_c ?_) | (simp only [xL_bind, xL_ret, gL, oL, iL, ob_assoc, oif_b, obind_some]))
  all_goals first | rfl | skip
  all_goals (rename_i y; rcases y with ⟨y, z⟩; cases y <;> rfl)
theorem xL_loadV_l {n : Nat} {l : Asc} {L : Lg} (K : Kills) (dst : Option Nat) (m : Nat) (ag : Bool) (pl : Pl) : (Pg.runL n (loadV K dst m ag (.inl pl)) l L) = obind ((Pg.runL n (getPl pl m) l L)) fun q => ocond (plainAll q.1) ((Pg.runL n (outVal K dst ag q.1) q.2.1 q.2.2)) ((Pg.runL n (outOn K dst pl.holder (.al pl m ag)) q.2.1 q.2.2)) := by
  all_goals (try (simp only [loadV, xL_bind, xL_ret, gL, oL, ob_assoc, oif_b, obind_some]))
  repeat' (first | with_reducible rfl | (with_reducible refine ob_congr fun _ => ?_) | (with_reducible refine oif_c ?_) | (with_reducible refine ochk_c ?_) | (simp only [xL_bind, xL_ret, gL, oL, iL, ob_assoc, oif_b, obind_some]))
  all_goals first | rfl | skip
  all_goals (exact cL ..)
theorem xL_loadV_r {n : Nat} {l : Asc} {L : Lg} (K : Kills) (dst : Option Nat) (m : Nat) (ag : Bool) (cs : List PV) : (Pg.runL n (loadV K dst m ag (.inr cs)) l L) = oif (decide (m ≤ cs.length)) ((Pg.runL n (outVal K dst ag ((cs.take m).map .p)) l L)) := by
  all_goals (try (simp only [loadV, xL_bind, xL_ret, gL, oL, ob_assoc, oif_b, obind_some]))
  repeat' (first | with_reducible rfl | (with_reducible refine ob_congr fun _ => ?_) | (with_reducible refine oif_c ?_) | (with_reducible refine ochk_c ?_) | (simp only [xL_bind, xL_ret, gL, oL, iL, ob_assoc, oif_b, obind_some]))
  all_goals first | rfl | skip
  all_goals (rfl)
theorem xL_op_store {n : Nat} {l : Asc} {L : Lg} (K : Kills) (cf : Nat → List AV → Option CRes) (dst : Option Nat) (m : Nat) (x v : Od) (keep : Bool) : (Pg.runL n (opP K cf dst (.store m x v keep)) l L) = obind ((Pg.runL n (adr x) l L)) fun q => (Pg.runL n (storeV K m v keep q.1) q.2.1 q.2.2) := by
  all_goals (try (simp only [opP, xL_bind, xL_ret, gL, oL, ob_assoc, oif_b, obind_some]))
  repeat' (first | with_reducible rfl | (with_reducible refine ob_congr fun _ => ?_) | (with_reducible refine oif_c ?_) | (with_reducible refine ochk_c ?_) | (simp only [xL_bind, xL_ret, gL, oL, iL, ob_assoc, oif_b, obind_some]))
  all_goals first | rfl | skip
  all_goals (rename_i y; rcases y with ⟨y, z⟩; cases y <;> rfl)
theorem xL_storeV_l {n : Nat} {l : Asc} {L : Lg} (K : Kills) (m : Nat) (y : Od) (keep : Bool) (pl : Pl) : (Pg.runL n (storeV K m y keep (.inl pl)) l L) = obind ((Pg.runL n (val y) l L)) fun p => oif (p.1.cs.length == m && OV.wholes p.1.cs) (obind ((Pg.runL n (storeC K pl keep p.1) p.2.1 p.2.2)) fun q => obind ((Pg.runL n (putPl pl q.1) q.2.1 q.2.2)) fun q => (Pg.runL n (killMem K pl.holder) q.2.1 q.2.2)) := by
  all_goals (try (simp only [storeV, xL_bind, xL_ret, gL, oL, ob_assoc, oif_b, obind_some]))
  repeat' (first | with_reducible rfl | (with_reducible refine ob_congr fun _ => ?_) | (with_reducible refine oif_c ?_) | (with_reducible refine ochk_c ?_) | (simp only [xL_bind, xL_ret, gL, oL, iL, ob_assoc, oif_b, obind_some]))
  all_goals first | rfl | skip
  all_goals (rfl)
theorem xL_storeC_e {n : Nat} {l : Asc} {L : Lg} (K : Kills) (d : Nat) (c : Option Nat) (z i o : Nat) (x : Val) : (Pg.runL n (storeC K (.e d c z i o) false x) l L) = obind ((Pg.runL n (copy x) l L)) fun q => some (q.1.map OV.p, q.2.1, q.2.2) := by first | rfl | exact runL_bind .. | exact (runL_bind ..).trans rfl
theorem xL_storeC_k {n : Nat} {l : Asc} {L : Lg} (K : Kills) (pl : Pl) (x : Val) : (Pg.runL n (storeC K pl true x) l L) = (Pg.runL n (take K x) l L) := by
  all_goals (try (simp only [storeC, xL_bind, xL_ret, gL, oL, ob_assoc, oif_b, obind_some]))
  repeat' (first | with_reducible rfl | (with_reducible refine ob_congr fun _ => ?_) | (with_reducible refine oif_c ?_) | (with_reducible refine ochk_c ?_) | (simp only [xL_bind, xL_ret, gL, oL, iL, ob_assoc, oif_b, obind_some]))
  all_goals first | rfl | skip
  all_goals (rfl)
theorem xL_storeC_b {n : Nat} {l : Asc} {L : Lg} (K : Kills) (d o : Nat) (keep : Bool) (x : Val) : (Pg.runL n (storeC K (.b d o) keep x) l L) = (Pg.runL n (take K x) l L) := rfl
theorem xL_storeC_r {n : Nat} {l : Asc} {L : Lg} (K : Kills) (d : Nat) (keep : Bool) (x : Val) : (Pg.runL n (storeC K (.r d) keep x) l L) = (Pg.runL n (take K x) l L) := rfl
theorem xL_op_nilchk {n : Nat} {l : Asc} {L : Lg} (K : Kills) (cf : Nat → List AV → Option CRes) (dst : Option Nat) (i : Nat) : (Pg.runL n (opP K cf dst (.nilchk (.t i))) l L) = ogo (look l i) fun v => (Pg.runL n (movPtr K dst i .fail v) l (L.rd i v)) := rfl
theorem xL_op_bin {n : Nat} {l : Asc} {L : Lg} (K : Kills) (cf : Nat → List AV → Option CRes) (dst : Option Nat) (o : BinOp) (x y : Od) : (Pg.runL n (opP K cf dst (.bin o x y)) l L) = obind ((Pg.runL n (sc x) l L)) fun p => obind ((Pg.runL n (sc y) p.2.1 p.2.2)) fun q => obind (binPV o p.1 q.1) fun c => (Pg.runL n (out K dst (.w (.p c))) q.2.1 q.2.2) := by
  all_goals (try (simp only [opP, xL_bind, xL_ret, gL, oL, ob_assoc, oif_b, obind_some]))
  repeat' (first | with_reducible rfl | (with_reducible refine ob_congr fun _ => ?_) | (with_reducible refine oif_c ?_) | (with_reducible refine ochk_c ?_) | (simp only [xL_bind, xL_ret, gL, oL, iL, ob_assoc, oif_b, obind_some]))
  all_goals first | rfl | skip
  all_goals (rfl)
theorem xL_op_eqs {n : Nat} {l : Asc} {L : Lg} (K : Kills) (cf : Nat → List AV → Option CRes) (dst : Option Nat) (neg : Bool) (x y : Od) : (Pg.runL n (opP K cf dst (.eqs neg x y)) l L) = obind ((Pg.runL n (val x) l L)) fun p => obind ((Pg.runL n (val y) p.2.1 p.2.2)) fun q => oif (p.1.ag && q.1.ag && plainAll p.1.cs && plainAll q.1.cs) (obind (cellsEq (OV.frzs p.1.cs) (OV.frzs q.1.cs)) fun r => (Pg.runL n (out K dst (.w (.p (.bool (if neg then !r else r))))) q.2.1 q.2.2)) := by
  all_goals (try (simp only [opP, xL_bind, xL_ret, gL, oL, ob_assoc, oif_b, obind_some]))
  repeat' (first | with_reducible rfl | (with_reducible refine ob_congr fun _ => ?_) | (with_reducible refine oif_c ?_) | (with_reducible refine ochk_c ?_) | (simp only [xL_bind, xL_ret, gL, oL, iL, ob_assoc, oif_b, obind_some]))
  all_goals first | rfl | skip
  all_goals (rfl)
theorem xL_op_beq {n : Nat} {l : Asc} {L : Lg} (K : Kills) (cf : Nat → List AV → Option CRes) (dst : Option Nat) (neg : Bool) (x y : Od) : (Pg.runL n (opP K cf dst (.beq neg x y)) l L) = obind ((Pg.runL n (sc x) l L)) fun p => obind (oBool p.1) fun a => obind ((Pg.runL n (sc y) p.2.1 p.2.2)) fun q => obind (oBool q.1) fun b => (Pg.runL n (out K dst (.w (.p (.bool (if neg then !(a == b) else a == b))))) q.2.1 q.2.2) := by
  all_goals (try (simp only [opP, xL_bind, xL_ret, gL, oL, ob_assoc, oif_b, obind_some]))
  repeat' (first | with_reducible rfl | (with_reducible refine ob_congr fun _ => ?_) | (with_reducible refine oif_c ?_) | (with_reducible refine ochk_c ?_) | (simp only [xL_bind, xL_ret, gL, oL, iL, ob_assoc, oif_b, obind_some]))
  all_goals first | rfl | skip
  all_goals (rename_i y; rcases y with ⟨y, z⟩; cases y <;> first | rfl | (refine (xL_bind ..).trans (ob_congr fun ⟨y, z⟩ => ?_); cases y <;> rfl))
theorem xL_op_un {n : Nat} {l : Asc} {L : Lg} (K : Kills) (cf : Nat → List AV → Option CRes) (dst : Option Nat) (o : UnOp) (x : Od) : (Pg.runL n (opP K cf dst (.un o x)) l L) = obind ((Pg.runL n (sc x) l L)) fun q => obind (unPV o q.1) fun c => (Pg.runL n (out K dst (.w (.p c))) q.2.1 q.2.2) := by
  all_goals (try (simp only [opP, xL_bind, xL_ret, gL, oL, ob_assoc, oif_b, obind_some]))
  repeat' (first | with_reducible rfl | (with_reducible refine ob_congr fun _ => ?_) | (with_reducible refine oif_c ?_) | (with_reducible refine ochk_c ?_) | (simp only [xL_bind, xL_ret, gL, oL, iL, ob_assoc, oif_b, obind_some]))
  all_goals first | rfl | skip
  all_goals (rfl)
theorem xL_op_cvi {n : Nat} {l : Asc} {L : Lg} (K : Kills) (cf : Nat → List AV → Option CRes) (dst : Option Nat) (k : IntKind) (x : Od) : (Pg.runL n (opP K cf dst (.cvi k x)) l L) = obind ((Pg.runL n (scInt x) l L)) fun q => (Pg.runL n (out K dst (.w (.p (.int k (k.wrap q.1))))) q.2.1 q.2.2) := by first | rfl | exact runL_bind .. | exact (runL_bind ..).trans rfl
theorem xL_op_b2s {n : Nat} {l : Asc} {L : Lg} (K : Kills) (cf : Nat → List AV → Option CRes) (dst : Option Nat) (x : Od) : (Pg.runL n (opP K cf dst (.b2s x)) l L) = obind ((Pg.runL n (val x) l L)) fun q => oif (!q.1.ag) (obind (oB2s q.1.cs) fun s => (Pg.runL n (out K dst (.w (.p (.str s)))) q.2.1 q.2.2)) := by
  all_goals (try (simp only [opP, xL_bind, xL_ret, gL, oL, ob_assoc, oif_b, obind_some]))
  repeat' (first | with_reducible rfl | (with_reducible refine ob_congr fun _ => ?_) | (with_reducible refine oif_c ?_) | (with_reducible refine ochk_c ?_) | (simp only [xL_bind, xL_ret, gL, oL, iL, ob_assoc, oif_b, obind_some]))
  all_goals first | rfl | skip
  all_goals (rename_i y; rcases y with ⟨⟨ag, cs, s⟩, z⟩; dsimp only; unfold oB2s; split <;> split <;> simp_all [xL_bind, oL, gL, ob_assoc, oif_b, obind_some, oif, obind, Pg.runL] <;> (try (split <;> simp_all)) <;> (try (generalize bytesOf _ = o; cases o <;> rfl)))
theorem xL_op_s2b {n : Nat} {l : Asc} {L : Lg} (K : Kills) (cf : Nat → List AV → Option CRes) (dst : Option Nat) (x : Od) : (Pg.runL n (opP K cf dst (.s2b x)) l L) = obind ((Pg.runL n (sc x) l L)) fun q => obind (oStr q.1) fun s => (Pg.runL n (out K dst (.w (.own 1 (plains (ofBytes s))))) q.2.1 q.2.2) := by
  all_goals (try (simp only [opP, xL_bind, xL_ret, gL, oL, ob_assoc, oif_b, obind_some]))
  repeat' (first | with_reducible rfl | (with_reducible refine ob_congr fun _ => ?_) | (with_reducible refine oif_c ?_) | (with_reducible refine ochk_c ?_) | (simp only [xL_bind, xL_ret, gL, oL, iL, ob_assoc, oif_b, obind_some]))
  all_goals first | rfl | skip
  all_goals (rename_i y; rcases y with ⟨y, z⟩; cases y <;> rfl)
theorem xL_op_i2s {n : Nat} {l : Asc} {L : Lg} (K : Kills) (cf : Nat → List AV → Option CRes) (dst : Option Nat) (x : Od) : (Pg.runL n (opP K cf dst (.i2s x)) l L) = obind ((Pg.runL n (scInt x) l L)) fun q => (Pg.runL n (out K dst (.w (.p (.str (Utf8.encode q.1).data.toList)))) q.2.1 q.2.2) := by first | rfl | exact runL_bind .. | exact (runL_bind ..).trans rfl
theorem xL_op_sid {n : Nat} {l : Asc} {L : Lg} (K : Kills) (cf : Nat → List AV → Option CRes) (dst : Option Nat) (x : Od) : (Pg.runL n (opP K cf dst (.sid x)) l L) = obind ((Pg.runL n (sc x) l L)) fun q => obind (oStr q.1) fun s => (Pg.runL n (out K dst (.w (.p (.str s)))) q.2.1 q.2.2) := by
  all_goals (try (simp only [opP, xL_bind, xL_ret, gL, oL, ob_assoc, oif_b, obind_some]))
  repeat' (first | with_reducible rfl | (with_reducible refine ob_congr fun _ => ?_) | (with_reducible refine oif_c ?_) | (with_reducible refine ochk_c ?_) | (simp only [xL_bind, xL_ret, gL, oL, iL, ob_assoc, oif_b, obind_some]))
  all_goals first | rfl | skip
  all_goals (rename_i y; rcases y with ⟨y, z⟩; cases y <;> rfl)
theorem xL_op_sls {n : Nat} {l : Asc} {L : Lg} (K : Kills) (cf : Nat → List AV → Option CRes) (dst : Option Nat) (x : Od) (lo hi : Option Od) : (Pg.runL n (opP K cf dst (.sls x lo hi)) l L) = obind ((Pg.runL n (sc x) l L)) fun p => obind (oStr p.1) fun s => obind ((Pg.runL n (ends s.length lo hi) p.2.1 p.2.2)) fun q => (Pg.runL n (out K dst (.w (.p (.str ((s.take q.1.2).drop q.1.1))))) q.2.1 q.2.2) := by
  all_goals (try (simp only [opP, xL_bind, xL_ret, gL, oL, ob_assoc, oif_b, obind_some]))
  repeat' (first | with_reducible rfl | (with_reducible refine ob_congr fun _ => ?_) | (with_reducible refine oif_c ?_) | (with_reducible refine ochk_c ?_) | (simp only [xL_bind, xL_ret, gL, oL, iL, ob_assoc, oif_b, obind_some]))
  all_goals first | rfl | skip
  all_goals (rename_i y; rcases y with ⟨y, z⟩; cases y <;> first | rfl | exact xL_bind ..)
theorem xL_op_slc {n : Nat} {l : Asc} {L : Lg} (K : Kills) (cf : Nat → List AV → Option CRes) (dst : Option Nat) (z : Nat) (x : Od) (lo hi : Option Od) : (Pg.runL n (opP K cf dst (.slc z x lo hi)) l L) = obind ((Pg.runL n (val x) l L)) fun p => oif (!p.1.ag) (obind (elsLen p.1.cs) fun len => obind ((Pg.runL n (ends len lo hi) p.2.1 p.2.2)) fun q => (Pg.runL n (slcV K dst z p.1.cs p.1.src q.1.1 q.1.2) q.2.1 q.2.2)) := by
  all_goals (try (simp only [opP, xL_bind, xL_ret, gL, oL, ob_assoc, oif_b, obind_some]))
  repeat' (first | with_reducible rfl | (with_reducible refine ob_congr fun _ => ?_) | (with_reducible refine oif_c ?_) | (with_reducible refine ochk_c ?_) | (simp only [xL_bind, xL_ret, gL, oL, iL, ob_assoc, oif_b, obind_some]))
  all_goals first | rfl | skip
  all_goals (rfl)
theorem xL_slcV_p {n : Nat} {l : Asc} {L : Lg} (K : Kills) (dst : Option Nat) (z z' : Nat) (els : List (List PV)) (s : Src) (lo hi : Nat) : (Pg.runL n (slcV K dst z [.p (.sl z' els)] s lo hi) l L) = oif (z' == z) ((Pg.runL n (out K dst (.w (.p (.sl z ((els.take hi).drop lo))))) l L)) := by
  all_goals (try (simp only [slcV, xL_bind, xL_ret, gL, oL, ob_assoc, oif_b, obind_some]))
  repeat' (first | with_reducible rfl | (with_reducible refine ob_congr fun _ => ?_) | (with_reducible refine oif_c ?_) | (with_reducible refine ochk_c ?_) | (simp only [xL_bind, xL_ret, gL, oL, iL, ob_assoc, oif_b, obind_some]))
  all_goals first | rfl | skip
  all_goals (exact ochk_beq ..)
theorem xL_slcV_no {n : Nat} {l : Asc} {L : Lg} (K : Kills) (dst : Option Nat) (z z' : Nat) (els : List (List OV)) (lo hi : Nat) : (Pg.runL n (slcV K dst z [.own z' els] .no lo hi) l L) = oif (z' == z) ((Pg.runL n (out K dst (.w (.own z ((els.take hi).drop lo)))) l L)) := by
  all_goals (try (simp only [slcV, xL_bind, xL_ret, gL, oL, ob_assoc, oif_b, obind_some]))
  repeat' (first | with_reducible rfl | (with_reducible refine ob_congr fun _ => ?_) | (with_reducible refine oif_c ?_) | (with_reducible refine ochk_c ?_) | (simp only [xL_bind, xL_ret, gL, oL, iL, ob_assoc, oif_b, obind_some]))
  all_goals first | rfl | skip
  all_goals (exact ochk_beq ..)
theorem xL_slcV_at {n : Nat} {l : Asc} {L : Lg} (K : Kills) (dst : Option Nat) (z z' : Nat) (els : List (List OV)) (pl : Pl) (lo hi : Nat) : (Pg.runL n (slcV K dst z [.own z' els] (.at_ pl) lo hi) l L) = oif (z' == z) ((Pg.runL n (outOn K dst pl.holder (.sv pl z lo hi)) l L)) := by
  all_goals (try (simp only [slcV, xL_bind, xL_ret, gL, oL, ob_assoc, oif_b, obind_some]))
  repeat' (first | with_reducible rfl | (with_reducible refine ob_congr fun _ => ?_) | (with_reducible refine oif_c ?_) | (with_reducible refine ochk_c ?_) | (simp only [xL_bind, xL_ret, gL, oL, iL, ob_assoc, oif_b, obind_some]))
  all_goals first | rfl | skip
  all_goals (exact ochk_beq ..)
theorem xL_op_fad {n : Nat} {l : Asc} {L : Lg} (K : Kills) (cf : Nat → List AV → Option CRes) (dst : Option Nat) (o : Nat) (x : Od) : (Pg.runL n (opP K cf dst (.fad o x)) l L) = obind ((Pg.runL n (adr x) l L)) fun q => (Pg.runL n (fadV K dst o q.1) q.2.1 q.2.2) := by
  all_goals (try (simp only [opP, xL_bind, xL_ret, gL, oL, ob_assoc, oif_b, obind_some]))
  repeat' (first | with_reducible rfl | (with_reducible refine ob_congr fun _ => ?_) | (with_reducible refine oif_c ?_) | (with_reducible refine ochk_c ?_) | (simp only [xL_bind, xL_ret, gL, oL, iL, ob_assoc, oif_b, obind_some]))
  all_goals first | rfl | skip
  all_goals (rename_i y; rcases y with ⟨y, z⟩; cases y <;> rfl)
theorem xL_fadV_l {n : Nat} {l : Asc} {L : Lg} (K : Kills) (dst : Option Nat) (o : Nat) (pl : Pl) : (Pg.runL n (fadV K dst o (.inl pl)) l L) = (Pg.runL n (outOn K dst pl.holder (.ptr (pl.plus o))) l L) := rfl
theorem xL_fadV_r {n : Nat} {l : Asc} {L : Lg} (K : Kills) (dst : Option Nat) (o : Nat) (cs : List PV) : (Pg.runL n (fadV K dst o (.inr cs)) l L) = (Pg.runL n (out K dst (.fp (cs.drop o))) l L) := rfl
theorem xL_op_fld {n : Nat} {l : Asc} {L : Lg} (K : Kills) (cf : Nat → List AV → Option CRes) (dst : Option Nat) (o m : Nat) (ag : Bool) (x : Od) : (Pg.runL n (opP K cf dst (.fld o m ag x)) l L) = obind ((Pg.runL n (val x) l L)) fun p => oif p.1.ag (obind (cellsAt p.1.cs o m) fun cs => oif (plainAll cs) ((Pg.runL n (outVal K dst ag cs) p.2.1 p.2.2))) := by
  all_goals (try (simp only [opP, xL_bind, xL_ret, gL, oL, ob_assoc, oif_b, obind_some]))
  repeat' (first | with_reducible rfl | (with_reducible refine ob_congr fun _ => ?_) | (with_reducible refine oif_c ?_) | (with_reducible refine ochk_c ?_) | (simp only [xL_bind, xL_ret, gL, oL, iL, ob_assoc, oif_b, obind_some]))
  all_goals first | rfl | skip
  all_goals (rfl)
theorem xL_op_iad {n : Nat} {l : Asc} {L : Lg} (K : Kills) (cf : Nat → List AV → Option CRes) (dst : Option Nat) (z : Nat) (x i : Od) : (Pg.runL n (opP K cf dst (.iad z x i)) l L) = obind ((Pg.runL n (val x) l L)) fun p => oif (!p.1.ag) (obind ((Pg.runL n (scInt i) p.2.1 p.2.2)) fun q => ochk (0 ≤ q.1) ((Pg.runL n (iadV K dst z p.1 q.1.toNat) q.2.1 q.2.2))) := by
  all_goals (try (simp only [opP, xL_bind, xL_ret, gL, oL, ob_assoc, oif_b, obind_some]))
  repeat' (first | with_reducible rfl | (with_reducible refine ob_congr fun _ => ?_) | (with_reducible refine oif_c ?_) | (with_reducible refine ochk_c ?_) | (simp only [xL_bind, xL_ret, gL, oL, iL, ob_assoc, oif_b, obind_some]))
  all_goals first | rfl | skip
  all_goals (exact oif_dec ..)
theorem xL_iadV_p {n : Nat} {l : Asc} {L : Lg} (K : Kills) (dst : Option Nat) (z z' : Nat) (els : List (List PV)) (ag : Bool) (s : Src) (i : Nat) : (Pg.runL n (iadV K dst z ⟨ag, [.p (.sl z' els)], s⟩ i) l L) = oif (z' == z) (obind els[i]? fun e => (Pg.runL n (out K dst (.fp e)) l L)) := by
  all_goals (try (simp only [iadV, xL_bind, xL_ret, gL, oL, ob_assoc, oif_b, obind_some]))
  repeat' (first | with_reducible rfl | (with_reducible refine ob_congr fun _ => ?_) | (with_reducible refine oif_c ?_) | (with_reducible refine ochk_c ?_) | (simp only [xL_bind, xL_ret, gL, oL, iL, ob_assoc, oif_b, obind_some]))
  all_goals first | rfl | skip
  all_goals (exact ochk_beq ..)
theorem xL_iadV_atr {n : Nat} {l : Asc} {L : Lg} (K : Kills) (dst : Option Nat) (z z' : Nat) (els : List (List OV)) (ag : Bool) (i : Nat) (d : Nat) : (Pg.runL n (iadV K dst z ⟨ag, [.own z' els], .at_ (.r d)⟩ i) l L) = oif (z' == z) (ochk (i < els.length) ((Pg.runL n (outOn K dst d (.ptr (.e d none z i 0))) l L))) := by
  all_goals (try (simp only [iadV, xL_bind, xL_ret, gL, oL, ob_assoc, oif_b, obind_some]))
  repeat' (first | with_reducible rfl | (with_reducible refine ob_congr fun _ => ?_) | (with_reducible refine oif_c ?_) | (with_reducible refine ochk_c ?_) | (simp only [xL_bind, xL_ret, gL, oL, iL, ob_assoc, oif_b, obind_some]))
  all_goals first | rfl | skip
  all_goals (exact (ochk_beq ..).trans (oif_c (oif_dec ..)))
theorem xL_iadV_atb {n : Nat} {l : Asc} {L : Lg} (K : Kills) (dst : Option Nat) (z z' : Nat) (els : List (List OV)) (ag : Bool) (i : Nat) (d o : Nat) : (Pg.runL n (iadV K dst z ⟨ag, [.own z' els], .at_ (.b d o)⟩ i) l L) = oif (z' == z) (ochk (i < els.length) ((Pg.runL n (outOn K dst d (.ptr (.e d (some o) z i 0))) l L))) := by
  all_goals (try (simp only [iadV, xL_bind, xL_ret, gL, oL, ob_assoc, oif_b, obind_some]))
  repeat' (first | with_reducible rfl | (with_reducible refine ob_congr fun _ => ?_) | (with_reducible refine oif_c ?_) | (with_reducible refine ochk_c ?_) | (simp only [xL_bind, xL_ret, gL, oL, iL, ob_assoc, oif_b, obind_some]))
  all_goals first | rfl | skip
  all_goals (exact (ochk_beq ..).trans (oif_c (oif_dec ..)))
theorem xL_iadV_subr {n : Nat} {l : Asc} {L : Lg} (K : Kills) (dst : Option Nat) (z z' : Nat) (els : List (List OV)) (ag : Bool) (i : Nat) (d lo : Nat) : (Pg.runL n (iadV K dst z ⟨ag, [.own z' els], .sub (.r d) lo⟩ i) l L) = oif (z' == z) (ochk (i < els.length) ((Pg.runL n (outOn K dst d (.ptr (.e d none z (lo + i) 0))) l L))) := by
  all_goals (try (simp only [iadV, xL_bind, xL_ret, gL, oL, ob_assoc, oif_b, obind_some]))
  repeat' (first | with_reducible rfl | (with_reducible refine ob_congr fun _ => ?_) | (with_reducible refine oif_c ?_) | (with_reducible refine ochk_c ?_) | (simp only [xL_bind, xL_ret, gL, oL, iL, ob_assoc, oif_b, obind_some]))
  all_goals first | rfl | skip
  all_goals (exact (ochk_beq ..).trans (oif_c (oif_dec ..)))
theorem xL_iadV_subb {n : Nat} {l : Asc} {L : Lg} (K : Kills) (dst : Option Nat) (z z' : Nat) (els : List (List OV)) (ag : Bool) (i : Nat) (d o lo : Nat) : (Pg.runL n (iadV K dst z ⟨ag, [.own z' els], .sub (.b d o) lo⟩ i) l L) = oif (z' == z) (ochk (i < els.length) ((Pg.runL n (outOn K dst d (.ptr (.e d (some o) z (lo + i) 0))) l L))) := by
  all_goals (try (simp only [iadV, xL_bind, xL_ret, gL, oL, ob_assoc, oif_b, obind_some]))
  repeat' (first | with_reducible rfl | (with_reducible refine ob_congr fun _ => ?_) | (with_reducible refine oif_c ?_) | (with_reducible refine ochk_c ?_) | (simp only [xL_bind, xL_ret, gL, oL, iL, ob_assoc, oif_b, obind_some]))
  all_goals first | rfl | skip
  all_goals (exact (ochk_beq ..).trans (oif_c (oif_dec ..)))
theorem xL_iadV_no {n : Nat} {l : Asc} {L : Lg} (K : Kills) (dst : Option Nat) (z z' : Nat) (els : List (List OV)) (ag : Bool) (i : Nat)  : (Pg.runL n (iadV K dst z ⟨ag, [.own z' els], .no⟩ i) l L) = oif (z' == z) (ochk (i < els.length) (obind ((Pg.runL n (copy ⟨ag, [.own z' els], .no⟩) l L)) fun q => obind (oEls q.1) fun ps => obind ps[i]? fun e => (Pg.runL n (out K dst (.fp e)) q.2.1 q.2.2))) := by
  all_goals (try (simp only [iadV, xL_bind, xL_ret, gL, oL, ob_assoc, oif_b, obind_some]))
  repeat' (first | with_reducible rfl | (with_reducible refine ob_congr fun _ => ?_) | (with_reducible refine oif_c ?_) | (with_reducible refine ochk_c ?_) | (simp only [xL_bind, xL_ret, gL, oL, iL, ob_assoc, oif_b, obind_some]))
  all_goals first | rfl | skip
  all_goals (refine (ochk_beq ..).trans (oif_c ((oif_dec ..).trans (ochk_c (ob_congr fun q => ?_)))); rcases q with ⟨y, z⟩; rcases y with _ | ⟨c, _ | ⟨d, y⟩⟩ <;> first | rfl | (cases c <;> first | rfl | exact (xL_bind ..).trans (by rw [oL, ob_assoc]; rfl)))
theorem xL_iadV_ate {n : Nat} {l : Asc} {L : Lg} (K : Kills) (dst : Option Nat) (z z' : Nat) (els : List (List OV)) (ag : Bool) (i : Nat) (d : Nat) (c : Option Nat) (y j o : Nat) : (Pg.runL n (iadV K dst z ⟨ag, [.own z' els], .at_ (.e d c y j o)⟩ i) l L) = oif (z' == z) (ochk (i < els.length) (obind ((Pg.runL n (copy ⟨ag, [.own z' els], .at_ (.e d c y j o)⟩) l L)) fun q => obind (oEls q.1) fun ps => obind ps[i]? fun e => (Pg.runL n (out K dst (.fp e)) q.2.1 q.2.2))) := by
  all_goals (try (simp only [iadV, xL_bind, xL_ret, gL, oL, ob_assoc, oif_b, obind_some]))
  repeat' (first | with_reducible rfl | (with_reducible refine ob_congr fun _ => ?_) | (with_reducible refine oif_c ?_) | (with_reducible refine ochk_c ?_) | (simp only [xL_bind, xL_ret, gL, oL, iL, ob_assoc, oif_b, obind_some]))
  all_goals first | rfl | skip
  all_goals (refine (ochk_beq ..).trans (oif_c ((oif_dec ..).trans (ochk_c (ob_congr fun q => ?_)))); rcases q with ⟨y, z⟩; rcases y with _ | ⟨c, _ | ⟨d, y⟩⟩ <;> first | rfl | (cases c <;> first | rfl | exact (xL_bind ..).trans (by rw [oL, ob_assoc]; rfl)))
theorem xL_op_ixs {n : Nat} {l : Asc} {L : Lg} (K : Kills) (cf : Nat → List AV → Option CRes) (dst : Option Nat) (x i : Od) : (Pg.runL n (opP K cf dst (.ixs x i)) l L) = obind ((Pg.runL n (sc x) l L)) fun p => obind (oStr p.1) fun s => obind ((Pg.runL n (scInt i) p.2.1 p.2.2)) fun q => ochk (0 ≤ q.1) (obind s[q.1.toNat]? fun b => (Pg.runL n (out K dst (.w (.p (.int .u8 b.toNat)))) q.2.1 q.2.2)) := by
  all_goals (try (simp only [opP, xL_bind, xL_ret, gL, oL, ob_assoc, oif_b, obind_some]))
  repeat' (first | with_reducible rfl | (with_reducible refine ob_congr fun _ => ?_) | (with_reducible refine oif_c ?_) | (with_reducible refine ochk_c ?_) | (simp only [xL_bind, xL_ret, gL, oL, iL, ob_assoc, oif_b, obind_some]))
  all_goals first | rfl | skip
  all_goals (rename_i y; rcases y with ⟨y, z⟩; cases y <;> first | rfl | (dsimp only; simp only [xL_bind, oL, gL, ob_assoc, oif_b, obind_some]; refine ob_congr fun q => ?_; exact oif_dec ..))
theorem xL_op_ext {n : Nat} {l : Asc} {L : Lg} (K : Kills) (cf : Nat → List AV → Option CRes) (dst : Option Nat) (x i : Nat) : (Pg.runL n (opP K cf dst (.ext (.t x) i)) l L) = ogo (look l x) fun v => (Pg.runL n (match v with | .t vs => extV K dst x i vs | _ => .fail) l (L.rd x v)) := by
  simp only [opP, Pg.runL, ogo]; generalize look l x = v; cases v <;> rfl
theorem xL_extV {n : Nat} {l : Asc} {L : Lg} (K : Kills) (dst : Option Nat) (x i : Nat) (vs : List (Bool × List OV)) : (Pg.runL n (extV K dst x i vs) l L) = obind vs[i]? fun e => ocond (plainAll e.2) ((Pg.runL n (outVal K dst e.1 e.2) l L)) ((Pg.runL n (Pg.put x (.t (vs.set i (e.1, e.2.map fun _ => .hole))) (outVal K dst e.1 e.2)) l L)) := by
  all_goals (try (simp only [extV, xL_bind, xL_ret, gL, oL, ob_assoc, oif_b, obind_some]))
  repeat' (first | with_reducible rfl | (with_reducible refine ob_congr fun _ => ?_) | (with_reducible refine oif_c ?_) | (with_reducible refine ochk_c ?_) | (simp only [xL_bind, xL_ret, gL, oL, iL, ob_assoc, oif_b, obind_some]))
  all_goals first | rfl | skip
  all_goals (exact cL ..)
theorem xL_op_call {n : Nat} {l : Asc} {L : Lg} (K : Kills) (cf : Nat → List AV → Option CRes) (dst : Option Nat) (f : Nat) (args : List (Od × Bool)) : (Pg.runL n (opP K cf dst (.call f args)) l L) = obind ((Pg.runL n (argsP K args) l L)) fun q => (Pg.runL n (callP K cf dst f q.1.1 q.1.2) q.2.1 q.2.2) := by
  all_goals (try (simp only [opP, xL_bind, xL_ret, gL, oL, ob_assoc, oif_b, obind_some]))
  repeat' (first | with_reducible rfl | (with_reducible refine ob_congr fun _ => ?_) | (with_reducible refine oif_c ?_) | (with_reducible refine ochk_c ?_) | (simp only [xL_bind, xL_ret, gL, oL, iL, ob_assoc, oif_b, obind_some]))
  all_goals first | rfl | skip
  all_goals (rfl)
theorem xL_op_callv {n : Nat} {l : Asc} {L : Lg} (K : Kills) (cf : Nat → List AV → Option CRes) (dst : Option Nat) (x : Nat) (args : List (Od × Bool)) : (Pg.runL n (opP K cf dst (.callv (.t x) args)) l L) = ogo (look l x) fun v => (Pg.runL n (match v with | .clo f caps => callvV K cf dst f caps args | _ => .fail) l (L.rd x v)) := by
  simp only [opP, Pg.runL, ogo]; generalize look l x = v; cases v <;> rfl
theorem xL_callvV {n : Nat} {l : Asc} {L : Lg} (K : Kills) (cf : Nat → List AV → Option CRes) (dst : Option Nat) (f : Nat) (caps : List AV) (args : List (Od × Bool)) : (Pg.runL n (callvV K cf dst f caps args) l L) = obind ((Pg.runL n (argsP K args) l L)) fun p => obind ((Pg.runL n (capsP K caps) p.2.1 p.2.2)) fun q => (Pg.runL n (callP K cf dst f (p.1.1 ++ q.1.1) (p.1.2 ++ q.1.2)) q.2.1 q.2.2) := by
  all_goals (try (simp only [callvV, xL_bind, xL_ret, gL, oL, ob_assoc, oif_b, obind_some]))
  repeat' (first | with_reducible rfl | (with_reducible refine ob_congr fun _ => ?_) | (with_reducible refine oif_c ?_) | (with_reducible refine ochk_c ?_) | (simp only [xL_bind, xL_ret, gL, oL, iL, ob_assoc, oif_b, obind_some]))
  all_goals first | rfl | skip
  all_goals (rfl)
theorem xL_op_len_f {n : Nat} {l : Asc} {L : Lg} (K : Kills) (cf : Nat → List AV → Option CRes) (dst : Option Nat) (x : Od) : (Pg.runL n (opP K cf dst (.len false x)) l L) = obind ((Pg.runL n (val x) l L)) fun q => oif (!q.1.ag) (obind (elsLen q.1.cs) fun m => (Pg.runL n (out K dst (.w (.p (.int .i64 m)))) q.2.1 q.2.2)) := by
  all_goals (try (simp only [opP, xL_bind, xL_ret, gL, oL, ob_assoc, oif_b, obind_some]))
  repeat' (first | with_reducible rfl | (with_reducible refine ob_congr fun _ => ?_) | (with_reducible refine oif_c ?_) | (with_reducible refine ochk_c ?_) | (simp only [xL_bind, xL_ret, gL, oL, iL, ob_assoc, oif_b, obind_some]))
  all_goals first | rfl | skip
  all_goals (rfl)
theorem xL_op_len_t {n : Nat} {l : Asc} {L : Lg} (K : Kills) (cf : Nat → List AV → Option CRes) (dst : Option Nat) (x : Od) : (Pg.runL n (opP K cf dst (.len true x)) l L) = obind ((Pg.runL n (sc x) l L)) fun q => obind (oStr q.1) fun s => (Pg.runL n (out K dst (.w (.p (.int .i64 s.length)))) q.2.1 q.2.2) := by
  all_goals (try (simp only [opP, xL_bind, xL_ret, gL, oL, ob_assoc, oif_b, obind_some]))
  repeat' (first | with_reducible rfl | (with_reducible refine ob_congr fun _ => ?_) | (with_reducible refine oif_c ?_) | (with_reducible refine ochk_c ?_) | (simp only [xL_bind, xL_ret, gL, oL, iL, ob_assoc, oif_b, obind_some]))
  all_goals first | rfl | skip
  all_goals (rename_i y; rcases y with ⟨y, z⟩; cases y <;> rfl)
theorem xL_op_app {n : Nat} {l : Asc} {L : Lg} (K : Kills) (cf : Nat → List AV → Option CRes) (dst : Option Nat) (z bytes : Nat) (x y : Od) (keep : Bool) : (Pg.runL n (opP K cf dst (.app z bytes x y keep)) l L) = obind ((Pg.runL n (val x) l L)) fun p => oif (!p.1.ag) (obind (oOwn z p.1.cs) fun els => obind ((Pg.runL n (take K p.1) p.2.1 p.2.2)) fun q => obind ((Pg.runL n (val y) q.2.1 q.2.2)) fun p => oif (!p.1.ag) (obind ((Pg.runL n (appC K keep p.1) p.2.1 p.2.2)) fun q => obind (oEl z q.1) fun new => ochk (els.length + new.length ≤ 140737488351232 ∧ (els.length + new.length) * bytes ≤ 140737488351232) ((Pg.runL n (out K dst (.w (.own z (els ++ new)))) q.2.1 q.2.2)))) := by
  all_goals (try (simp only [opP, xL_bind, xL_ret, gL, oL, ob_assoc, oif_b, obind_some]))
  repeat' (first | with_reducible rfl | (with_reducible refine ob_congr fun _ => ?_) | (with_reducible refine oif_c ?_) | (with_reducible refine ochk_c ?_) | (simp only [xL_bind, xL_ret, gL, oL, iL, ob_assoc, oif_b, obind_some]))
  all_goals first | rfl | skip
  rename_i y0; rcases y0 with ⟨⟨ag, cs, s⟩, z0⟩; dsimp only; rcases cs with _ | ⟨c, _ | ⟨c', cs⟩⟩ <;> first | rfl | (cases c <;> first | rfl | skip)
  rename_i z' els
  dsimp only [oOwn]
  by_cases h : z' = z
  · subst h
    simp only [beq_self_eq_true, if_true, obind_some, xL_bind, gL, oif_b]
    refine ob_congr fun q1 => ob_congr fun q2 => oif_c ?_
    have e : Pg.runL n (if keep = true then take K q2.1 else (copy q2.1).bind fun cs => Pg.ret (List.map OV.p cs)) q2.2.1 q2.2.2 = Pg.runL n (appC K keep q2.1) q2.2.1 q2.2.2 := by unfold appC; rfl
    rw [e]
    refine ob_congr fun q3 => ?_
    rcases q3 with ⟨cs, z3⟩
    rcases cs with _ | ⟨c, _ | ⟨c', cs⟩⟩ <;> first | rfl | (rcases c with c | ⟨z'', new⟩ | _ <;> first | rfl | (cases c <;> first | rfl | skip) | skip)
    · rename_i z'' new
      dsimp only [oEl]
      by_cases h2 : z'' = z' <;> simp only [h2, beq_self_eq_true, if_true, decide_true, Bool.true_and, plains_length, obind_some]
      · unfold ochk
        by_cases a1 : els.length + new.length ≤ 140737488351232 <;> by_cases a2 : (els.length + new.length) * bytes ≤ 140737488351232 <;> simp [a1, a2] <;> rfl
      · have h3 : (z'' == z') = false := by simpa using h2
        simp [h2, h3, obind]; rfl
    · dsimp only [oEl]
      by_cases h2 : z'' = z'
      · subst h2
        simp only [beq_self_eq_true, if_true, decide_true, Bool.true_and]
        by_cases h3 : OV.wholess new = true
        · simp only [h3, if_true, Bool.true_and, obind_some]
          unfold ochk
          by_cases a1 : els.length + new.length ≤ 140737488351232 <;> by_cases a2 : (els.length + new.length) * bytes ≤ 140737488351232 <;> simp [a1, a2] <;> rfl
        · simp only [Bool.not_eq_true] at h3
          simp [h3, obind]; rfl
      · have h3 : (z'' == z') = false := by simpa using h2
        simp [h2, h3, obind]; rfl
  · have h3 : (z' == z) = false := by simpa using h
    simp [h, h3, obind]; rfl
theorem xL_appC_t {n : Nat} {l : Asc} {L : Lg} (K : Kills) (x : Val) : (Pg.runL n (appC K true x) l L) = (Pg.runL n (take K x) l L) := rfl
theorem xL_appC_f {n : Nat} {l : Asc} {L : Lg} (K : Kills) (x : Val) : (Pg.runL n (appC K false x) l L) = obind ((Pg.runL n (copy x) l L)) fun q => some (q.1.map OV.p, q.2.1, q.2.2) := by first | rfl | exact runL_bind .. | exact (runL_bind ..).trans rfl
theorem xL_op_apps {n : Nat} {l : Asc} {L : Lg} (K : Kills) (cf : Nat → List AV → Option CRes) (dst : Option Nat) (x y : Od) : (Pg.runL n (opP K cf dst (.apps x y)) l L) = obind ((Pg.runL n (val x) l L)) fun p => oif (!p.1.ag) (obind (oOwn 1 p.1.cs) fun els => obind ((Pg.runL n (take K p.1) p.2.1 p.2.2)) fun q => obind ((Pg.runL n (sc y) q.2.1 q.2.2)) fun q => obind (oStr q.1) fun s => ochk (els.length + s.length ≤ 140737488351232) ((Pg.runL n (out K dst (.w (.own 1 (els ++ plains (ofBytes s))))) q.2.1 q.2.2))) := by
  all_goals (try (simp only [opP, xL_bind, xL_ret, gL, oL, ob_assoc, oif_b, obind_some]))
  repeat' (first | with_reducible rfl | (with_reducible refine ob_congr fun _ => ?_) | (with_reducible refine oif_c ?_) | (with_reducible refine ochk_c ?_) | (simp only [xL_bind, xL_ret, gL, oL, iL, ob_assoc, oif_b, obind_some]))
  all_goals first | rfl | skip
  rename_i y0; rcases y0 with ⟨⟨ag, cs, s⟩, z0⟩; dsimp only; rcases cs with _ | ⟨c, _ | ⟨c', cs⟩⟩ <;> first | rfl | (cases c <;> first | rfl | (split <;> first | rfl | (rename_i e; simp at e; done)) | skip)
  rename_i z' els
  dsimp only [oOwn]
  by_cases h : z' = 1
  · subst h
    simp only [beq_self_eq_true, if_true, obind_some, xL_bind]
    refine ob_congr fun q1 => ob_congr fun q2 => ?_
    rcases q2 with ⟨y, z⟩; cases y <;> first | rfl | exact iL ..
  · have h3 : (z' == 1) = false := by simpa using h
    simp only [h3, obind]
    split
    · rename_i e; simp at e; exact absurd e.1 h
    · rfl
theorem xL_op_mks {n : Nat} {l : Asc} {L : Lg} (K : Kills) (cf : Nat → List AV → Option CRes) (dst : Option Nat) (z bytes : Nat) (ze : List OV) (m c : Od) : (Pg.runL n (opP K cf dst (.mks z bytes ze m c)) l L) = obind ((Pg.runL n (scInt m) l L)) fun p => obind ((Pg.runL n (scInt c) p.2.1 p.2.2)) fun q => ochk (0 ≤ p.1 ∧ p.1 ≤ q.1 ∧ q.1 * bytes ≤ 140737488351232 ∧ q.1 ≤ 140737488351232) ((Pg.runL n (out K dst (.w (.own z (mkRep p.1.toNat ze)))) q.2.1 q.2.2)) := by
  all_goals (try (simp only [opP, xL_bind, xL_ret, gL, oL, ob_assoc, oif_b, obind_some]))
  repeat' (first | with_reducible rfl | (with_reducible refine ob_congr fun _ => ?_) | (with_reducible refine oif_c ?_) | (with_reducible refine ochk_c ?_) | (simp only [xL_bind, xL_ret, gL, oL, iL, ob_assoc, oif_b, obind_some]))
  all_goals first | rfl | skip
  all_goals (rfl)
theorem xL_op_mm {n : Nat} {l : Asc} {L : Lg} (K : Kills) (cf : Nat → List AV → Option CRes) (dst : Option Nat) (m : Bool) (x y : Od) : (Pg.runL n (opP K cf dst (.mm m x y)) l L) = obind ((Pg.runL n (sc x) l L)) fun p => obind ((Pg.runL n (sc y) p.2.1 p.2.2)) fun q => obind (mmPV m p.1 q.1) fun c => (Pg.runL n (out K dst (.w (.p c))) q.2.1 q.2.2) := by
  all_goals (try (simp only [opP, xL_bind, xL_ret, gL, oL, ob_assoc, oif_b, obind_some]))
  repeat' (first | with_reducible rfl | (with_reducible refine ob_congr fun _ => ?_) | (with_reducible refine oif_c ?_) | (with_reducible refine ochk_c ?_) | (simp only [xL_bind, xL_ret, gL, oL, iL, ob_assoc, oif_b, obind_some]))
  all_goals first | rfl | skip
  all_goals (rename_i y1 y2; rcases y1 with ⟨y1, z1⟩; rcases y2 with ⟨y2, z2⟩; cases y1 <;> cases y2 <;> first | rfl | (rename_i k a k' b; dsimp only [mmPV]; by_cases h : k = k' <;> simp only [h, if_true, if_false] <;> rfl))
theorem xL_op_mkf {n : Nat} {l : Asc} {L : Lg} (K : Kills) (cf : Nat → List AV → Option CRes) (d f : Nat) (caps : List Od) : (Pg.runL n (opP K cf (some d) (.mkf f caps)) l L) = obind ((Pg.runL n (opP.capsM caps) l L)) fun q => oif (capsOn K d q.1) ((Pg.runL n (wr K d (.clo f q.1)) q.2.1 q.2.2)) := by
  all_goals (try (simp only [opP, xL_bind, xL_ret, gL, oL, ob_assoc, oif_b, obind_some]))
  repeat' (first | with_reducible rfl | (with_reducible refine ob_congr fun _ => ?_) | (with_reducible refine oif_c ?_) | (with_reducible refine ochk_c ?_) | (simp only [xL_bind, xL_ret, gL, oL, iL, ob_assoc, oif_b, obind_some]))
  all_goals first | rfl | skip
  all_goals (rfl)
theorem xL_capsM_nil {n : Nat} {l : Asc} {L : Lg}  : (Pg.runL n (opP.capsM []) l L) = some (([] : List AV), l, L) := rfl
theorem xL_capsM_c {n : Nat} {l : Asc} {L : Lg} (v : AV) (rs : List Od) : (Pg.runL n (opP.capsM (.c v :: rs)) l L) = obind ((Pg.runL n (opP.capsM rs) l L)) fun q => some (v :: q.1, q.2.1, q.2.2) := by first | rfl | exact runL_bind .. | exact (runL_bind ..).trans rfl
theorem xL_capsM_t {n : Nat} {l : Asc} {L : Lg} (i : Nat) (rs : List Od) : (Pg.runL n (opP.capsM (.t i :: rs)) l L) = ogo (look l i) fun v => obind ((Pg.runL n (opP.capsM rs) l (L.rd i v))) fun q => some ((capV i v) :: q.1, q.2.1, q.2.2) := by
  simp only [opP.capsM, Pg.runL, ogo]; generalize look l i = v; cases v <;> exact xL_bind ..
theorem xL_oper {n : Nat} {l : Asc} {L : Lg} (K : Kills) (cf : Nat → List AV → Option CRes) (d : Option Nat) (o : IOp) : (Pg.runL n (operP K cf ⟨d, o, none⟩) l L) = (Pg.runL n (opP K cf d o) l L) := rfl
theorem xL_opergt {n : Nat} {l : Asc} {L : Lg} (K : Kills) (cf : Nat → List AV → Option CRes) (d : Option Nat) (o : IOp) (t : Nat) : (Pg.runL n (operP K cf ⟨d, o, some (t, true)⟩) l L) = ogo (look l t) fun v => obind (oBit v) fun b => ogcond b ((Pg.runL n (opP K cf d o) l (L.rd t v))) ((Pg.runL n (skipP K d) l (L.rd t v))) := by
  simp only [operP, Pg.runL, ogo]; generalize look l t = v; cases v <;> first | rfl | (rename_i c; cases c <;> first | rfl | (rename_i p; cases p <;> first | rfl | (rename_i b; cases b <;> rfl)))
theorem xL_opergf {n : Nat} {l : Asc} {L : Lg} (K : Kills) (cf : Nat → List AV → Option CRes) (d : Option Nat) (o : IOp) (t : Nat) : (Pg.runL n (operP K cf ⟨d, o, some (t, false)⟩) l L) = ogo (look l t) fun v => obind (oBit v) fun b => ogcond b ((Pg.runL n (skipP K d) l (L.rd t v))) ((Pg.runL n (opP K cf d o) l (L.rd t v))) := by
  simp only [operP, Pg.runL, ogo]; generalize look l t = v; cases v <;> first | rfl | (rename_i c; cases c <;> first | rfl | (rename_i p; cases p <;> first | rfl | (rename_i b; cases b <;> rfl)))
theorem xL_skip_s {n : Nat} {l : Asc} {L : Lg} (K : Kills) (d : Nat) : (Pg.runL n (skipP K (some d)) l L) = (Pg.runL n (wr K d .u) l L) := rfl
theorem xL_skip_n {n : Nat} {l : Asc} {L : Lg} (K : Kills) : (Pg.runL n (skipP K none) l L) = some ((), l, L) := rfl
end Go.Pv
end
