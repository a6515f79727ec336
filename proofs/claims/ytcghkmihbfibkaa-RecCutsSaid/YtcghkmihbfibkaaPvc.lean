/- Own words of these sessions: a small interpreter over plain values, and the proof that the model computes what it answers. -/
import Derived.Test.YtcghkmihbfibkaaPvb
import Derived.Lib.SliceRun
set_option linter.all false
section
namespace Go.Pv
set_option linter.unusedVariables false
set_option linter.unusedSimpArgs false
def Lim {α : Type} (g : Nat → Option α) (x : α) : Prop := ∃ k0, ∀ k, k0 ≤ k → g k = some x
theorem Lim.uniq {α : Type} {g : Nat → Option α} {x y : α} (h : Lim g x) (h' : Lim g y) : x = y := by
  obtain ⟨k, hk⟩ := h
  obtain ⟨k', hk'⟩ := h'
  have a := hk (max k k') (by omega)
  have b := hk' (max k k') (by omega)
  rw [a] at b
  simpa using b
open Classical in
noncomputable def ansOf (E : Env) (f : Nat) (as : List AV) : Option CRes := if h : ∃ r, Lim (fun k => callF E k f as) r then some h.choose else none
theorem ansOf_eq {E : Env} {f : Nat} {as : List AV} {r : CRes} : ansOf E f as = some r ↔ Lim (fun k => callF E k f as) r := by
  unfold ansOf
  constructor
  · intro h
    split at h
    · rename_i hx
      simp only [Option.some.injEq] at h
      rw [← h]
      exact hx.choose_spec
    · simp at h
  · intro h
    rw [dif_pos ⟨r, h⟩]
    exact congrArg some (Lim.uniq (Exists.choose_spec (⟨r, h⟩ : ∃ r, Lim (fun k => callF E k f as) r)) h)
section
variable {K : Kills} {E : Env} {σ σ' σ1 : List AV}
theorem run_bind_eq {α β : Type} (p : Pg α) (f : α → Pg β) (σ : List AV) : (p.bind f).run σ = (p.run σ).bind fun r => (f r.1).run r.2 := by
  induction p generalizing σ with
  | ret x => rfl
  | fail => rfl
  | get t k ih => exact ih _ _
  | put t v k ih => exact ih _
  | kill c ts k ih => exact ih _
theorem log_bind_eq {α β : Type} (p : Pg α) (f : α → Pg β) (σ : List AV) (L : Lg) : (p.bind f).log σ L = (match p.run σ with | some r => (f r.1).log r.2 (p.log σ L) | none => p.log σ L) := by
  induction p generalizing σ L with
  | ret x => simp [Pg.bind, Pg.run, Pg.log]
  | fail => simp [Pg.bind, Pg.run, Pg.log]
  | get t k ih => simp only [Pg.bind, Pg.run, Pg.log, ih]
  | put t v k ih => simp only [Pg.bind, Pg.run, Pg.log, ih]
  | kill c ts k ih => simp only [Pg.bind, Pg.run, Pg.log, ih]
theorem callP_lim {g : Nat → Nat → List AV → Option CRes} {cf : Nat → List AV → Option CRes} (hg : ∀ f as r, cf f as = some r → Lim (fun k => g k f as) r) {dst : Option Nat} {f : Nat} {as : List AV} {ls : List Nat} {x : Unit × List AV} (h : (callP K cf dst f as ls).run σ = some x) :
    ∃ k0, ∀ k, k0 ≤ k → (callP K (g k) dst f as ls).run σ = some x ∧ ∀ L, (callP K (g k) dst f as ls).log σ L = (callP K cf dst f as ls).log σ L := by
  unfold callP at h ⊢
  cases hc : cf f as with
  | none => rw [hc] at h; simp [Pg.opt, Pg.bind, Pg.run] at h
  | some r =>
    rw [hc] at h
    obtain ⟨k0, hk⟩ := hg f as r hc
    refine ⟨k0, fun k hk' => ?_⟩
    have e : g k f as = some r := hk k hk'
    rw [e]
    exact ⟨h, fun _ => rfl⟩
def isCall : IOp → Bool
  | .call _ _ | .callv _ _ => true
  | _ => false
theorem opP_same {cf cf' : Nat → List AV → Option CRes} {dst : Option Nat} {op : IOp} (h : isCall op = false) : opP K cf dst op = opP K cf' dst op := by
  cases op with
  | call f args => simp [isCall] at h
  | callv x args => simp [isCall] at h
  | mov x => cases x <;> rfl
  | asg x => cases x <;> rfl
  | frz x => cases x <;> rfl
  | nilchk x => cases x <;> rfl
  | ext x i => cases x <;> rfl
  | len b x => cases b <;> rfl
  | _ => rfl
theorem op_lim {g : Nat → Nat → List AV → Option CRes} {cf : Nat → List AV → Option CRes} (hg : ∀ f as r, cf f as = some r → Lim (fun k => g k f as) r) {dst : Option Nat} {op : IOp} {x : Unit × List AV} (h : (opP K cf dst op).run σ = some x) :
    ∃ k0, ∀ k, k0 ≤ k → (opP K (g k) dst op).run σ = some x ∧ ∀ L, (opP K (g k) dst op).log σ L = (opP K cf dst op).log σ L := by
  cases op with
  | call f args =>
    simp only [opP, run_bind_eq, log_bind_eq] at h ⊢
    cases ha : (argsP K args).run σ with
    | none => rw [ha] at h; simp at h
    | some y =>
      obtain ⟨⟨as, ls⟩, σ1⟩ := y
      rw [ha] at h
      simp only [Option.bind_some] at h
      obtain ⟨k0, hk⟩ := callP_lim hg h
      exact ⟨k0, fun k hk' => ⟨by simpa using (hk k hk').1, fun L => by simp only [(hk k hk').2]⟩⟩
  | callv x args =>
    cases x with
    | c v => simp [opP, Pg.run] at h
    | t i =>
      simp only [opP, Pg.run, Pg.log] at h ⊢
      generalize σ.getD i .u = v at h ⊢
      cases v with
      | u | w | a | t | box | ptr | fp | al | sv => simp [Pg.run] at h
      | clo f caps =>
      simp only [run_bind_eq, log_bind_eq] at h ⊢
      cases ha : (argsP K args).run σ with
      | none => rw [ha] at h; simp at h
      | some y =>
        obtain ⟨⟨as, ls⟩, σ1⟩ := y
        rw [ha] at h
        simp only [Option.bind_some, run_bind_eq] at h
        cases hb : (capsP K caps).run σ1 with
        | none => rw [hb] at h; simp at h
        | some z =>
          obtain ⟨⟨cs, ms⟩, σ2⟩ := z
          rw [hb] at h
          simp only [Option.bind_some] at h
          obtain ⟨k0, hk⟩ := callP_lim hg h
          exact ⟨k0, fun k hk' => ⟨by simpa [run_bind_eq, hb] using (hk k hk').1, fun L => by simp only [log_bind_eq, run_bind_eq, hb, (hk k hk').2]⟩⟩
  | _ => exact ⟨0, fun k _ => ⟨by rw [opP_same (cf' := cf) rfl]; exact h, fun L => by rw [opP_same (cf' := cf) rfl]⟩⟩
theorem oper_lim {g : Nat → Nat → List AV → Option CRes} {cf : Nat → List AV → Option CRes} (hg : ∀ f as r, cf f as = some r → Lim (fun k => g k f as) r) {o : IOper} {x : Unit × List AV} (h : (operP K cf o).run σ = some x) :
    ∃ k0, ∀ k, k0 ≤ k → (operP K (g k) o).run σ = some x ∧ ∀ L, (operP K (g k) o).log σ L = (operP K cf o).log σ L := by
  obtain ⟨d, op, gd⟩ := o
  cases gd with
  | none => exact op_lim hg h
  | some tw =>
    obtain ⟨t, want⟩ := tw
    simp only [operP, Pg.run, Pg.log] at h ⊢
    split at h
    · rename_i b hb
      split at h
      · rename_i hw
        obtain ⟨k0, hk⟩ := op_lim hg h
        refine ⟨k0, fun k hk' => ?_⟩
        simp only [hw, if_true]
        exact ⟨(hk k hk').1, fun L => by rw [(hk k hk').2]⟩
      · rename_i hw
        simp only [hw]
        exact ⟨0, fun _ _ => ⟨h, fun _ => rfl⟩⟩
    · simp [Pg.run] at h
theorem ops_lim {g : Nat → Nat → List AV → Option CRes} {cf : Nat → List AV → Option CRes} (hg : ∀ f as r, cf f as = some r → Lim (fun k => g k f as) r) : ∀ (os : List IOper) (σ : List AV), runOps K cf os σ = some σ' →
    ∃ k0, ∀ k, k0 ≤ k → runOps K (g k) os σ = some σ' ∧ logs K (g k) os σ = logs K cf os σ
  | [], σ, h => ⟨0, fun _ _ => ⟨h, rfl⟩⟩
  | o :: os, σ, h => by
    simp only [runOps, Option.bind_eq_some_iff] at h
    obtain ⟨⟨u, σ1⟩, h1, h2⟩ := h
    obtain ⟨k0, hk⟩ := oper_lim hg h1
    obtain ⟨k1, hk1⟩ := ops_lim hg os σ1 h2
    refine ⟨max k0 k1, fun k hk' => ?_⟩
    obtain ⟨a, b⟩ := hk k (by omega)
    obtain ⟨c, d⟩ := hk1 k (by omega)
    exact ⟨by simp only [runOps, a, Option.bind_some, c], by simp only [logs, a, b, h1, d]⟩
def Wp (E : Env) (K : Kills) (c : IC) (σ : List AV) (Q : Ex → List AV → Prop) : Prop := ∃ ex σ', Lim (fun k => evC E k K c σ) (ex, σ') ∧ Q ex σ'
def Lp (E : Env) (K : Kills) (a : IC) (Q : Ex → List AV → Prop) (ex : Ex) (σ : List AV) : Prop := ∃ ex' σ', Lim (fun k => evC.leap E k K a (some (ex, σ))) (ex', σ') ∧ Q ex' σ'
def thenW (R : List AV → Prop) (Q : Ex → List AV → Prop) : Ex → List AV → Prop
  | .nor, σ => R σ
  | ex, σ => Q ex σ
def blockW (id : Nat) (Q : Ex → List AV → Prop) : Ex → List AV → Prop
  | .exit id', σ => if id' = id then Q .nor σ else Q (.exit id') σ
  | ex, σ => Q ex σ
variable {Q Q' : Ex → List AV → Prop}
theorem Wp.mono {c : IC} (h : Wp E K c σ Q) (hq : ∀ ex σ', Q ex σ' → Q' ex σ') : Wp E K c σ Q' := by
  obtain ⟨ex, σ', h1, h2⟩ := h
  exact ⟨ex, σ', h1, hq _ _ h2⟩
theorem lim_ev {α : Type} {g : Nat → Option α} {x : α} (h : ∃ k0, ∀ k, k0 ≤ k → g (k + 1) = some x) : Lim g x := by
  obtain ⟨k0, hk⟩ := h
  refine ⟨k0 + 1, fun k hk' => ?_⟩
  obtain ⟨j, rfl⟩ : ∃ j, k = j + 1 := ⟨k - 1, by omega⟩
  exact hk j (by omega)
theorem calls_lim : ∀ f as r, ansOf E f as = some r → Lim (fun k => callBody E (evC E k) f as) r := fun f as r h => ansOf_eq.1 h
theorem wpI_skip (h : Q .nor σ) : Wp E K .skip σ Q := ⟨_, _, lim_ev ⟨0, fun k _ => rfl⟩, h⟩
theorem wpI_label {l : Nat} (h : Q .nor σ) : Wp E K (.label l) σ Q := ⟨_, _, lim_ev ⟨0, fun k _ => rfl⟩, h⟩
theorem wpI_exit {id : Nat} (h : Q (.exit id) σ) : Wp E K (.exit id) σ Q := ⟨_, _, lim_ev ⟨0, fun k _ => rfl⟩, h⟩
theorem wpI_goto {l : Nat} (h : Q (.goto l) σ) : Wp E K (.goto l) σ Q := ⟨_, _, lim_ev ⟨0, fun k _ => rfl⟩, h⟩
theorem wpI_ret (h : Q .ret σ) : Wp E K .ret σ Q := ⟨_, _, lim_ev ⟨0, fun k _ => rfl⟩, h⟩
theorem wpI_reg {os : List IOper} (h : runOps K (ansOf E) os σ = some σ1) (hq : Q .nor σ1) : Wp E K (.reg os) σ Q := by
  obtain ⟨k0, hk⟩ := ops_lim (g := fun k => callBody E (evC E k)) calls_lim os σ h
  exact ⟨_, _, lim_ev ⟨k0, fun k hk' => by simp only [evC, (hk k hk').1, Option.map_some]⟩, hq⟩
theorem wpI_draw {bfs : List (List Nat)} {os : List IOper} (h : runOps K (ansOf E) os σ = some σ1) (ha : apartAll bfs (logs K (ansOf E) os σ) = true) (hq : Q .nor σ1) : Wp E K (.draw bfs os) σ Q := by
  obtain ⟨k0, hk⟩ := ops_lim (g := fun k => callBody E (evC E k)) calls_lim os σ h
  exact ⟨_, _, lim_ev ⟨k0, fun k hk' => by simp only [evC, (hk k hk').1, (hk k hk').2, ha, if_true, Option.map_some]⟩, hq⟩
theorem wpI_seq {a b : IC} (h : Wp E K a σ (thenW (fun σ1 => Wp E K b σ1 Q) Q)) : Wp E K (.seq a b) σ Q := by
  obtain ⟨ex, σ1, ⟨k0, h1⟩, h2⟩ := h
  cases ex with
  | nor =>
    obtain ⟨ex, σ2, ⟨k1, h3⟩, h4⟩ := h2
    exact ⟨ex, σ2, lim_ev ⟨max k0 k1, fun k hk => by simp only [evC, h1 k (by omega), h3 k (by omega)]⟩, h4⟩
  | exit id => exact ⟨_, σ1, lim_ev ⟨k0, fun k hk => by simp only [evC, h1 k (by omega)]⟩, h2⟩
  | goto l => exact ⟨_, σ1, lim_ev ⟨k0, fun k hk => by simp only [evC, h1 k (by omega)]⟩, h2⟩
  | ret => exact ⟨_, σ1, lim_ev ⟨k0, fun k hk => by simp only [evC, h1 k (by omega)]⟩, h2⟩
theorem wpI_cond {x : Od} {a b : IC} {t : Bool} (hc : (sc x).run σ = some (.bool t, σ1)) (h1 : t = true → Wp E K a σ Q) (h2 : t = false → Wp E K b σ Q) : Wp E K (.cond x a b) σ Q := by
  have h : Wp E K (if t then a else b) σ Q := by cases t <;> simp_all
  obtain ⟨ex, σ2, ⟨k0, h3⟩, h4⟩ := h
  exact ⟨ex, σ2, lim_ev ⟨k0, fun k hk => by simp only [evC, hc]; exact h3 k hk⟩, h4⟩
theorem wpI_block {id : Nat} {a : IC} (h : Wp E K a σ (blockW id Q)) : Wp E K (.block id a) σ Q := by
  obtain ⟨ex, σ1, ⟨k0, h1⟩, h2⟩ := h
  cases ex with
  | exit id' =>
    simp only [blockW] at h2
    split at h2
    · rename_i e
      exact ⟨_, σ1, lim_ev ⟨k0, fun k hk => by simp only [evC, h1 k (by omega), if_pos e]⟩, h2⟩
    · rename_i e
      exact ⟨_, σ1, lim_ev ⟨k0, fun k hk => by simp only [evC, h1 k (by omega), if_neg e]⟩, h2⟩
  | nor => exact ⟨_, σ1, lim_ev ⟨k0, fun k hk => by simp only [evC, h1 k (by omega)]⟩, h2⟩
  | goto l => exact ⟨_, σ1, lim_ev ⟨k0, fun k hk => by simp only [evC, h1 k (by omega)]⟩, h2⟩
  | ret => exact ⟨_, σ1, lim_ev ⟨k0, fun k hk => by simp only [evC, h1 k (by omega)]⟩, h2⟩
theorem wpI_loop {a : IC} (h : Wp E K a σ (thenW (fun σ1 => Wp E K (.loop a) σ1 Q) Q)) : Wp E K (.loop a) σ Q := by
  obtain ⟨ex, σ1, ⟨k0, h1⟩, h2⟩ := h
  cases ex with
  | nor =>
    obtain ⟨ex, σ2, ⟨k1, h3⟩, h4⟩ := h2
    exact ⟨ex, σ2, lim_ev ⟨max k0 k1, fun k hk => by simp only [evC, h1 k (by omega), h3 k (by omega)]⟩, h4⟩
  | exit id => exact ⟨_, σ1, lim_ev ⟨k0, fun k hk => by simp only [evC, h1 k (by omega)]⟩, h2⟩
  | goto l => exact ⟨_, σ1, lim_ev ⟨k0, fun k hk => by simp only [evC, h1 k (by omega)]⟩, h2⟩
  | ret => exact ⟨_, σ1, lim_ev ⟨k0, fun k hk => by simp only [evC, h1 k (by omega)]⟩, h2⟩
theorem lp_nor {a : IC} (h : Q .nor σ) : Lp E K a Q .nor σ := ⟨_, _, lim_ev ⟨0, fun k _ => rfl⟩, h⟩
theorem lp_ret {a : IC} (h : Q .ret σ) : Lp E K a Q .ret σ := ⟨_, _, lim_ev ⟨0, fun k _ => rfl⟩, h⟩
theorem lp_exit {a : IC} {id : Nat} (h : Q (.exit id) σ) : Lp E K a Q (.exit id) σ := ⟨_, _, lim_ev ⟨0, fun k _ => rfl⟩, h⟩
theorem lp_goto {a rest : IC} {l : Nat} (hr : a.after l = some rest) (h : Wp E K rest σ (Lp E K a Q)) : Lp E K a Q (.goto l) σ := by
  obtain ⟨ex, σ1, ⟨k0, h1⟩, ex', σ', ⟨k1, h2⟩, h3⟩ := h
  exact ⟨ex', σ', lim_ev ⟨max k0 k1, fun k hk => by simp only [evC.leap, hr, h1 k (by omega), h2 k (by omega)]⟩, h3⟩
theorem wpI_scope {a : IC} (h : Wp E K a σ (Lp E K a Q)) : Wp E K (.scope a) σ Q := by
  obtain ⟨ex, σ1, ⟨k0, h1⟩, ex', σ', ⟨k1, h2⟩, h3⟩ := h
  exact ⟨ex', σ', lim_ev ⟨max k0 k1, fun k hk => by simp only [evC, h1 k (by omega), h2 k (by omega)]⟩, h3⟩
def doneW (i : IFn) (as : List AV) (r : CRes) (ex : Ex) (σ : List AV) : Prop :=
  (ex = .nor ∨ ex = .ret) ∧ (((resP i.kills i.res).run σ).bind fun (rs, σ) => ((backP i.kills i.keeps as 0).run σ).bind fun (bs, _) => some (rs, bs)) = some r
theorem ans_of_wp {f : Nat} {i : IFn} {as : List AV} {r : CRes} (hx : E.ext f = none) (hp : E.prog f = some i) (hn : as.length = i.np ∧ i.np ≤ i.nt) (h : Wp E i.kills i.body (as ++ List.replicate (i.nt - i.np) .u) (doneW i as r)) : ansOf E f as = some r := by
  rw [ansOf_eq]
  obtain ⟨ex, σ1, ⟨k0, h1⟩, hex, h3⟩ := h
  refine ⟨k0, fun k hk => ?_⟩
  simp only [callF, callBody, hx, hp, bodyOf, if_pos hn, h1 k hk]
  rcases hex with rfl | rfl <;> exact h3
theorem ans_ext {f : Nat} {g : List AV → Option CRes} {as : List AV} {r : CRes} (hx : E.ext f = some g) (h : g as = some r) : ansOf E f as = some r := by
  rw [ansOf_eq]
  exact ⟨0, fun k _ => by simp only [callF, callBody, hx, h]⟩
theorem callF_of_ans {f : Nat} {as : List AV} {r : CRes} (h : ansOf E f as = some r) : ∃ k, callF E k f as = some r := by
  obtain ⟨k0, hk⟩ := ansOf_eq.1 h
  exact ⟨k0, hk k0 (Nat.le_refl _)⟩
end
end Go.Pv
end

section
namespace Go.Pv
set_option linter.unusedVariables false
set_option linter.unusedSimpArgs false
section
variable {K : Kills} {E : Env} {σ σ' : List AV}
theorem ops_mono {cf cf' : Nat → List AV → Option CRes} (h : ∀ f as r, cf f as = some r → cf' f as = some r) {os : List IOper} (hr : runOps K cf os σ = some σ') : runOps K cf' os σ = some σ' ∧ logs K cf' os σ = logs K cf os σ := by
  obtain ⟨k0, hk⟩ := ops_lim (g := fun _ => cf') (fun f as r hf => ⟨0, fun _ _ => h f as r hf⟩) os σ hr
  exact hk k0 (Nat.le_refl _)
def Le (g g' : Kills → IC → List AV → Option (Ex × List AV)) : Prop := ∀ K c σ r, g K c σ = some r → g' K c σ = some r
theorem body_mono {g g' : Kills → IC → List AV → Option (Ex × List AV)} (h : Le g g') : ∀ f as r, callBody E g f as = some r → callBody E g' f as = some r := by
  intro f as r hr
  unfold callBody at hr ⊢
  split at hr
  · exact hr
  · split at hr
    · rename_i i hi
      unfold bodyOf at hr ⊢
      split at hr
      · rename_i hn
        rw [if_pos hn]
        split at hr
        · rename_i σ1 h1; rw [h _ _ _ _ h1]; exact hr
        · rename_i σ1 h1; rw [h _ _ _ _ h1]; exact hr
        · simp at hr
      · simp at hr
    · simp at hr
theorem leap_mono {a : IC} : ∀ (k : Nat), (∀ j, j < k → Le (evC E j) (evC E (j + 1))) → ∀ (x : Option (Ex × List AV)) (r : Ex × List AV), evC.leap E k K a x = some r → evC.leap E (k + 1) K a x = some r
  | 0, _, x, r, h => by simp [evC.leap] at h
  | k + 1, hE, x, r, h => by
    cases x with
    | none => simp [evC.leap] at h
    | some y =>
      obtain ⟨ex, σ1⟩ := y
      cases ex with
      | goto l =>
        simp only [evC.leap] at h ⊢
        split at h
        · rename_i rest hr
          cases hx : evC E k K rest σ1 with
          | none => rw [hx] at h; cases k <;> simp [evC.leap] at h
          | some z =>
            rw [hx] at h
            rw [hE k (Nat.lt_succ_self k) _ _ _ _ hx]
            exact leap_mono k (fun j hj => hE j (by omega)) _ _ h
        · simp at h
      | nor => simpa [evC.leap] using h
      | exit id => simpa [evC.leap] using h
      | ret => simpa [evC.leap] using h
theorem evC_reg {k : Nat} {os : List IOper} : evC E (k + 1) K (.reg os) σ = (runOps K (callBody E (evC E k)) os σ).map (Ex.nor, ·) := rfl
theorem evC_draw {k : Nat} {bfs : List (List Nat)} {os : List IOper} : evC E (k + 1) K (.draw bfs os) σ = if apartAll bfs (logs K (callBody E (evC E k)) os σ) then (runOps K (callBody E (evC E k)) os σ).map (Ex.nor, ·) else none := rfl
theorem evC_loop {k : Nat} {a : IC} : evC E (k + 1) K (.loop a) σ = match evC E k K a σ with | some (.nor, σ') => evC E k K (.loop a) σ' | r => r := rfl
theorem evC_seq {k : Nat} {a b : IC} : evC E (k + 1) K (.seq a b) σ = match evC E k K a σ with | some (.nor, σ') => evC E k K b σ' | r => r := rfl
theorem evC_cond {k : Nat} {x : Od} {a b : IC} : evC E (k + 1) K (.cond x a b) σ = match (sc x).run σ with | some (.bool t, _) => evC E k K (if t then a else b) σ | _ => none := rfl
theorem evC_block {k id : Nat} {a : IC} : evC E (k + 1) K (.block id a) σ = match evC E k K a σ with | some (.exit id', σ') => if id' = id then some (.nor, σ') else some (.exit id', σ') | r => r := rfl
theorem evC_scope {k : Nat} {a : IC} : evC E (k + 1) K (.scope a) σ = evC.leap E k K a (evC E k K a σ) := rfl
theorem ev_mono : ∀ k, Le (evC E k) (evC E (k + 1)) := by
  intro k
  induction k using Nat.strongRecOn with
  | _ k ih =>
    intro K c σ r h
    cases k with
    | zero => simp [evC] at h
    | succ k =>
      have hk := ih k (Nat.lt_succ_self k)
      have hb := body_mono (E := E) hk
      cases c with
      | reg os =>
        rw [evC_reg] at h ⊢
        simp only [Option.map_eq_some_iff] at h ⊢
        obtain ⟨σ1, h1, h2⟩ := h
        exact ⟨σ1, (ops_mono hb h1).1, h2⟩
      | draw bfs os =>
        rw [evC_draw] at h ⊢
        split at h
        · rename_i ha
          simp only [Option.map_eq_some_iff] at h
          obtain ⟨σ1, h1, h2⟩ := h
          obtain ⟨a1, a2⟩ := ops_mono hb h1
          rw [a2, if_pos ha, a1, ← h2]
          rfl
        · simp at h
      | seq a b =>
        rw [evC_seq] at h ⊢
        split at h
        · rename_i σ1 h1
          rw [hk _ _ _ _ h1]
          exact hk _ _ _ _ h
        · rename_i hno
          rw [hk _ _ _ _ h]
          obtain ⟨ex, σ1⟩ := r
          cases ex <;> first | rfl | exact absurd h (hno _)
      | cond x a b =>
        rw [evC_cond] at h ⊢
        split at h
        · exact hk _ _ _ _ h
        · simp at h
      | block id a =>
        rw [evC_block] at h ⊢
        cases ha : evC E k K a σ with
        | none => rw [ha] at h; simp at h
        | some y => rw [hk _ _ _ _ ha]; rw [ha] at h; exact h
      | loop a =>
        rw [evC_loop] at h ⊢
        split at h
        · rename_i σ1 h1
          rw [hk _ _ _ _ h1]
          exact hk _ _ _ _ h
        · rename_i hno
          rw [hk _ _ _ _ h]
          obtain ⟨ex, σ1⟩ := r
          cases ex <;> first | rfl | exact absurd h (hno _)
      | scope a =>
        rw [evC_scope] at h ⊢
        cases ha : evC E k K a σ with
        | none => rw [ha] at h; cases k <;> simp [evC.leap] at h
        | some y =>
          rw [hk _ _ _ _ ha]
          rw [ha] at h
          exact leap_mono k (fun j hj => ih j (by omega)) _ _ h
      | skip => simpa [evC] using h
      | label l => simpa [evC] using h
      | exit id => simpa [evC] using h
      | goto l => simpa [evC] using h
      | ret => simpa [evC] using h
theorem ans_run {k f : Nat} {as : List AV} {r : CRes} (h : callF E k f as = some r) : ansOf E f as = some r := by
  rw [ansOf_eq]
  refine ⟨k, fun j hj => ?_⟩
  induction hj with
  | refl => exact h
  | step _ ih => exact body_mono (E := E) (ev_mono _) _ _ _ ih
end
end Go.Pv
end

section
namespace Go.Pv
open Go.RowKit
set_option linter.unusedVariables false
set_option linter.unusedSimpArgs false
def noEnv : Env := ⟨fun _ => none, fun _ => none⟩
section
variable {P : Program} {B : Base} {K : Kills} {σ σ' : List AV} {w : World} {a : Act} {o : Oper} {Kt : Act → World → Prop} {Q : Exit → Act → World → Prop} {G : List Nat} {v0 : Nat → Option Value}
theorem noEnv_good {k : Nat} : GoodF P (callBody noEnv (evC noEnv k)) := fun f as r h => by simp [callBody, noEnv] at h
theorem noEnv_ev (hm : P.follows .mixedOrders = true) (k : Nat) : EvOk P noEnv k := ev_ok hm k fun _ _ => noEnv_good
theorem nil_eql (w : World) (t e : TypeId) (a : Option Addr) (n c : Nat) (h : P.underlying t = some (.slice e)) :
    (Go.binOp .eql t (.slice a n c) (.slice none 0 0)).run P w = .ok (.bool a.isNone) w := by
  simp only [Go.binOp]
  simp [Op.equal, Op.maxDepth, Lib.run_equalIn_slice_nil w 9999 t e a n c 0 0 h]
theorem fits_of {z : Nat} {els : List (List PV)} {Fz : BSet} {v : Value} (h : RepP w Fz (.sl z els) v) : ∃ a len cap, v = .slice a len cap ∧ (a = none → els = []) := by
  cases h with
  | nil z a cap => exact ⟨a, 0, cap, rfl, fun _ => rfl⟩
  | sl z els a cap vs => exact ⟨some a, _, cap, rfl, fun h => by simp at h⟩
def cloneI (z : Nat) : IFn := ⟨1, 8, [.tmp 2], [], [], .skip⟩
def cloneB (z : Nat) : IC := .seq (.reg [⟨some 2, .asg (.c (.w (.own z []))), none⟩]) .ret
def cloneC (z bytes : Nat) (zero : List OV) : IC := .seq (.reg [⟨some 5, .bslice z zero 0 [], none⟩, ⟨some 6, .mov (.t 0), none⟩, ⟨some 7, .app z bytes (.t 5) (.t 6) false, none⟩, ⟨some 2, .asg (.t 7), none⟩]) .ret
def CloneText (P : Program) (F : Func) (z bytes : Nat) (zero : List OV) : Prop :=
  ∃ (x : Code) (id : Nat) (o0 o1 : Oper) (b c : Code) (t e : TypeId) (u : TypeId), F.body = some (.seq x (.seq (.seq (.region id #[o0, o1] false) (.cond (.tmp 4) b .skip)) c)) ∧ codeOf P [] [] x = some (.reg [⟨some 2, .asg (.c (.w (.own z []))), none⟩]) ∧
    operOf P [] [] #[o0, o1] o0 = some ⟨some 3, .mov (.t 0), none⟩ ∧ o1.dst = some 4 ∧ o1.guard = none ∧ o1.op = .binOp .eql t (.tmp 3) (.const (.slice none 0 0)) u ∧ P.underlying t = some (.slice e) ∧ codeOf P [] [] b = some (cloneB z) ∧ codeOf P [] [] c = some (cloneC z bytes zero) ∧
    ressOf P F.results.toList = some [.tmp 2] ∧ F.ntmps = 8
def cloneE (z bytes : Nat) : List AV → Option CRes
  | [.w (.p (.sl z' els))] => if z' = z ∧ els.length ≤ 140737488351232 ∧ els.length * bytes ≤ 140737488351232 then some ([(false, [.own z (plains els)])], []) else none
  | _ => none
theorem clone_ok {f : Nat} {F : Func} {z bytes : Nat} {zero : List OV} (hm : P.follows .mixedOrders = true) (hf : P.funcs[f]? = some F) (hn : F.name ≠ "runtime.NumGoroutine") (ht : CloneText P F z bytes zero) (hz : 0 < z) :
    ∀ as r, cloneE z bytes as = some r → FnOk P f ∧ CallOk P f as r := by
  intro as r hr
  obtain ⟨x, id, o0, o1, b, c, t, e, u, hb, hx, h0, hd, hgd, ho, hu, hcb, hcc, hres, hnt⟩ := ht
  refine ⟨⟨F, hf, by simp [hb], hn⟩, ?_⟩
  unfold cloneE at hr
  split at hr
  case h_2 => simp at hr
  rename_i z' els
  split at hr
  case isFalse => simp at hr
  rename_i hc
  obtain ⟨rfl, hl1, hl2⟩ := hc
  simp only [Option.some.injEq] at hr
  subst hr
  refine body_wp (i := cloneI z') hf hb hres hnt.symm ⟨rfl, Nat.le_of_ble_eq_true rfl⟩ fun B0 v0 a0 w hI _ => ?_
  simp only [cloneI] at hI ⊢
  refine wp_seq (noEnv_ev hm 9 B0 [] [] v0 [] x _ _ [.w (.p (.sl z' els)), .u, .w (.own z' []), .u, .u, .u, .u, .u] .nor a0 w _ hx rfl hI fun a1 w1 hI1 => ?_)
  refine wp_seq (wp_seq (wp_region ?_))
  show wpOps P #[o0, o1] _ [0, 1] a1 w1
  rw [wpOps_cons]
  refine oper_sound (callf := callBody noEnv (evC noEnv 0)) (σ' := [.w (.p (.sl z' els)), .u, .w (.own z' []), .w (.p (.sl z' els)), .u, .u, .u, .u]) (u := ()) noEnv_good (o := o0) rfl h0 hI1 rfl fun a2 w2 hI2 => ?_
  rw [wpOps_cons]
  have key : ∀ bl : Bool, (bl = true → els = []) → ∀ a3 w3, InvK B0 [] [] v0 [.w (.p (.sl z' els)), .u, .w (.own z' []), .w (.p (.sl z' els)), .w (.p (.bool bl)), .u, .u, .u] a3 w3 →
      (Code.cond (.tmp 4) b .skip).wp P (Exit.then (c.wp P (fun e a' w' => ∃ (ex : Ex) (σ1 : List AV), e = ex.exit' ∧ (ex = .nor ∨ ex = .ret) ∧ InvK B0 [] [] v0 σ1 a' w' ∧ ((resP [] [.tmp 2]).run σ1).bind (fun x => ((backP [] [] [.w (.p (.sl z' els))] 0).run x.2).bind fun y => some (x.1, y.1)) = some ([(false, [.own z' (plains els)])], []))) (fun e a' w' => ∃ (ex : Ex) (σ1 : List AV), e = ex.exit' ∧ (ex = .nor ∨ ex = .ret) ∧ InvK B0 [] [] v0 σ1 a' w' ∧ ((resP [] [.tmp 2]).run σ1).bind (fun x => ((backP [] [] [.w (.p (.sl z' els))] 0).run x.2).bind fun y => some (x.1, y.1)) = some ([(false, [.own z' (plains els)])], []))) a3 w3 := by
    intro bl hbl a3 w3 hI3
    refine (wp_cond (cond_ok (c := .t 4) rfl hI3 rfl) ?_)
    cases bl with
    | true =>
      obtain rfl := hbl rfl
      rw [if_pos rfl]
      refine noEnv_ev hm 9 B0 [] [] v0 [] b _ _ [.w (.p (.sl z' [])), .u, .w (.own z' []), .w (.p (.sl z' [])), .w (.p (.bool true)), .u, .u, .u] .ret a3 w3 _ hcb rfl hI3 fun a4 w4 hI4 => ?_
      exact ⟨.ret, _, rfl, .inr rfl, hI4, rfl⟩
    | false =>
      rw [if_neg (by simp)]
      refine wp_skip ?_
      refine noEnv_ev hm 9 B0 [] [] v0 [] c (cloneC z' bytes zero) _ [.w (.p (.sl z' els)), .u, .w (.own z' (plains els)), .w (.p (.sl z' els)), .w (.p (.bool false)), .u, .w (.p (.sl z' els)), .u] .ret a3 w3 _ hcc ?_ hI3 fun a4 w4 hI4 => ?_
      · have e1 : ([] : List (List OV)) ++ plains els = plains els := rfl
        simp only [cloneC, evC, runOps, operP, opP, out, wr, killIf, killL_nil, Pg.bind, Pg.run, List.getD_cons_succ, List.getD_cons_zero, List.set_cons_succ, List.set_cons_zero, Option.bind_some, movPtr, movVal, val, valOf, sc, outVal, take, AV.mk, Pg.opt, Pg.guard, plainAll, List.all_cons, List.all_nil, OV.plain, AV.on, ite_true, ite_false, Bool.and_true, Bool.not_false, Bool.false_eq_true, Bool.true_and, bsliceP, List.replicate, copy, OV.frzs, OV.frz, List.map_cons, List.map_nil, Bool.and_self, decide_eq_true_eq, List.length_nil, Nat.zero_add, hl1, hl2, Bool.and_eq_true, beq_self_eq_true, and_self, decide_true, List.getD_nil]
        rfl
      · exact ⟨.ret, _, rfl, .inr rfl, hI4, rfl⟩
  unfold wpOp
  have e1 : (#[o0, o1] : Array Oper)[1]? = some o1 := rfl
  rw [e1]
  simp only
  rw [if_pos (by simp [Region.wanted, hgd])]
  refine .inl ?_
  obtain ⟨⟨hdf, hsz, Fz, S, hst, hfree⟩, hkeep⟩ := hI2
  have hr3 := hst.rep 3
  have hr3' : RepP w2 Fz (.sl z' els) (valsOf a2 3) := by cases hr3 with | p h => exact h
  obtain ⟨ad, len, cap, e3, hnil⟩ := fits_of hr3'
  have hev : a2.eval (.tmp 3) = .slice ad len cap := by
    rw [← e3]
    exact (odOf_ok (P := P) (t := t) (x := .tmp 3) (od := .t 3) (a := a2) rfl).symm
  refine wp_value (x := .bool ad.isNone) (w' := w2) ?_ ?_
  · have e4 : a2.eval (.const (.slice none 0 0)) = .slice none 0 0 := rfl
    have e5 : (eqGuard .eql t (.tmp 3) (.const (.slice none 0 0)) (.slice ad len cap) (.slice none 0 0)).run P w2 = .ok () w2 := by
      unfold eqGuard; split <;> rfl
    simp only [execOp, ho, hev, e4, Sem.run_bind, e5, Result.andThen_ok, nil_eql w2 t e ad len cap hu, Sem.run_pure]
  · rw [hd]
    refine key ad.isNone (fun h => hnil (by simpa using h)) _ _ ⟨?_, fun t ht => by simp at ht⟩
    exact fin_p (hd := 8) (dst := some 4) (c := .bool ad.isNone) hst hdf hsz (Nat.le_refl _) (Inv.free hfree _) (u := ()) rfl (.bool _)
end
end Go.Pv
end

section
namespace Go.Pv
set_option linter.unusedVariables false
set_option linter.unusedSimpArgs false
abbrev Asc := List (Nat × AV)
def look : Asc → Nat → AV
  | [], _ => .u
  | (t', v) :: r, t => if t' = t then v else look r t
def del (t : Nat) : Asc → Asc
  | [] => []
  | (t', w) :: r => if t' = t then del t r else (t', w) :: del t r
def insV (t : Nat) (v : AV) : Asc → Asc
  | [] => [(t, v)]
  | (t', w) :: r => if t' = t then (t, v) :: r else if t < t' then (t, v) :: (t', w) :: r else (t', w) :: insV t v r
def ins (t : Nat) (v : AV) (l : Asc) : Asc :=
  match v with
  | .u => del t l
  | v => insV t v l
def keepS (ks : List Nat) : Asc → Asc
  | [] => []
  | (t, v) :: r => if ks.contains t then (t, v) :: keepS ks r else keepS ks r
def sortedK : Nat → Asc → Bool
  | _, [] => true
  | k, (t, _) :: r => Nat.ble k t && sortedK (t + 1) r
def killF (c : AV → Bool) (ts : List Nat) : Asc → Asc
  | [] => []
  | (t, v) :: r => if c v then (if ts.contains t then killF c ts r else (t, v) :: killF c ts r) else (t, v) :: killF c ts r
namespace Pg
def runS {α : Type} (n : Nat) : Pg α → Asc → Option (α × Asc)
  | .ret x, l => some (x, l)
  | .fail, _ => none
  | .get t k, l => (k (look l t)).runS n l
  | .put t v k, l => if t < n then k.runS n (ins t v l) else none
  | .kill c ts k, l => k.runS n (killF c ts l)
def logS {α : Type} (n : Nat) : Pg α → Asc → Lg → Lg
  | .ret _, _, L | .fail, _, L => L
  | .get t k, l, L => (k (look l t)).logS n l (L.rd t (look l t))
  | .put t v k, l, L => k.logS n (ins t v l) (L.wt t v)
  | .kill c ts k, l, L => k.logS n (killF c ts l) (L.ki c ts)
end Pg
theorem look_insV (t : Nat) (v : AV) : ∀ (l : Asc) (t' : Nat), look (insV t v l) t' = if t = t' then v else look l t'
  | [], t' => rfl
  | (s, w) :: r, t' => by
    unfold insV
    split
    · rename_i h; subst h
      simp only [look]
      split <;> rfl
    · split
      · simp only [look]
      · rename_i h1 h2
        simp only [look, look_insV t v r]
        split
        · rename_i h3; rw [if_neg (by omega)]
        · rfl
theorem look_del (t : Nat) : ∀ (l : Asc) (t' : Nat), look (del t l) t' = if t = t' then .u else look l t'
  | [], t' => by simp [del, look]
  | (s, w) :: r, t' => by
    have ih := look_del t r t'
    unfold del
    split
    · rename_i h; subst h
      rw [ih]
      split
      · rfl
      · rename_i h2; simp only [look, if_neg h2]
    · rename_i h
      simp only [look, ih]
      split
      · rename_i h3; rw [if_neg (by omega)]
      · rfl
theorem look_ins (t : Nat) (v : AV) (l : Asc) (t' : Nat) : look (ins t v l) t' = if t = t' then v else look l t' := by
  unfold ins
  split
  · exact look_del t l t'
  · exact look_insV t _ l t'
theorem look_keep (ks : List Nat) : ∀ (l : Asc) (t : Nat), look (keepS ks l) t = .u ∨ look (keepS ks l) t = look l t
  | [], t => .inl rfl
  | (s, w) :: r, t => by
    have ih := look_keep ks r t
    simp only [keepS]
    split
    · simp only [look]; split
      · exact .inr rfl
      · exact ih
    · rename_i hc
      simp only [look]; split
      · rename_i he; subst he
        refine .inl ?_
        clear ih
        induction r with
        | nil => rfl
        | cons x r ih =>
          simp only [keepS]; split
          · rename_i h2; simp only [look]; split
            · rename_i h3; rw [h3] at h2; exact absurd h2 hc
            · exact ih
          · exact ih
      · exact ih
theorem sorted_lt : ∀ {l : Asc} {k t : Nat}, sortedK k l = true → t < k → look l t = .u
  | [], _, _, _, _ => rfl
  | (s, v) :: r, k, t, h, ht => by
    simp only [sortedK, Bool.and_eq_true, Nat.ble_eq] at h
    simp only [look]
    rw [if_neg (by omega)]
    exact sorted_lt h.2 (by omega)
theorem del_lt : ∀ {l : Asc} {k t : Nat}, sortedK k l = true → t < k → del t l = l
  | [], _, _, _, _ => rfl
  | (s, v) :: r, k, t, h, ht => by
    simp only [sortedK, Bool.and_eq_true, Nat.ble_eq] at h
    simp only [del]
    rw [if_neg (by omega), del_lt h.2 (by omega)]
theorem sorted_mono : ∀ {l : Asc} {k k' : Nat}, sortedK k l = true → k' ≤ k → sortedK k' l = true
  | [], _, _, _, _ => rfl
  | (s, v) :: r, k, k', h, ht => by
    simp only [sortedK, Bool.and_eq_true, Nat.ble_eq] at h ⊢
    exact ⟨by omega, h.2⟩
theorem sorted_del : ∀ {l : Asc} {k : Nat} (t : Nat), sortedK k l = true → sortedK k (del t l) = true
  | [], _, _, _ => rfl
  | (s, v) :: r, k, t, h => by
    simp only [sortedK, Bool.and_eq_true, Nat.ble_eq] at h
    simp only [del]
    split
    · exact sorted_mono (sorted_del t h.2) (by omega)
    · simp only [sortedK, Bool.and_eq_true, Nat.ble_eq]; exact ⟨h.1, sorted_del t h.2⟩
theorem sorted_insV (t : Nat) (v : AV) : ∀ {l : Asc} {k : Nat}, sortedK k l = true → k ≤ t → sortedK k (insV t v l) = true
  | [], k, _, hk => by simp [insV, sortedK, hk]
  | (s, w) :: r, k, h, hk => by
    simp only [sortedK, Bool.and_eq_true, Nat.ble_eq] at h
    simp only [insV]
    split
    · rename_i e; subst e
      simp only [sortedK, Bool.and_eq_true, Nat.ble_eq]; exact h
    · split
      · simp only [sortedK, Bool.and_eq_true, Nat.ble_eq]; exact ⟨hk, by omega, h.2⟩
      · simp only [sortedK, Bool.and_eq_true, Nat.ble_eq]; exact ⟨h.1, sorted_insV t v h.2 (by omega)⟩
theorem sorted_ins (t : Nat) (v : AV) {l : Asc} (h : sortedK 0 l = true) : sortedK 0 (ins t v l) = true := by
  unfold ins
  split
  · exact sorted_del t h
  · exact sorted_insV t _ h (by omega)
theorem sorted_killF (c : AV → Bool) (ts : List Nat) : ∀ {l : Asc} {k : Nat}, sortedK k l = true → sortedK k (killF c ts l) = true
  | [], _, _ => rfl
  | (s, w) :: r, k, h => by
    simp only [sortedK, Bool.and_eq_true, Nat.ble_eq] at h
    have ih := sorted_killF c ts h.2
    simp only [killF]
    split
    · split
      · exact sorted_mono ih (by omega)
      · simp only [sortedK, Bool.and_eq_true, Nat.ble_eq]; exact ⟨h.1, ih⟩
    · simp only [sortedK, Bool.and_eq_true, Nat.ble_eq]; exact ⟨h.1, ih⟩
theorem sorted_keep (ks : List Nat) : ∀ {l : Asc} {k : Nat}, sortedK k l = true → sortedK k (keepS ks l) = true
  | [], _, _ => rfl
  | (s, w) :: r, k, h => by
    simp only [sortedK, Bool.and_eq_true, Nat.ble_eq] at h
    have ih := sorted_keep ks h.2
    simp only [keepS]
    split
    · simp only [sortedK, Bool.and_eq_true, Nat.ble_eq]; exact ⟨h.1, ih⟩
    · exact sorted_mono ih (by omega)
theorem look_killF (c : AV → Bool) (ts : List Nat) : ∀ {l : Asc} {k : Nat}, sortedK k l = true → ∀ t, look (killF c ts l) t = if ts.contains t && c (look l t) then .u else look l t
  | [], _, _, t => by simp [killF, look]
  | (s, w) :: r, k, h, t => by
    simp only [sortedK, Bool.and_eq_true, Nat.ble_eq] at h
    have ih := look_killF c ts h.2 t
    by_cases e : s = t
    · subst e
      have hr : look (killF c ts r) s = .u := sorted_lt (sorted_killF c ts h.2) (by omega)
      simp only [killF, look, if_true]
      cases hc : c w with
      | true =>
        cases ht : ts.contains s with
        | true => simp [hr]
        | false => simp [look]
      | false => simp [look]
    · simp only [killF, look, if_neg e]
      split
      · split
        · exact ih
        · simp only [look, if_neg e]; exact ih
      · simp only [look, if_neg e]; exact ih
def Up (n : Nat) (l : Asc) (σ : List AV) : Prop := σ.length = n ∧ sortedK 0 l = true ∧ ∀ t, look l t = .u ∨ look l t = σ.getD t .u
theorem Up.keep {n : Nat} {l : Asc} {σ : List AV} (h : Up n l σ) (ks : List Nat) : Up n (keepS ks l) σ := ⟨h.1, sorted_keep ks h.2.1, fun t => by
  rcases look_keep ks l t with e | e
  · exact .inl e
  · rw [e]; exact h.2.2 t⟩
theorem Up.put {n t : Nat} {l : Asc} {σ : List AV} (h : Up n l σ) (ht : t < n) (v : AV) : Up n (ins t v l) (σ.set t v) := ⟨by simp [h.1], sorted_ins t v h.2.1, fun t' => by
  rw [look_ins]
  split
  · rename_i e; subst e
    right
    simp [h.1, ht]
  · rename_i e
    rcases h.2.2 t' with q | q
    · exact .inl q
    · right; rw [q]; simp [List.getD_eq_getElem?_getD, List.getElem?_set_ne e]⟩
theorem Up.kill {n : Nat} {l : Asc} {σ : List AV} {c : AV → Bool} {ts : List Nat} (h : Up n l σ) : Up n (killF c ts l) (killL c ts σ) := ⟨by rw [killL_len]; exact h.1, sorted_killF c ts h.2.1, fun t => by
  rw [look_killF c ts h.2.1, killL_get]
  rcases h.2.2 t with q | q
  · rw [q]; left; simp
  · rw [q]; right; rfl⟩
def Good {α : Type} (p : Pg α) : Prop := ∀ (n : Nat) (l : Asc) (σ : List AV) (x : α) (l' : Asc), Up n l σ → p.runS n l = some (x, l') → ∃ σ', p.run σ = some (x, σ') ∧ Up n l' σ' ∧ ∀ L, p.log σ L = p.logS n l L
section
variable {α β : Type}
theorem good_ret (x : α) : Good (.ret x) := fun n l σ y l' h hr => by
  simp only [Pg.runS, Option.some.injEq, Prod.mk.injEq] at hr
  obtain ⟨rfl, rfl⟩ := hr
  exact ⟨σ, rfl, h, fun _ => rfl⟩
theorem good_fail : Good (.fail : Pg α) := fun n l σ y l' h hr => by simp [Pg.runS] at hr
theorem runS_bind {n : Nat} (p : Pg α) (f : α → Pg β) (l : Asc) : (p.bind f).runS n l = (p.runS n l).bind fun r => (f r.1).runS n r.2 := by
  induction p generalizing l with
  | ret x => rfl
  | fail => rfl
  | get t k ih => exact ih _ _
  | put t v k ih =>
    simp only [Pg.bind, Pg.runS]
    split
    · exact ih _
    · rfl
  | kill c ts k ih => exact ih _
theorem logS_bind {n : Nat} (p : Pg α) (f : α → Pg β) (l : Asc) (L : Lg) {r : α × Asc} (h : p.runS n l = some r) : (p.bind f).logS n l L = (f r.1).logS n r.2 (p.logS n l L) := by
  induction p generalizing l L with
  | ret x =>
    simp only [Pg.runS, Option.some.injEq] at h
    subst h; simp [Pg.bind, Pg.logS]
  | fail => simp [Pg.runS] at h
  | get t k ih => simp only [Pg.bind, Pg.logS]; exact ih _ l _ h
  | put t v k ih =>
    simp only [Pg.runS] at h
    split at h
    · simp only [Pg.bind, Pg.logS]; exact ih _ _ h
    · simp at h
  | kill c ts k ih => simp only [Pg.bind, Pg.logS]; exact ih _ _ h
theorem good_bind {p : Pg α} {f : α → Pg β} (hp : Good p) (hf : ∀ x, Good (f x)) : Good (p.bind f) := fun n l σ y l' h hr => by
  rw [runS_bind] at hr
  obtain ⟨⟨x, l1⟩, h1, h2⟩ := Option.bind_eq_some_iff.1 hr
  obtain ⟨σ1, a1, a2, a3⟩ := hp n l σ x l1 h h1
  obtain ⟨σ2, b1, b2, b3⟩ := hf x n l1 σ1 y l' a2 h2
  refine ⟨σ2, ?_, b2, fun L => ?_⟩
  · rw [run_bind_eq, a1]; exact b1
  · rw [log_bind_eq, a1, logS_bind p f l L h1]
    simp only [a3, b3]
theorem good_get {t : Nat} {k : AV → Pg α} (hk : ∀ v, Good (k v)) (hu : ∀ n l, (k .u).runS n l = none) : Good (.get t k) := fun n l σ y l' h hr => by
  simp only [Pg.runS] at hr
  rcases h.2.2 t with e | e
  · rw [e, hu] at hr; simp at hr
  · obtain ⟨σ1, a1, a2, a3⟩ := hk _ n l σ y l' h hr
    rw [e] at a1 a3
    refine ⟨σ1, a1, a2, fun L => ?_⟩
    simp only [Pg.log, Pg.logS, e]
    exact a3 _
theorem good_put {t : Nat} {v : AV} {k : Pg α} (hk : Good k) : Good (.put t v k) := fun n l σ y l' h hr => by
  simp only [Pg.runS] at hr
  split at hr
  · rename_i ht
    obtain ⟨σ1, a1, a2, a3⟩ := hk n _ _ y l' (h.put ht v) hr
    refine ⟨σ1, a1, a2, fun L => ?_⟩
    simp only [Pg.log, Pg.logS]
    rw [if_pos (by rw [h.1]; exact ht)]
    exact a3 _
  · simp at hr
theorem good_killC {c : AV → Bool} {ts : List Nat} {k : Pg α} (hk : Good k) : Good (.kill c ts k) := fun n l σ y l' h hr => by
  obtain ⟨σ1, a1, a2, a3⟩ := hk n _ _ y l' h.kill hr
  exact ⟨σ1, a1, a2, fun L => a3 _⟩
theorem good_opt (x : Option α) : Good (Pg.opt x) := by cases x <;> first | exact good_fail | exact good_ret _
theorem good_guard (c : Bool) : Good (Pg.guard c) := by unfold Pg.guard; split <;> first | exact good_fail | exact good_ret _
theorem good_ite {c : Prop} [Decidable c] {p q : Pg α} (hp : Good p) (hq : Good q) : Good (if c then p else q) := by split <;> assumption
end
theorem good_kill (c : AV → Bool) (ts : List Nat) : Good (killIf c ts) := good_killC (good_ret _)
section
variable (K : Kills)
theorem good_wr (d : Nat) (v : AV) : Good (wr K d v) := good_bind (good_kill _ _) fun _ => good_put (good_ret _)
theorem good_killMem (d : Nat) : Good (killMem K d) := good_kill _ _
theorem good_killEl (d : Nat) (ts : List Nat) : Good (killIf (AV.onEl d) ts) := good_kill _ _
theorem good_getPl (pl : Pl) (n : Nat) : Good (getPl pl n) := good_get (fun v => good_opt _) fun m l => by cases pl <;> simp [getIn, AV.cells, slot, Pg.opt, Pg.runS]
theorem good_putPl (pl : Pl) (cs : List OV) : Good (putPl pl cs) := good_get (fun v => good_bind (good_opt _) fun _ => good_put (good_ret _)) fun m l => by cases pl <;> simp [putIn, AV.cells, slot, Pg.opt, Pg.runS, Pg.bind]
theorem good_valOf (x : Nat) (v : AV) : Good (valOf x v) := by
  unfold valOf
  split <;> first | exact good_ret _ | exact good_fail | skip
  · refine good_get (fun v => ?_) (fun m l => by simp [AV.cells, Pg.runS])
    split
    · split <;> first | exact good_ret _ | exact good_fail
    · exact good_fail
  · exact good_bind (good_getPl _ _) fun _ => good_ret _
  · refine good_get (fun v => ?_) (fun m l => by simp [Pg.runS])
    split
    · exact good_bind (good_opt _) fun _ => good_ret _
    · exact good_fail
  · exact good_bind (good_getPl _ _) fun _ => good_bind (good_opt _) fun _ => good_ret _
theorem good_val (x : Od) : Good (val x) := by
  unfold val
  split
  · split <;> first | exact good_ret _ | exact good_fail
  · exact good_get (fun v => good_valOf _ v) fun m l => by simp [valOf, Pg.runS]
theorem good_copy (v : Val) : Good (copy v) := by
  unfold copy
  split
  · exact good_ret _
  · split
    · split
      · exact good_ret _
      · exact good_bind (good_putPl _ _) fun _ => good_ret _
      · exact good_bind (good_getPl _ _) fun _ => good_bind (good_guard _) fun _ => good_bind (good_putPl _ _) fun _ => good_ret _
    · exact good_fail
theorem good_take (v : Val) : Good (take K v) := by
  unfold take
  split
  · exact good_ret _
  · split
    · exact good_ret _
    · exact good_bind (good_wr K _ _) fun _ => good_ret _
    · exact good_bind (good_putPl _ _) fun _ => good_bind (good_killEl _ _) fun _ => good_ret _
    · exact good_bind (good_wr K _ _) fun _ => good_ret _
    · exact good_bind (good_putPl _ _) fun _ => good_bind (good_killEl _ _) fun _ => good_ret _
theorem good_out (dst : Option Nat) (v : AV) : Good (out K dst v) := by unfold out; split <;> first | exact good_wr K _ _ | exact good_ret _
theorem good_outOn (dst : Option Nat) (h : Nat) (v : AV) : Good (outOn K dst h v) := by
  unfold outOn; split
  · exact good_ite (good_wr K _ _) good_fail
  · exact good_ret _
theorem good_outVal (dst : Option Nat) (ag : Bool) (cs : List OV) : Good (outVal K dst ag cs) := good_bind (good_opt _) fun _ => good_out K _ _
theorem good_sc (x : Od) : Good (sc x) := by
  refine good_bind (good_val x) fun v => ?_
  split <;> first | exact good_ret _ | exact good_fail
theorem good_scInt (x : Od) : Good (scInt x) := by
  refine good_bind (good_sc x) fun v => ?_
  split <;> first | exact good_ret _ | exact good_fail
theorem good_movPtr (dst : Option Nat) (i : Nat) (els : Pg Unit) (v : AV) (h : Good els) : Good (movPtr K dst i els v) := by
  unfold movPtr
  split <;> first | exact good_outOn K _ _ _ | exact good_out K _ _ | exact h | skip
  split
  · exact good_ite (good_wr K _ _) good_fail
  · exact good_ret _
theorem good_movVal (dst : Option Nat) (i : Nat) (v : AV) : Good (movVal K dst i v) := by
  unfold movVal
  split <;> first | exact good_outOn K _ _ _ | exact good_fail | exact good_bind (good_wr K _ _) (fun _ => good_out K _ _) | skip
  · exact good_ite (good_out K _ _) (good_outOn K _ _ _)
  · exact good_ite (good_out K _ _) (good_outOn K _ _ _)
theorem good_adr (x : Od) : Good (adr x) := by
  unfold adr
  split
  · refine good_get (fun v => ?_) fun m l => rfl
    split <;> first | exact good_ret _ | exact good_fail
  · exact good_fail
theorem good_build : ∀ (ps : List (Nat × Nat × Od)) (cs : List OV), Good (buildP K cs ps)
  | [], cs => good_ret _
  | (off, n, x) :: r, cs => good_bind (good_val x) fun v => good_bind (good_guard _) fun _ => good_bind (good_take K v) fun new => good_bind (good_opt _) fun cs' => good_build r cs'
theorem good_bslice (z : Nat) : ∀ (ps : List (Nat × Od)) (els : List (List OV)), Good (bsliceP K z els ps)
  | [], cs => good_ret _
  | (i, x) :: r, cs => good_bind (good_val x) fun v => good_bind (good_guard _) fun _ => good_bind (good_take K v) fun new => good_bslice z r _
theorem good_ends (len : Nat) (lo hi : Option Od) : Good (ends len lo hi) := by
  unfold ends
  refine good_bind ?_ fun a => good_bind ?_ fun b => good_ite (good_ret _) good_fail
  · split <;> first | exact good_scInt _ | exact good_ret _
  · split <;> first | exact good_scInt _ | exact good_ret _
theorem good_argP (x : Od × Bool) : Good (argP K x) := by
  unfold argP
  split
  · split <;> first | exact good_ret _ | exact good_fail | exact good_ite (good_ret _) good_fail
  · refine good_get (fun v => ?_) fun m l => ?_
    · split
      · exact good_bind (good_killMem K _) fun _ => good_put (good_ret _)
      · refine good_get (fun v => ?_) fun m l => rfl
        split
        · exact good_bind (good_killMem K _) fun _ => good_put (good_ret _)
        · exact good_fail
      · exact good_ret _
      · exact good_ite (good_ret _) good_fail
      · refine good_bind (good_valOf _ _) fun v => good_ite (good_bind (good_take K _) fun _ => good_bind (good_opt _) fun _ => good_ret _) (good_bind (good_copy _) fun _ => good_bind (good_opt _) fun _ => good_ret _)
    · simp [valOf, Pg.bind, Pg.runS]
theorem good_argsP : ∀ xs, Good (argsP K xs)
  | [] => good_ret _
  | x :: xs => good_bind (good_argP K x) fun (a, l) => good_bind (good_argsP xs) fun (as, ls) => good_ret _
theorem good_capsP : ∀ xs, Good (capsP K xs)
  | [] => good_ret _
  | x :: xs => by
    unfold capsP
    split
    · exact good_ret _
    · rename_i d r h
      obtain ⟨_, rfl⟩ := List.cons.inj h
      refine good_get (fun v => ?_) fun m l => rfl
      split
      · exact good_bind (good_killMem K _) fun _ => good_put (good_bind (good_capsP _) fun _ => good_ret _)
      · exact good_fail
    · rename_i h
      obtain ⟨_, rfl⟩ := List.cons.inj h
      exact good_ite (good_bind (good_capsP _) fun _ => good_ret _) good_fail
    · rename_i h
      obtain ⟨_, rfl⟩ := List.cons.inj h
      exact good_ite (good_bind (good_capsP _) fun _ => good_ret _) good_fail
    · exact good_fail
theorem good_giveBack : ∀ ls bs, Good (giveBack K ls bs)
  | [], [] => good_ret _
  | d :: ds, cs :: css => good_put (good_bind (good_killMem K _) fun _ => good_giveBack ds css)
  | [], _ :: _ => good_fail
  | _ :: _, [] => good_fail
theorem good_outRes (dst : Option Nat) (rs : List (Bool × List OV)) : Good (outRes K dst rs) := by
  unfold outRes
  split <;> first | exact good_outVal K _ _ _ | exact good_out K _ _
theorem good_callP (callf : Nat → List AV → Option CRes) (dst : Option Nat) (f : Nat) (as : List AV) (ls : List Nat) : Good (callP K callf dst f as ls) := by
  unfold callP
  exact good_bind (good_opt _) fun (rs, bs) => good_bind (good_giveBack K _ _) fun _ => good_outRes K _ _
def notU (l : List AV) : Bool := l.all fun v => !v.isU
theorem capsOn_notU (d : Nat) : ∀ cs, capsOn K d cs = true → notU cs = true
  | [], _ => rfl
  | c :: cs, h => by
    unfold capsOn at h
    split at h
    · rename_i e; simp at e
    · rename_i e; obtain ⟨rfl, rfl⟩ := List.cons.inj e
      simp only [Bool.and_eq_true] at h
      simpa [notU, AV.isU] using capsOn_notU d _ h.2
    · rename_i e; obtain ⟨rfl, rfl⟩ := List.cons.inj e
      simp only [Bool.and_eq_true] at h
      simpa [notU, AV.isU] using capsOn_notU d _ h.2
    · rename_i e; obtain ⟨rfl, rfl⟩ := List.cons.inj e
      simp only [Bool.and_eq_true] at h
      simpa [notU, AV.isU] using capsOn_notU d _ h.2
    · simp at h
theorem caps_good : ∀ (caps : List Od) (n : Nat) (l : Asc) (σ : List AV) (x : List AV) (l' : Asc), Up n l σ → (opP.capsM caps).runS n l = some (x, l') → notU x = true → ∃ σ', (opP.capsM caps).run σ = some (x, σ') ∧ Up n l' σ' ∧ ∀ L, (opP.capsM caps).log σ L = (opP.capsM caps).logS n l L
  | [], n, l, σ, x, l', h, hr, _ => good_ret _ n l σ x l' h hr
  | .c v :: r, n, l, σ, x, l', h, hr, hx => by
    simp only [opP.capsM] at hr ⊢
    rw [runS_bind] at hr
    obtain ⟨⟨y, l1⟩, h1, h2⟩ := Option.bind_eq_some_iff.1 hr
    simp only [Pg.runS, Option.some.injEq, Prod.mk.injEq] at h2
    obtain ⟨rfl, rfl⟩ := h2
    simp only [notU, List.all_cons, Bool.and_eq_true] at hx
    obtain ⟨σ1, a1, a2, a3⟩ := caps_good r n l σ y l1 h h1 hx.2
    refine ⟨σ1, by rw [run_bind_eq, a1]; rfl, a2, fun L => ?_⟩
    rw [log_bind_eq, a1, logS_bind _ _ l L h1]
    simp only [Pg.log, Pg.logS, a3]
  | .t i :: r, n, l, σ, x, l', h, hr, hx => by
    have key : ∀ v : AV, v.isU = false → ∀ (hr : (match v with | .box _ => (opP.capsM r).bind fun cs => Pg.ret (AV.ptr (.b i 0) :: cs) | v => (opP.capsM r).bind fun cs => Pg.ret (v :: cs)).runS n l = some (x, l')), ∃ σ', (match v with | .box _ => (opP.capsM r).bind fun cs => Pg.ret (AV.ptr (.b i 0) :: cs) | v => (opP.capsM r).bind fun cs => Pg.ret (v :: cs)).run σ = some (x, σ') ∧ Up n l' σ' ∧
        ∀ L, (match v with | .box _ => (opP.capsM r).bind fun cs => Pg.ret (AV.ptr (.b i 0) :: cs) | v => (opP.capsM r).bind fun cs => Pg.ret (v :: cs)).log σ L = (match v with | .box _ => (opP.capsM r).bind fun cs => Pg.ret (AV.ptr (.b i 0) :: cs) | v => (opP.capsM r).bind fun cs => Pg.ret (v :: cs)).logS n l L := by
      intro v hv hr
      have one : ∀ w : AV, ((opP.capsM r).bind fun cs => Pg.ret (w :: cs)).runS n l = some (x, l') → ∃ σ', ((opP.capsM r).bind fun cs => Pg.ret (w :: cs)).run σ = some (x, σ') ∧ Up n l' σ' ∧ ∀ L, ((opP.capsM r).bind fun cs => Pg.ret (w :: cs)).log σ L = ((opP.capsM r).bind fun cs => Pg.ret (w :: cs)).logS n l L := by
        intro w hr
        rw [runS_bind] at hr
        obtain ⟨⟨y, l1⟩, h1, h2⟩ := Option.bind_eq_some_iff.1 hr
        simp only [Pg.runS, Option.some.injEq, Prod.mk.injEq] at h2
        obtain ⟨rfl, rfl⟩ := h2
        simp only [notU, List.all_cons, Bool.and_eq_true] at hx
        obtain ⟨σ1, a1, a2, a3⟩ := caps_good r n l σ y l1 h h1 hx.2
        refine ⟨σ1, by rw [run_bind_eq, a1]; rfl, a2, fun L => ?_⟩
        rw [log_bind_eq, a1, logS_bind _ _ l L h1]
        simp only [Pg.log, Pg.logS, a3]
      cases v <;> first | exact one _ hr
    simp only [opP.capsM, Pg.runS] at hr
    have hu : (look l i).isU = false := by
      cases hv : look l i with
      | u =>
        rw [hv] at hr
        simp only [runS_bind] at hr
        obtain ⟨⟨y, l1⟩, h1, h2⟩ := Option.bind_eq_some_iff.1 hr
        simp only [Pg.runS, Option.some.injEq, Prod.mk.injEq] at h2
        obtain ⟨rfl, rfl⟩ := h2
        simp [notU, AV.isU] at hx
      | _ => rfl
    have e : look l i = σ.getD i .u := by
      rcases h.2.2 i with q | q
      · rw [q] at hu; simp [AV.isU] at hu
      · exact q
    obtain ⟨σ1, a1, a2, a3⟩ := key _ hu hr
    refine ⟨σ1, by simp only [opP.capsM, Pg.run, ← e]; exact a1, a2, fun L => ?_⟩
    simp only [opP.capsM, Pg.log, Pg.logS, ← e]
    exact a3 _
theorem good_mkf (d f : Nat) (caps : List Od) : Good ((opP.capsM caps).bind fun cs => if capsOn K d cs then wr K d (.clo f cs) else .fail) := fun n l σ y l' h hr => by
  have hr' := hr
  rw [runS_bind] at hr
  obtain ⟨⟨x, l1⟩, h1, h2⟩ := Option.bind_eq_some_iff.1 hr
  have hc : capsOn K d x = true := by
    simp only at h2
    split at h2
    · assumption
    · simp [Pg.runS] at h2
  obtain ⟨σ1, a1, a2, a3⟩ := caps_good caps n l σ x l1 h h1 (capsOn_notU K d x hc)
  have hg : Good (if capsOn K d x then wr K d (.clo f x) else .fail) := good_ite (good_wr K _ _) good_fail
  obtain ⟨σ2, b1, b2, b3⟩ := hg n l1 σ1 y l' a2 h2
  refine ⟨σ2, by rw [run_bind_eq, a1]; exact b1, b2, fun L => ?_⟩
  rw [log_bind_eq, a1, logS_bind _ _ l L h1]
  simp only [a3, b3]
theorem good_op (callf : Nat → List AV → Option CRes) (dst : Option Nat) (op : IOp) : Good (opP K callf dst op) := by
  have hb : ∀ {α β : Type} {p : Pg α} {f : α → Pg β}, Good p → (∀ x, Good (f x)) → Good (p.bind f) := fun h h' => good_bind h h'
  cases op with
  | mov x =>
    cases x with
    | c v => exact good_out K _ _
    | t i => exact good_get (fun v => good_movPtr K _ _ _ _ (good_movVal K _ _ _)) fun n l => rfl
  | asg x =>
    cases x with
    | c v => exact good_out K _ _
    | t i => exact good_get (fun v => good_movPtr K _ _ _ _ (good_bind (good_valOf _ _) fun v => good_bind (good_take K _) fun _ => good_outVal K _ _ _)) fun n l => rfl
  | frz x =>
    cases x with
    | c v => exact good_out K _ _
    | t i => exact good_get (fun v => good_movPtr K _ _ _ _ (good_bind (good_valOf _ _) fun v => good_bind (good_copy _) fun _ => good_outVal K _ _ _)) fun n l => rfl
  | loadf n ag x =>
    refine good_bind (good_adr x) fun v => ?_
    cases v with
    | inl pl => exact good_bind (good_getPl _ _) fun cs => good_bind (good_copy _) fun _ => good_outVal K _ _ _
    | inr cs => exact good_bind (good_guard _) fun _ => good_outVal K _ _ _
  | pick c a b =>
    refine good_bind (good_sc c) fun v => ?_
    cases v <;> first | exact good_fail | exact good_bind (good_sc _) fun _ => good_out K _ _
  | alloc z => exact good_out K _ _
  | box x => exact good_bind (good_val _) fun _ => good_bind (good_guard _) fun _ => good_bind (good_take K _) fun _ => good_out K _ _
  | build z ps => exact good_bind (good_build K _ _) fun _ => good_out K _ _
  | bslice z ze n ps => exact good_bind (good_bslice K _ _ _) fun _ => good_out K _ _
  | load n ag x =>
    refine good_bind (good_adr x) fun v => ?_
    cases v with
    | inl pl => exact good_bind (good_getPl _ _) fun cs => good_ite (good_outVal K _ _ _) (good_outOn K _ _ _)
    | inr cs => exact good_bind (good_guard _) fun _ => good_outVal K _ _ _
  | store n x v keep =>
    refine good_bind (good_adr x) fun pl => ?_
    cases pl with
    | inr cs => exact good_fail
    | inl pl =>
      refine good_bind (good_val v) fun v => good_bind (good_guard _) fun _ => good_bind ?_ fun cs => good_bind (good_putPl _ _) fun _ => good_killMem K _
      split
      · exact good_bind (good_copy _) fun _ => good_ret _
      · exact good_take K _
  | nilchk x =>
    cases x with
    | c v => exact good_fail
    | t i => exact good_get (fun v => good_movPtr K _ _ _ _ good_fail) fun n l => rfl
  | bin o x y => exact good_bind (good_sc x) fun a => good_bind (good_sc y) fun b => good_bind (good_opt _) fun c => good_out K _ _
  | eqs neg x y => exact good_bind (good_val x) fun a => good_bind (good_val y) fun b => good_bind (good_guard _) fun _ => good_bind (good_opt _) fun c => good_out K _ _
  | beq neg x y =>
    refine good_bind (good_sc x) fun a => ?_
    cases a <;> first | exact good_fail | skip
    refine good_bind (good_sc y) fun b => ?_
    cases b <;> first | exact good_fail | exact good_out K _ _
  | un o x => exact good_bind (good_sc x) fun a => good_bind (good_opt _) fun c => good_out K _ _
  | cvi k x => exact good_bind (good_scInt x) fun a => good_out K _ _
  | b2s x =>
    refine good_bind (good_val x) fun v => good_bind (good_guard _) fun _ => ?_
    split
    · exact good_bind (good_opt _) fun _ => good_out K _ _
    · exact good_bind (good_guard _) fun _ => good_bind (good_opt _) fun _ => good_out K _ _
    · exact good_fail
  | s2b x =>
    refine good_bind (good_sc x) fun a => ?_
    cases a <;> first | exact good_fail | exact good_out K _ _
  | i2s x => exact good_bind (good_scInt x) fun a => good_out K _ _
  | sid x =>
    refine good_bind (good_sc x) fun a => ?_
    cases a <;> first | exact good_fail | exact good_out K _ _
  | sls x lo hi =>
    refine good_bind (good_sc x) fun a => ?_
    cases a <;> first | exact good_fail | exact good_bind (good_ends _ _ _) fun _ => good_out K _ _
  | slc z x lo hi =>
    refine good_bind (good_val x) fun v => good_bind (good_guard _) fun _ => good_bind (good_opt _) fun len => good_bind (good_ends _ _ _) fun (l, h) => ?_
    dsimp only
    split
    · exact good_ite (good_out K _ _) good_fail
    · refine good_ite ?_ good_fail
      split <;> first | exact good_out K _ _ | exact good_outOn K _ _ _ | exact good_fail
    · exact good_fail
  | fad off x =>
    refine good_bind (good_adr x) fun v => ?_
    cases v <;> first | exact good_outOn K _ _ _ | exact good_out K _ _
  | fld off n ag x => exact good_bind (good_val x) fun v => good_bind (good_guard _) fun _ => good_bind (good_opt _) fun cs => good_bind (good_guard _) fun _ => good_outVal K _ _ _
  | iad z x i =>
    refine good_bind (good_val x) fun v => good_bind (good_guard _) fun _ => good_bind (good_scInt i) fun i => good_bind (good_guard _) fun _ => ?_
    split
    · exact good_ite (good_bind (good_opt _) fun _ => good_out K _ _) good_fail
    · refine good_ite (good_bind (good_guard _) fun _ => ?_) good_fail
      split <;> first | exact good_outOn K _ _ _ | skip
      refine good_bind (good_copy _) fun cs => ?_
      split
      · exact good_bind (good_opt _) fun _ => good_out K _ _
      · exact good_fail
    · exact good_fail
  | ixs x i =>
    refine good_bind (good_sc x) fun a => ?_
    cases a <;> first | exact good_fail | exact good_bind (good_scInt _) fun i => good_bind (good_guard _) fun _ => good_bind (good_opt _) fun _ => good_out K _ _
  | ext x i =>
    cases x with
    | c v => exact good_fail
    | t x =>
      refine good_get (fun v => ?_) fun n l => rfl
      cases v <;> first | exact good_fail | skip
      refine good_bind (good_opt _) fun (ag, cs) => good_ite (good_outVal K _ _ _) (good_put (good_outVal K _ _ _))
  | call f args => exact good_bind (good_argsP K _) fun (as, ls) => good_callP K _ _ _ _ _
  | callv x args =>
    cases x with
    | c v => exact good_fail
    | t x =>
      refine good_get (fun v => ?_) fun n l => rfl
      cases v <;> first | exact good_fail | skip
      exact good_bind (good_argsP K _) fun (as, ls) => good_bind (good_capsP K _) fun (cs, ms) => good_callP K _ _ _ _ _
  | len s x =>
    cases s with
    | false => exact good_bind (good_val x) fun v => good_bind (good_guard _) fun _ => good_bind (good_opt _) fun n => good_out K _ _
    | true =>
      refine good_bind (good_sc x) fun a => ?_
      cases a <;> first | exact good_fail | exact good_out K _ _
  | app z bytes x y keep =>
    refine good_bind (good_val x) fun v => good_bind (good_guard _) fun _ => ?_
    split
    · refine good_ite (good_bind (good_take K _) fun _ => good_bind (good_val y) fun u => good_bind (good_guard _) fun _ => good_bind (good_ite (good_take K _) (good_bind (good_copy _) fun _ => good_ret _)) fun cs => ?_) good_fail
      split
      · exact good_ite (good_out K _ _) good_fail
      · exact good_ite (good_out K _ _) good_fail
      · exact good_fail
    · exact good_fail
  | apps x y =>
    refine good_bind (good_val x) fun v => good_bind (good_guard _) fun _ => ?_
    split
    · refine good_bind (good_take K _) fun _ => good_bind (good_sc y) fun a => ?_
      cases a <;> first | exact good_fail | exact good_ite (good_out K _ _) good_fail
    · exact good_fail
  | mks z bytes zero n c => exact good_bind (good_scInt n) fun a => good_bind (good_scInt c) fun b => good_ite (good_out K _ _) good_fail
  | mm m x y =>
    refine good_bind (good_sc x) fun a => good_bind (good_sc y) fun b => ?_
    cases a <;> first | exact good_fail | skip
    cases b <;> first | exact good_fail | exact good_ite (good_out K _ _) good_fail
  | mkf f caps =>
    cases dst with
    | none => exact good_ret _
    | some d => exact good_mkf K d f caps
theorem good_oper (callf : Nat → List AV → Option CRes) (o : IOper) : Good (operP K callf o) := by
  unfold operP
  split
  · exact good_op K _ _ _
  · refine good_get (fun v => ?_) fun n l => rfl
    split
    · refine good_ite (good_op K _ _ _) ?_
      split
      · exact good_wr K _ _
      · exact good_ret _
    · exact good_fail
end
end Go.Pv
end

section
namespace Go.Pv
set_option linter.unusedVariables false
set_option linter.unusedSimpArgs false
def runOpsS (n : Nat) (K : Kills) (cf : Nat → List AV → Option CRes) : List IOper → Asc → Option Asc
  | [], l => some l
  | o :: os, l => ((operP K cf o).runS n l).bind fun r => runOpsS n K cf os r.2
def Pg.runL {α : Type} (n : Nat) : Pg α → Asc → Lg → Option (α × Asc × Lg)
  | .ret x, l, L => some (x, l, L)
  | .fail, _, _ => none
  | .get t k, l, L => (k (look l t)).runL n l (L.rd t (look l t))
  | .put t v k, l, L => if t < n then k.runL n (ins t v l) (L.wt t v) else none
  | .kill c ts k, l, L => k.runL n (killF c ts l) (L.ki c ts)
def runOpsL (n : Nat) (K : Kills) (cf : Nat → List AV → Option CRes) : List IOper → Asc → Option (Asc × List Lg)
  | [], l => some (l, [])
  | o :: os, l => ((operP K cf o).runL n l .emp).bind fun r => (runOpsL n K cf os r.2.1).bind fun q => some (q.1, r.2.2 :: q.2)
theorem runL_bind {α β : Type} {n : Nat} (p : Pg α) (f : α → Pg β) (l : Asc) (L : Lg) : (p.bind f).runL n l L = (p.runL n l L).bind fun q => (f q.1).runL n q.2.1 q.2.2 := by
  induction p generalizing l L with
  | ret x => rfl
  | fail => rfl
  | get t k ih => exact ih _ _ _
  | put t v k ih =>
    simp only [Pg.bind, Pg.runL]
    split
    · exact ih _ _
    · rfl
  | kill c ts k ih => exact ih _ _
theorem runL_runS {α : Type} {n : Nat} (p : Pg α) (l : Asc) (L : Lg) {x : α} {l' : Asc} {L' : Lg} (h : p.runL n l L = some (x, l', L')) : p.runS n l = some (x, l') ∧ p.logS n l L = L' := by
  induction p generalizing l L with
  | ret y =>
    simp only [Pg.runL, Option.some.injEq, Prod.mk.injEq] at h
    obtain ⟨rfl, rfl, rfl⟩ := h
    exact ⟨rfl, rfl⟩
  | fail => simp [Pg.runL] at h
  | get t k ih => exact ih _ _ _ h
  | put t v k ih =>
    simp only [Pg.runL] at h
    split at h
    · rename_i ht
      obtain ⟨a, b⟩ := ih _ _ h
      exact ⟨by simp only [Pg.runS, ht, if_true]; exact a, b⟩
    · simp at h
  | kill c ts k ih => exact ih _ _ h
section
variable {K : Kills} {cf : Nat → List AV → Option CRes} {n : Nat} {E : Env}
theorem ops_up : ∀ (os : List IOper) {l l' : Asc} {σ : List AV}, Up n l σ → runOpsS n K cf os l = some l' → ∃ σ', runOps K cf os σ = some σ' ∧ Up n l' σ'
  | [], l, l', σ, h, hr => by
    simp only [runOpsS, Option.some.injEq] at hr
    subst hr
    exact ⟨σ, rfl, h⟩
  | o :: os, l, l', σ, h, hr => by
    simp only [runOpsS] at hr
    obtain ⟨⟨u, l1⟩, h1, h2⟩ := Option.bind_eq_some_iff.1 hr
    obtain ⟨σ1, a1, a2, _⟩ := good_oper K cf o n l σ u l1 h h1
    obtain ⟨σ2, b1, b2⟩ := ops_up os a2 h2
    exact ⟨σ2, by simp only [runOps, a1, Option.bind_some, b1], b2⟩
theorem opsL_up : ∀ (os : List IOper) {l l' : Asc} {σ : List AV} {lg : List Lg}, Up n l σ → runOpsL n K cf os l = some (l', lg) → ∃ σ', runOps K cf os σ = some σ' ∧ Up n l' σ' ∧ logs K cf os σ = lg
  | [], l, l', σ, lg, h, hr => by
    simp only [runOpsL, Option.some.injEq, Prod.mk.injEq] at hr
    obtain ⟨rfl, rfl⟩ := hr
    exact ⟨σ, rfl, h, rfl⟩
  | o :: os, l, l', σ, lg, h, hr => by
    simp only [runOpsL] at hr
    obtain ⟨⟨u, l1, L1⟩, h1, h2⟩ := Option.bind_eq_some_iff.1 hr
    obtain ⟨⟨l2, lg2⟩, h3, h4⟩ := Option.bind_eq_some_iff.1 h2
    simp only [Option.some.injEq, Prod.mk.injEq] at h4
    obtain ⟨rfl, rfl⟩ := h4
    obtain ⟨c1, c2⟩ := runL_runS _ _ _ h1
    obtain ⟨σ1, a1, a2, a3⟩ := good_oper K cf o n l σ u l1 h c1
    obtain ⟨σ2, b1, b2, b3⟩ := opsL_up os a2 h3
    refine ⟨σ2, by simp only [runOps, a1, Option.bind_some, b1], b2, ?_⟩
    simp only [logs, a1, b3, a3, c2]
def WpS (E : Env) (n : Nat) (K : Kills) (c : IC) (l : Asc) (Q : Ex → Asc → Prop) : Prop := ∀ σ, Up n l σ → Wp E K c σ fun ex σ' => ∃ l', Up n l' σ' ∧ Q ex l'
def LpS (E : Env) (n : Nat) (K : Kills) (a : IC) (Q : Ex → Asc → Prop) (ex : Ex) (l : Asc) : Prop := ∀ σ, Up n l σ → Lp E K a (fun ex σ' => ∃ l', Up n l' σ' ∧ Q ex l') ex σ
def thenS (R : Asc → Prop) (Q : Ex → Asc → Prop) : Ex → Asc → Prop
  | .nor, l => R l
  | ex, l => Q ex l
def blockS (id : Nat) (Q : Ex → Asc → Prop) : Ex → Asc → Prop
  | .exit id', l => if id' = id then Q .nor l else Q (.exit id') l
  | ex, l => Q ex l
variable {Q Q' : Ex → Asc → Prop} {l l1 : Asc}
theorem WpS.mono {c : IC} (h : WpS E n K c l Q) (hq : ∀ ex l', Q ex l' → Q' ex l') : WpS E n K c l Q' := fun σ hu => (h σ hu).mono fun ex σ' ⟨l', h1, h2⟩ => ⟨l', h1, hq _ _ h2⟩
theorem WpS.keep (ks : List Nat) {c : IC} (h : WpS E n K c (keepS ks l) Q) : WpS E n K c l Q := fun σ hu => h σ (hu.keep ks)
theorem LpS.keep (ks : List Nat) {a : IC} {ex : Ex} (h : LpS E n K a Q ex (keepS ks l)) : LpS E n K a Q ex l := fun σ hu => h σ (hu.keep ks)
theorem wpS_skip (h : Q .nor l) : WpS E n K .skip l Q := fun σ hu => wpI_skip ⟨l, hu, h⟩
theorem wpS_label {i : Nat} (h : Q .nor l) : WpS E n K (.label i) l Q := fun σ hu => wpI_label ⟨l, hu, h⟩
theorem wpS_exit {i : Nat} (h : Q (.exit i) l) : WpS E n K (.exit i) l Q := fun σ hu => wpI_exit ⟨l, hu, h⟩
theorem wpS_goto {i : Nat} (h : Q (.goto i) l) : WpS E n K (.goto i) l Q := fun σ hu => wpI_goto ⟨l, hu, h⟩
theorem wpS_ret (h : Q .ret l) : WpS E n K .ret l Q := fun σ hu => wpI_ret ⟨l, hu, h⟩
theorem wpS_reg {os : List IOper} (h : runOpsS n K (ansOf E) os l = some l1) (hq : Q .nor l1) : WpS E n K (.reg os) l Q := fun σ hu => by
  obtain ⟨σ', h1, h2⟩ := ops_up os hu h
  exact wpI_reg h1 ⟨l1, h2, hq⟩
theorem wpS_regO (ks : List Nat) {os : List IOper} (h : runOpsS n K (ansOf E) os l = some l1) (hq : Q .nor (keepS ks l1)) : WpS E n K (.reg os) l Q := fun σ hu => by
  obtain ⟨σ', h1, h2⟩ := ops_up os hu h
  exact wpI_reg h1 ⟨_, h2.keep ks, hq⟩
theorem wpS_drawO (ks : List Nat) {bfs : List (List Nat)} {os : List IOper} {lg : List Lg} (h : runOpsL n K (ansOf E) os l = some (l1, lg)) (ha : apartAll bfs lg = true) (hq : Q .nor (keepS ks l1)) : WpS E n K (.draw bfs os) l Q := fun σ hu => by
  obtain ⟨σ', h1, h2, h3⟩ := opsL_up os hu h
  exact wpI_draw h1 (by rw [h3]; exact ha) ⟨_, h2.keep ks, hq⟩
theorem wpS_draw {bfs : List (List Nat)} {os : List IOper} {lg : List Lg} (h : runOpsL n K (ansOf E) os l = some (l1, lg)) (ha : apartAll bfs lg = true) (hq : Q .nor l1) : WpS E n K (.draw bfs os) l Q := fun σ hu => by
  obtain ⟨σ', h1, h2, h3⟩ := opsL_up os hu h
  exact wpI_draw h1 (by rw [h3]; exact ha) ⟨l1, h2, hq⟩
theorem wpS_seq {a b : IC} (h : WpS E n K a l (thenS (fun l1 => WpS E n K b l1 Q) Q)) : WpS E n K (.seq a b) l Q := fun σ hu => wpI_seq ((h σ hu).mono fun ex σ' ⟨l', h1, h2⟩ => by
  cases ex with
  | nor => exact h2 σ' h1
  | exit i => exact ⟨l', h1, h2⟩
  | goto i => exact ⟨l', h1, h2⟩
  | ret => exact ⟨l', h1, h2⟩)
theorem wpS_step (ks : List Nat) {os : List IOper} {b : IC} (h : runOpsS n K (ansOf E) os l = some l1) (hq : WpS E n K b (keepS ks l1) Q) : WpS E n K (.seq (.reg os) b) l Q := wpS_seq (wpS_reg h hq.keep)
theorem wpS_stepD (ks : List Nat) {bfs : List (List Nat)} {os : List IOper} {b : IC} {lg : List Lg} (h : runOpsL n K (ansOf E) os l = some (l1, lg)) (ha : apartAll bfs lg = true) (hq : WpS E n K b (keepS ks l1) Q) : WpS E n K (.seq (.draw bfs os) b) l Q := wpS_seq (wpS_draw h ha hq.keep)
theorem wpS_cond {x : Od} {a b : IC} {t : Bool} (hc : ((sc x).runS n l).map (·.1) = some (.bool t)) (h1 : t = true → WpS E n K a l Q) (h2 : t = false → WpS E n K b l Q) : WpS E n K (.cond x a b) l Q := fun σ hu => by
  obtain ⟨⟨v, l2⟩, h3, h4⟩ := Option.map_eq_some_iff.1 hc
  simp only at h4; subst h4
  obtain ⟨σ', a1, a2, _⟩ := good_sc x n l σ _ l2 hu h3
  exact wpI_cond a1 (fun e => h1 e σ hu) fun e => h2 e σ hu
theorem wpS_block {id : Nat} {a : IC} (h : WpS E n K a l (blockS id Q)) : WpS E n K (.block id a) l Q := fun σ hu => wpI_block ((h σ hu).mono fun ex σ' ⟨l', h1, h2⟩ => by
  cases ex with
  | exit i =>
    simp only [blockS, blockW] at h2 ⊢
    split at h2 <;> rename_i e
    · rw [if_pos e]; exact ⟨l', h1, h2⟩
    · rw [if_neg e]; exact ⟨l', h1, h2⟩
  | nor => exact ⟨l', h1, h2⟩
  | goto i => exact ⟨l', h1, h2⟩
  | ret => exact ⟨l', h1, h2⟩)
theorem wpS_loop {a : IC} (h : WpS E n K a l (thenS (fun l1 => WpS E n K (.loop a) l1 Q) Q)) : WpS E n K (.loop a) l Q := fun σ hu => wpI_loop ((h σ hu).mono fun ex σ' ⟨l', h1, h2⟩ => by
  cases ex with
  | nor => exact h2 σ' h1
  | exit i => exact ⟨l', h1, h2⟩
  | goto i => exact ⟨l', h1, h2⟩
  | ret => exact ⟨l', h1, h2⟩)
theorem wpS_scope {a : IC} (h : WpS E n K a l (LpS E n K a Q)) : WpS E n K (.scope a) l Q := fun σ hu => wpI_scope ((h σ hu).mono fun ex σ' ⟨l', h1, h2⟩ => h2 σ' h1)
theorem lpS_nor {a : IC} (h : Q .nor l) : LpS E n K a Q .nor l := fun σ hu => lp_nor ⟨l, hu, h⟩
theorem lpS_ret {a : IC} (h : Q .ret l) : LpS E n K a Q .ret l := fun σ hu => lp_ret ⟨l, hu, h⟩
theorem lpS_exit {a : IC} {i : Nat} (h : Q (.exit i) l) : LpS E n K a Q (.exit i) l := fun σ hu => lp_exit ⟨l, hu, h⟩
theorem lpS_goto {a rest : IC} {i : Nat} (hr : a.after i = some rest) (h : WpS E n K rest l (LpS E n K a Q)) : LpS E n K a Q (.goto i) l := fun σ hu => lp_goto hr ((h σ hu).mono fun ex σ' ⟨l', h1, h2⟩ => h2 σ' h1)
theorem good_resP : ∀ rs, Good (resP K rs)
  | [] => good_ret _
  | .tmp t :: r => good_bind (good_val _) fun v => good_bind (good_take K _) fun cs => good_bind (good_resP r) fun vs => good_ret _
  | .cell t m ag :: r => by
    unfold resP
    refine good_get (fun v => ?_) fun n l => rfl
    split
    · exact good_ite (good_bind (good_killMem K _) fun _ => good_put (good_bind (good_resP r) fun _ => good_ret _)) good_fail
    · exact good_fail
theorem good_backP (G : List Nat) : ∀ as j, Good (backP K G as j)
  | [], j => good_ret _
  | x :: r, j => by
    unfold backP
    split
    · exact good_ret _
    · rename_i e; obtain ⟨rfl, rfl⟩ := List.cons.inj e
      refine good_ite (good_get (fun v => ?_) fun n l => rfl) good_fail
      split
      · exact good_bind (good_killMem K _) fun _ => good_put (good_bind (good_backP G _ _) fun _ => good_ret _)
      · exact good_fail
    · rename_i e; obtain ⟨rfl, rfl⟩ := List.cons.inj e
      exact good_backP G _ _
def argsS : List AV → Nat → Asc
  | [], _ => []
  | a :: as, j => (j, a) :: argsS as (j + 1)
theorem argsS_sorted : ∀ (as : List AV) (j : Nat), sortedK j (argsS as j) = true
  | [], _ => rfl
  | a :: as, j => by simp [argsS, sortedK, argsS_sorted as (j + 1)]
theorem argsS_up : ∀ (as : List AV) (j m t : Nat), look (argsS as j) t = .u ∨ (j ≤ t ∧ look (argsS as j) t = (as ++ List.replicate m AV.u).getD (t - j) AV.u)
  | [], j, m, t => .inl rfl
  | a :: as, j, m, t => by
    simp only [argsS, look]
    split
    · rename_i e; subst e
      right; simp
    · rename_i e
      rcases argsS_up as (j + 1) m t with q | ⟨q1, q2⟩
      · exact .inl q
      · refine .inr ⟨by omega, ?_⟩
        rw [q2, show t - j = (t - (j + 1)) + 1 by omega]
        simp
def doneS (n : Nat) (i : IFn) (as : List AV) (l : Asc) : Option CRes :=
  ((resP i.kills i.res).runS n l).bind fun x => ((backP i.kills i.keeps as 0).runS n x.2).bind fun y => some (x.1, y.1)
theorem ans_S {f : Nat} {i : IFn} {as : List AV} {r : CRes} (hx : E.ext f = none) (hp : E.prog f = some i) (hn : as.length = i.np ∧ i.np ≤ i.nt)
    (h : WpS E i.nt i.kills i.body (argsS as 0) fun ex l => (ex = .nor ∨ ex = .ret) ∧ doneS i.nt i as l = some r) : ansOf E f as = some r := by
  refine ans_of_wp hx hp hn ((h _ ⟨by simp [hn.1]; omega, argsS_sorted as 0, fun t => ?_⟩).mono fun ex σ' ⟨l', h1, hex, h2⟩ => ⟨hex, ?_⟩)
  · rcases argsS_up as 0 (i.nt - i.np) t with q | ⟨_, q⟩
    · exact .inl q
    · right; simpa using q
  · unfold doneS at h2
    obtain ⟨⟨rs, l2⟩, a1, a2⟩ := Option.bind_eq_some_iff.1 h2
    obtain ⟨⟨bs, l3⟩, a3, a4⟩ := Option.bind_eq_some_iff.1 a2
    obtain ⟨σ2, b1, b2, _⟩ := good_resP i.res i.nt l' σ' rs l2 h1 a1
    obtain ⟨σ3, c1, c2, _⟩ := good_backP i.keeps as 0 i.nt l2 σ2 bs l3 b2 a3
    simp only [b1, Option.bind_some, c1]
    exact a4
end
attribute [irreducible] WpS LpS
end Go.Pv
end

section
namespace Go.Pv
set_option linter.unusedVariables false
set_option linter.unusedSimpArgs false
class Live (c : IC) where
  ks : List Nat
class LiveO (c : IC) where
  ko : List Nat
def runOpsK (n : Nat) (K : Kills) (cf : Nat → List AV → Option CRes) (ks : List Nat) : List IOper → Asc → Option Asc
  | [], l => some (keepS ks l)
  | o :: os, l => ((operP K cf o).runS n l).bind fun r => runOpsK n K cf ks os r.2
def runOpsD (n : Nat) (K : Kills) (cf : Nat → List AV → Option CRes) (ks : List Nat) : List IOper → Asc → List Lg → Option (Asc × List Lg)
  | [], l, lg => some (keepS ks l, lg.reverse)
  | o :: os, l, lg => ((operP K cf o).runL n l .emp).bind fun r => runOpsD n K cf ks os r.2.1 (r.2.2 :: lg)
section
variable {K : Kills} {cf : Nat → List AV → Option CRes} {n : Nat} {E : Env} {Q : Ex → Asc → Prop} {l l1 : Asc}
theorem runOpsK_eq (ks : List Nat) : ∀ (os : List IOper) (l : Asc), runOpsK n K cf ks os l = (runOpsS n K cf os l).map (keepS ks)
  | [], l => rfl
  | o :: os, l => by
    simp only [runOpsK, runOpsS, runOpsK_eq ks os]
    cases (operP K cf o).runS n l <;> rfl
theorem runOpsD_eq (ks : List Nat) : ∀ (os : List IOper) (l : Asc) (lg : List Lg), runOpsD n K cf ks os l lg = (runOpsL n K cf os l).map fun r => (keepS ks r.1, lg.reverse ++ r.2)
  | [], l, lg => by simp [runOpsD, runOpsL]
  | o :: os, l, lg => by
    simp only [runOpsD, runOpsL, runOpsD_eq ks os]
    cases (operP K cf o).runL n l .emp with
    | none => rfl
    | some r =>
      simp only [Option.bind_some]
      cases runOpsL n K cf os r.2.1 <;> simp
theorem wpS_stepK {os : List IOper} {b : IC} [hb : Live b] (h : runOpsK n K (ansOf E) hb.ks os l = some l1) (hq : WpS E n K b l1 Q) : WpS E n K (.seq (.reg os) b) l Q := by
  rw [runOpsK_eq] at h
  obtain ⟨l2, h1, rfl⟩ := Option.map_eq_some_iff.1 h
  exact wpS_step hb.ks h1 hq
theorem wpS_stepDK {bfs : List (List Nat)} {os : List IOper} {b : IC} {lg : List Lg} [hb : Live b] (h : runOpsD n K (ansOf E) hb.ks os l [] = some (l1, lg)) (ha : apartAll bfs lg = true) (hq : WpS E n K b l1 Q) : WpS E n K (.seq (.draw bfs os) b) l Q := by
  rw [runOpsD_eq] at h
  obtain ⟨⟨l2, lg2⟩, h1, h2⟩ := Option.map_eq_some_iff.1 h
  simp only [List.reverse_nil, List.nil_append, Prod.mk.injEq] at h2
  obtain ⟨rfl, rfl⟩ := h2
  exact wpS_stepD hb.ks h1 ha hq
theorem wpS_regK {os : List IOper} (h : runOpsS n K (ansOf E) os l = some l1) (hq : Q .nor l1) : WpS E n K (.reg os) l Q := wpS_reg h hq
theorem wpS_live {c : IC} [hc : Live c] (h : keepS hc.ks l = l1) (hq : WpS E n K c l1 Q) : WpS E n K c l Q := by subst h; exact hq.keep
end
end Go.Pv
end
