/- Own words of these sessions: a small interpreter over plain values, and the proof that the model computes what it answers. -/
import Derived.Test.YtcghkmihbfibkaaPvc
import Derived.IntWalk
set_option linter.all false
section
namespace Go.Pv
set_option linter.unusedVariables false
set_option linter.unusedSimpArgs false
section
variable {K : Kills} {cf : Nat → List AV → Option CRes} {n : Nat} {E : Env} {Q : Ex → Asc → Prop} {l l1 : Asc}
theorem xK_nil (ks : List Nat) : runOpsK n K cf ks [] l = some (keepS ks l) := rfl
theorem xK_cons (ks : List Nat) (o : IOper) (os : List IOper) : runOpsK n K cf ks (o :: os) l = obind ((operP K cf o).runS n l) fun q => runOpsK n K cf ks os q.2 := rfl
theorem xO_nil : runOpsS n K cf [] l = some l := rfl
theorem xO_cons (o : IOper) (os : List IOper) : runOpsS n K cf (o :: os) l = obind ((operP K cf o).runS n l) fun q => runOpsS n K cf os q.2 := rfl
theorem xD_nil (ks : List Nat) (lg : List Lg) : runOpsD n K cf ks [] l lg = some (keepS ks l, lg.reverse) := rfl
theorem xD_cons (ks : List Nat) (o : IOper) (os : List IOper) (lg : List Lg) : runOpsD n K cf ks (o :: os) l lg = obind ((operP K cf o).runL n l .emp) fun q => runOpsD n K cf ks os q.2.1 (q.2.2 :: lg) := rfl
theorem xDone (i : IFn) (as : List AV) : doneS n i as l = obind ((resP i.kills i.res).runS n l) fun x => obind ((backP i.kills i.keeps as 0).runS n x.2) fun y => some (x.1, y.1) := rfl
theorem wpS_condK {x : Od} {a b : IC} {t : Bool} (hc : (obind ((sc x).runS n l) fun q => oBool q.1) = some t) (h1 : t = true → WpS E n K a l Q) (h2 : t = false → WpS E n K b l Q) : WpS E n K (.cond x a b) l Q := by
  refine wpS_cond (t := t) ?_ h1 h2
  cases h : (sc x).runS n l with
  | none => rw [h] at hc; simp [obind] at hc
  | some q =>
    rw [h] at hc
    obtain ⟨v, l'⟩ := q
    cases v <;> simp [obind, oBool] at hc
    subst hc; rfl
theorem wpS_label1 {i : Nat} {b : IC} (h : WpS E n K b l Q) : WpS E n K (.seq (.label i) b) l Q := wpS_seq (wpS_label h)
theorem wpS_skip1 {b : IC} (h : WpS E n K b l Q) : WpS E n K (.seq .skip b) l Q := wpS_seq (wpS_skip h)
theorem wpS_seq_cond {x : Od} {c d b : IC} (h : WpS E n K (.cond x c d) l (thenS (fun l1 => WpS E n K b l1 Q) Q)) : WpS E n K (.seq (.cond x c d) b) l Q := wpS_seq h
theorem wpS_seq_block {i : Nat} {c b : IC} (h : WpS E n K (.block i c) l (thenS (fun l1 => WpS E n K b l1 Q) Q)) : WpS E n K (.seq (.block i c) b) l Q := wpS_seq h
theorem wpS_seq_loop {c b : IC} (h : WpS E n K (.loop c) l (thenS (fun l1 => WpS E n K b l1 Q) Q)) : WpS E n K (.seq (.loop c) b) l Q := wpS_seq h
theorem wpS_seq_scope {c b : IC} (h : WpS E n K (.scope c) l (thenS (fun l1 => WpS E n K b l1 Q) Q)) : WpS E n K (.seq (.scope c) b) l Q := wpS_seq h
theorem wpS_seq_seq {c d b : IC} (h : WpS E n K (.seq c d) l (thenS (fun l1 => WpS E n K b l1 Q) Q)) : WpS E n K (.seq (.seq c d) b) l Q := wpS_seq h
theorem wpS_seq_goto {i : Nat} {b : IC} (h : Q (.goto i) l) : WpS E n K (.seq (.goto i) b) l Q := wpS_seq (wpS_goto h)
theorem wpS_seq_exit {i : Nat} {b : IC} (h : Q (.exit i) l) : WpS E n K (.seq (.exit i) b) l Q := wpS_seq (wpS_exit h)
theorem wpS_seq_ret {b : IC} (h : Q .ret l) : WpS E n K (.seq .ret b) l Q := wpS_seq (wpS_ret h)
theorem wpS_meet {a b : IC} (R : Asc → Prop) (h : WpS E n K a l (thenS R Q)) (hq : ∀ l1, R l1 → WpS E n K b l1 Q) : WpS E n K (.seq a b) l Q := wpS_seq (h.mono fun ex l' hl => by
  cases ex with
  | nor => exact hq l' hl
  | exit i => exact hl
  | goto i => exact hl
  | ret => exact hl)
end
def oThen {α : Type} (x : Option α) (R : α → Prop) : Prop := ∃ y, x = some y ∧ R y
@[congr] theorem oThen_congr {α : Type} {x x' : Option α} {R : α → Prop} (h : x = x') : oThen x R = oThen x' R := by rw [h]
theorem oThen_intro {α : Type} {y : α} {R : α → Prop} (h : R y) : oThen (some y) R := ⟨y, rfl, h⟩
theorem oThen_gcond {α : Type} {c : Bool} {x y : Option α} {R : α → Prop} (h1 : c = true → oThen x R) (h2 : c = false → oThen y R) : oThen (ogcond c x y) R := by
  cases c with
  | true => exact h1 rfl
  | false => exact h2 rfl
theorem oThen_cond {α : Type} {c : Bool} {x y : Option α} {R : α → Prop} (h1 : c = true → oThen x R) (h2 : c = false → oThen y R) : oThen (ocond c x y) R := by
  cases c with
  | true => exact h1 rfl
  | false => exact h2 rfl
theorem oThen_mark {α : Type} {x : Option α} {R : α → Prop} (h : oThen x R) : oThen x R := h
theorem obind_cond {α β : Type} (c : Bool) (x y : Option α) (f : α → Option β) : obind (ocond c x y) f = ocond c (obind x f) (obind y f) := by cases c <;> rfl
theorem wpS_stepT {E : Env} {n : Nat} {K : Kills} {l : Asc} {Q : Ex → Asc → Prop} {os : List IOper} {b : IC} [hb : Live b] (h : ∀ R : Asc → Prop, (∀ l1, WpS E n K b l1 Q → R l1) → oThen (runOpsK n K (ansOf E) hb.ks os l) R) : WpS E n K (.seq (.reg os) b) l Q := by
  obtain ⟨l1, h1, h2⟩ := h _ fun _ q => q
  exact wpS_stepK h1 h2
theorem wpS_stepDT {E : Env} {n : Nat} {K : Kills} {l : Asc} {Q : Ex → Asc → Prop} {bfs : List (List Nat)} {os : List IOper} {b : IC} [hb : Live b] (h : ∀ R : Asc × List Lg → Prop, (∀ l1 lg, apartAll bfs lg = true → WpS E n K b l1 Q → R (l1, lg)) → oThen (runOpsD n K (ansOf E) hb.ks os l []) R) : WpS E n K (.seq (.draw bfs os) b) l Q := by
  obtain ⟨⟨l1, lg⟩, h1, h2, h3⟩ := h (fun q => apartAll bfs q.2 = true ∧ WpS E n K b q.1 Q) fun _ _ a b => ⟨a, b⟩
  exact wpS_stepDK h1 h2 h3
theorem wpS_regT {E : Env} {n : Nat} {K : Kills} {l : Asc} {Q : Ex → Asc → Prop} {os : List IOper} (h : ∀ R : Asc → Prop, (∀ l1, Q .nor l1 → R l1) → oThen (runOpsS n K (ansOf E) os l) R) : WpS E n K (.reg os) l Q := by
  obtain ⟨l1, h1, h2⟩ := h _ fun _ q => q
  exact wpS_reg h1 h2
theorem wpS_regL {E : Env} {n : Nat} {K : Kills} {l : Asc} {Q : Ex → Asc → Prop} {c : IC} [hc : LiveO c] {os : List IOper} (he : c = .reg os) (h : ∀ R : Asc → Prop, (∀ l1, Q .nor l1 → R l1) → oThen (runOpsK n K (ansOf E) hc.ko os l) R) : WpS E n K c l Q := by
  obtain ⟨l1, h1, h2⟩ := h _ fun _ q => q
  subst he
  rw [runOpsK_eq] at h1
  obtain ⟨l2, h3, rfl⟩ := Option.map_eq_some_iff.1 h1
  exact wpS_regO _ h3 h2
theorem wpS_drawL {E : Env} {n : Nat} {K : Kills} {l : Asc} {Q : Ex → Asc → Prop} {c : IC} [hc : LiveO c] {bfs : List (List Nat)} {os : List IOper} (he : c = .draw bfs os) (h : ∀ R : Asc × List Lg → Prop, (∀ l1 lg, apartAll bfs lg = true → Q .nor l1 → R (l1, lg)) → oThen (runOpsD n K (ansOf E) hc.ko os l []) R) : WpS E n K c l Q := by
  obtain ⟨⟨l1, lg⟩, h1, h2, h3⟩ := h (fun q => apartAll bfs q.2 = true ∧ Q .nor q.1) fun _ _ a b => ⟨a, b⟩
  subst he
  rw [runOpsD_eq] at h1
  obtain ⟨⟨l2, lg2⟩, h4, h5⟩ := Option.map_eq_some_iff.1 h1
  simp only [List.reverse_nil, List.nil_append, Prod.mk.injEq] at h5
  obtain ⟨rfl, rfl⟩ := h5
  exact wpS_drawO _ h4 h2 h3
theorem wpS_condT {E : Env} {n : Nat} {K : Kills} {l : Asc} {Q : Ex → Asc → Prop} {x : Od} {a b : IC} (h : ∀ R : Bool → Prop, (∀ t, (t = true → WpS E n K a l Q) → (t = false → WpS E n K b l Q) → R t) → oThen (obind ((sc x).runS n l) fun q => oBool q.1) R) : WpS E n K (.cond x a b) l Q := by
  obtain ⟨t, h1, h2, h3⟩ := h (fun t => (t = true → WpS E n K a l Q) ∧ (t = false → WpS E n K b l Q)) fun _ a b => ⟨a, b⟩
  exact wpS_condK h1 h2 h3
theorem beqI (a b : Int) : (a == b) = decide (a = b) := by by_cases h : a = b <;> simp [h]
theorem beqL (a b : List UInt8) : (a == b) = decide (a = b) := by by_cases h : a = b <;> simp [h]
theorem beqB (a b : Bool) : (a == b) = decide (a = b) := by cases a <;> cases b <;> rfl
theorem wrap_i64 {x : Int} (h : -9223372036854775808 ≤ x ∧ x ≤ 9223372036854775807) : IntKind.i64.wrap x = x := IntWalk.i64_in x h
def by8 (x : Int) : UInt8 := UInt8.ofNat (x % 256).toNat
theorem wrap_u8 (x : Int) : IntKind.u8.wrap x = ((by8 x).toNat : Int) := by
  rw [IntKind.wrap_u8]
  unfold by8
  rw [UInt8.toNat_ofNat']
  omega
theorem xshr {k : IntKind} {a b : Int} (h : 0 ≤ b) (hb : b.toNat ≤ k.bits) : shiftInt .shr k a b = some (.int k (a / 2 ^ b.toNat)) := by
  unfold shiftInt
  rw [if_neg (by omega), Nat.min_eq_left hb]
  simp only
  rw [Int.fdiv_eq_ediv_of_nonneg _ (Int.pow_nonneg (by omega))]
theorem xshl {k : IntKind} {a b : Int} (h : 0 ≤ b) (hb : b.toNat ≤ k.bits) : shiftInt .shl k a b = some (.int k (k.wrap (a * 2 ^ b.toNat))) := by
  unfold shiftInt
  rw [if_neg (by omega), Nat.min_eq_left hb]
theorem cast_add1 (i : Nat) : ((i : Int) + 1) = ((i + 1 : Nat) : Int) := rfl
theorem cast_add (i j : Nat) : ((i : Int) + (j : Int)) = ((i + j : Nat) : Int) := rfl
theorem cast_0 : (0 : Int) = ((0 : Nat) : Int) := rfl
theorem cast_sub1 (i : Nat) : (((i + 1 : Nat) : Int) - 1) = (i : Int) := by omega
theorem getL {α β : Type} (f : α → β) (l : List α) (x : β) : (l.map f ++ [x])[l.length]? = some x := by simp
theorem setL {α β : Type} (f : α → β) (l : List α) (x y : β) : (l.map f ++ [x]).set l.length y = l.map f ++ [y] := by simp
theorem WpS.keepE (ks : List Nat) {E : Env} {n : Nat} {K : Kills} {c : IC} {l l1 : Asc} {Q : Ex → Asc → Prop} (h : WpS E n K c l1 Q) (he : keepS ks l = l1) : WpS E n K c l Q := by
  subst he; exact h.keep
theorem get_lt {α : Type} {l : List α} {i : Nat} (h : i < l.length) : ∃ x, l[i]? = some x := ⟨l[i], List.getElem?_eq_getElem h⟩
theorem take_map1 {α β : Type} (f : α → β) {l : List α} {i : Nat} {x : α} (h : l[i]? = some x) : (l.take (i + 1)).map f = (l.take i).map f ++ [f x] := by
  rw [List.take_add_one, h]; simp
theorem mem_get {α : Type} {l : List α} {i : Nat} {x : α} (h : l[i]? = some x) : x ∈ l := List.mem_of_getElem? h
theorem killF_none {c : AV → Bool} {ts : List Nat} : ∀ {l : Asc}, (l.all fun p => !c p.2) = true → killF c ts l = l
  | [], _ => rfl
  | (t, v) :: r, h => by
    simp only [List.all_cons, Bool.and_eq_true, Bool.not_eq_true'] at h
    simp only [killF, h.1, Bool.false_eq_true, if_false, killF_none h.2]
theorem killF_keep {c : AV → Bool} {ts : List Nat} {t : Nat} {v : AV} {r : Asc} (h : c v = false) : killF c ts ((t, v) :: r) = (t, v) :: killF c ts r := by simp only [killF, h, Bool.false_eq_true, if_false]
theorem killF_out {c : AV → Bool} {ts : List Nat} {t : Nat} {v : AV} {r : Asc} (h : c v = true) (h2 : ts.contains t = true) : killF c ts ((t, v) :: r) = killF c ts r := by simp only [killF, h, h2, if_true]
theorem killF_stay {c : AV → Bool} {ts : List Nat} {t : Nat} {v : AV} {r : Asc} (h : ts.contains t = false) : killF c ts ((t, v) :: r) = (t, v) :: killF c ts r := by simp only [killF, h, Bool.false_eq_true, if_false, ite_self]
theorem killF_emp {c : AV → Bool} {ts : List Nat} : killF c ts [] = [] := rfl
theorem ofBytes_length (s : List UInt8) : (ofBytes s).length = s.length := by simp [ofBytes]
theorem plains_app (a b : List (List PV)) : plains (a ++ b) = plains a ++ plains b := by simp [plains]
theorem ofBytes_app (a b : List UInt8) : ofBytes (a ++ b) = ofBytes a ++ ofBytes b := by simp [ofBytes]
theorem put_byte (s : List UInt8) (b : UInt8) (r : List (List OV)) : plains (ofBytes s) ++ [.p (.int .u8 b.toNat)] :: r = plains (ofBytes (s ++ [b])) ++ r := by simp [plains, ofBytes]
theorem put_bytes (s t : List UInt8) : plains (ofBytes s) ++ plains (ofBytes t) = plains (ofBytes (s ++ t)) := by simp [plains, ofBytes]
theorem no_bytes : ([] : List (List OV)) = plains (ofBytes []) := rfl
theorem frzs_plain : ∀ (e : List PV), OV.frzs (e.map .p) = e
  | [] => rfl
  | x :: e => by simp only [List.map_cons, OV.frzs, OV.frz, frzs_plain e]
theorem frzss_plains : ∀ (l : List (List PV)), OV.frzss (plains l) = l
  | [] => rfl
  | e :: l => by
    have := frzss_plains l
    simp only [plains, List.map_cons, OV.frzss] at this ⊢
    rw [frzs_plain, this]
theorem wholes_plain : ∀ (e : List PV), OV.wholes (e.map .p) = true
  | [] => rfl
  | x :: e => by simp only [List.map_cons, OV.wholes, OV.whole, wholes_plain e, Bool.and_self]
theorem wholess_plains : ∀ (l : List (List PV)), OV.wholess (plains l) = true
  | [] => rfl
  | e :: l => by
    have := wholess_plains l
    simp only [plains, List.map_cons, OV.wholess] at this ⊢
    rw [wholes_plain, this]; rfl
theorem wholess_app : ∀ (a b : List (List OV)), OV.wholess (a ++ b) = (OV.wholess a && OV.wholess b)
  | [], b => by simp [OV.wholess]
  | e :: a, b => by simp only [List.cons_append, OV.wholess, wholess_app a b, Bool.and_assoc]
theorem frzss_app : ∀ (a b : List (List OV)), OV.frzss (a ++ b) = OV.frzss a ++ OV.frzss b
  | [], b => by simp [OV.frzss]
  | e :: a, b => by simp only [List.cons_append, OV.frzss, frzss_app a b]
theorem bytesOf_ofBytes : ∀ (s : List UInt8), bytesOf (ofBytes s) = some s
  | [] => rfl
  | b :: s => by
    have := bytesOf_ofBytes s
    simp only [ofBytes, List.map_cons, bytesOf] at this ⊢
    rw [this]
    simp
theorem ofBytes_get (s : List UInt8) (i : Nat) : (ofBytes s)[i]? = s[i]?.map fun b => [.int .u8 b.toNat] := by simp [ofBytes]
theorem plains_get (l : List (List PV)) (i : Nat) : (plains l)[i]? = l[i]?.map fun e => e.map .p := by simp [plains]
theorem take_plains (l : List (List PV)) (k : Nat) : (plains l).take k = plains (l.take k) := by simp [plains, List.map_take]
theorem drop_plains (l : List (List PV)) (k : Nat) : (plains l).drop k = plains (l.drop k) := by simp [plains, List.map_drop]
theorem take_ofBytes (l : List UInt8) (k : Nat) : (ofBytes l).take k = ofBytes (l.take k) := by simp [ofBytes, List.map_take]
theorem drop_ofBytes (l : List UInt8) (k : Nat) : (ofBytes l).drop k = ofBytes (l.drop k) := by simp [ofBytes, List.map_drop]
end Go.Pv
end

section
namespace Go.Pv
theorem lookup_mem {α : Type} : ∀ {l : List (Nat × α)} {f : Nat} {x : α}, l.lookup f = some x → (f, x) ∈ l
  | [], _, _, h => by simp at h
  | (g, y) :: r, f, x, h => by
    simp only [List.lookup] at h
    split at h
    · rename_i e
      simp at e h
      subst e; subst h
      exact List.mem_cons_self
    · exact List.mem_cons_of_mem _ (lookup_mem h)
def FnIs (P : Program) (f : Nat) (i : IFn) : Prop := ∃ F H, P.funcs[f]? = some F ∧ F.name ≠ "runtime.NumGoroutine" ∧ fnOf P H i.kills i.keeps F = some i
def ExtIs (P : Program) (f : Nat) (g : List AV → Option CRes) : Prop := ∀ as r, g as = some r → FnOk P f ∧ CallOk P f as r
def tabEnv (l : List (Nat × IFn)) (x : List (Nat × (List AV → Option CRes))) : Env := ⟨fun f => l.lookup f, fun f => x.lookup f⟩
theorem tabEnv_ok {P : Program} {l : List (Nat × IFn)} {x : List (Nat × (List AV → Option CRes))} (hm : P.follows .mixedOrders = true) (hl : ∀ p ∈ l, FnIs P p.1 p.2) (hx : ∀ p ∈ x, ExtIs P p.1 p.2) : EnvOk P (tabEnv l x) where
  mixed := hm
  prog := fun f i _ hp => hl _ (lookup_mem hp)
  ext := fun f g hg => hx _ (lookup_mem hg)
end Go.Pv
end
