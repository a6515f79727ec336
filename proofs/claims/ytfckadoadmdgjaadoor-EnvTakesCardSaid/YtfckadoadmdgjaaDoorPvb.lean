/- Own words of these sessions: a small interpreter over plain values, and the proof that the model computes what it answers. -/
import Derived.Test.YtfckadoadmdgjaaDoorPva
import Derived.Laws.StructEq
import Derived.ChangeKeysEq
import Derived.MapKept
import Derived.Lib.SliceRun
import Derived.Orders
import Derived.Scope
import Derived.LoopN
import Derived.RangeFuncLeaves
import Derived.RangeFuncNested
import Derived.CallsIn
import Derived.RangeFuncCalls
import Derived.Below
set_option linter.all false
section
namespace Go.Pv
open Go.RowKit
set_option linter.unusedVariables false
set_option linter.unusedSimpArgs false
section
variable {P : Program} {I : World → Prop} {B : Base I} {K : Kills} {σ σ' σ1 : List AV} {vals vals' : Nat → Value} {w w' : World} {Fz Fz' : BSet} {S S' : Nat → BSet} {a : Act} {hd : Nat} {dst : Option Nat} {v : AV} {x y : Value} {o : Oper} {Kt : Act → World → Prop} {Q : Exit → Act → World → Prop} {callf : Nat → List AV → Option CRes}
theorem run_mapM {α β : Type} (g : α → Sem β) (f : α → β) : ∀ (l : List α), (∀ a ∈ l, (g a).run P w = .ok (f a) w) → (l.mapM g).run P w = .ok (l.map f) w
  | [], _ => by simp
  | x :: l, h => by
    rw [List.mapM_cons]
    simp only [Sem.run_bind, h x (by simp), Result.andThen_ok, run_mapM g f l (fun a ha => h a (by simp [ha])), Sem.run_pure, List.map_cons]
theorem run_mapMA {α β : Type} (g : α → Sem β) (f : α → β) (l : Array α) (h : ∀ a ∈ l.toList, (g a).run P w = .ok (f a) w) : (l.mapM g).run P w = .ok (l.map f) w := by
  rw [Array.mapM_eq_mapM_toList]
  have e := run_mapM (P := P) (w := w) g f l.toList h
  have : (List.toArray <$> l.toList.mapM g : Sem (Array β)) = (do let r ← l.toList.mapM g; pure r.toArray) := by first | rfl | exact map_eq_pure_bind _ _
  have e2 : (l.toList.map f).toArray = l.map f := Array.ext' (by rw [Array.toList_map])
  rw [this, Sem.run_bind, e, Result.andThen_ok, Sem.run_pure, e2]
theorem part_ok {ox : Od} {x : Operand} {v : Val} {cs new cs' : List OV} {vc : List Value} {off n h1 : Nat} {t : TypeId} (h : St B K σ (valsOf a) w Fz S) (hx : OdIs (valsOf a) ox (a.eval x)) (g1 : (val ox).run σ = some (v, σ1)) (hlen : v.cs.length = n) (hw : OV.wholes v.cs = true)
    (g2 : (take K v).run σ1 = some (new, σ')) (hp : cellsPut cs off new = some cs') (h0 : σ.length ≤ h1) (hf : ∀ k, σ.length ≤ k → k ≠ h1 → ∀ b, ¬ S k b) (hL : RepL w Fz cs vc (S h1)) :
    σ'.length = σ.length ∧ ∃ S' vn, St B K σ' (valsOf a) w Fz S' ∧ (∀ k, σ.length ≤ k → k ≠ h1 → ∀ b, ¬ S' k b) ∧ (a.eval x).cells = vn.toArray ∧ vn.length = n ∧ off + n ≤ vc.length ∧ RepL w Fz cs' (vc.take off ++ vn ++ vc.drop (off + vn.length)) (S' h1) := by
  obtain ⟨rfl, hv⟩ := val_ok h hx g1
  have hne : h1 ≠ h1 + 1 := by omega
  obtain ⟨rfl, hl, S1, vs, q1, q2, q3, q4⟩ := take_ok (hd := h1 + 1) h hv g2 (by omega) (hf _ (by omega) (by omega))
  have hc := valIs_cells q2 (fun e => by rw [e] at q2; have := valIs_false q2; subst this; exact wholes_cells q3 hw _ (by simp))
  obtain ⟨S2, m1, m2, m3, m4⟩ := q1.merge (h1 := h1) (h2 := h1 + 1) (by omega) (by omega) hne
  have e1 := q4 h1 h0 hne
  have hple := (cellsPut_eq hp).2
  have := hL.length
  refine ⟨hl, S2, vs, m1, fun k hk hk' b hb => ?_, hc, by rw [q3.length, hlen], by omega, ?_⟩
  · by_cases e : k = h1 + 1
    · subst e; exact m3 b hb
    · rw [m4 k hk' e, q4 k hk (by omega)] at hb
      exact hf k hk hk' b hb
  · exact RepL.put (T1 := S h1) (T2 := S1 (h1 + 1)) hL q3 hp (fun b q q' => q1.dis h1 (h1 + 1) b hne (by rw [e1]; exact q) q') (fun b q => (m2 b).2 (.inl (by rw [e1]; exact q))) (fun b q => (m2 b).2 (.inr q))
theorem buildP_ok {fs : Array Field} {place : Nat → Option (Nat × Nat)} (hpl : ∀ (i : Nat) (f : Field), fs[i]? = some f → place i = some (f.offset, P.cellsOf f.type)) :
    ∀ {parts : List (Nat × Operand)} {l : List (Nat × Nat × Od)} {σ : List AV} {S : Nat → BSet} {cs cs' : List OV} {vc : List Value} {h1 : Nat}, partsS P fs parts = some l → St B K σ (valsOf a) w Fz S → (buildP K cs l).run σ = some (cs', σ') →
      σ.length ≤ h1 → (∀ k, σ.length ≤ k → k ≠ h1 → ∀ b, ¬ S k b) → RepL w Fz cs vc (S h1) →
      σ'.length = σ.length ∧ ∃ S' vc', St B K σ' (valsOf a) w Fz S' ∧ (∀ k, σ.length ≤ k → k ≠ h1 → ∀ b, ¬ S' k b) ∧ RepL w Fz cs' vc' (S' h1) ∧ Instr.fill place vc.toArray (parts.map fun p => (p.1, a.eval p.2)) = some vc'.toArray
  | [], l, σ, S, cs, cs', vc, h1, hpa, h, hr, h0, hf, hL => by
    simp only [partsS, Option.some.injEq] at hpa
    subst hpa
    simp only [buildP, Pg.run_ret, Option.some.injEq, Prod.mk.injEq] at hr
    obtain ⟨rfl, rfl⟩ := hr
    exact ⟨rfl, S, vc, h, hf, hL, rfl⟩
  | (i, x) :: parts, l, σ, S, cs, cs', vc, h1, hpa, h, hr, h0, hf, hL => by
    simp only [partsS] at hpa
    split at hpa
    case h_2 => simp at hpa
    rename_i f hfi
    split at hpa
    case h_2 => simp at hpa
    rename_i ox l' hx hpa'
    split at hpa
    case isFalse => simp at hpa
    simp only [Option.some.injEq] at hpa
    subst hpa
    simp only [buildP] at hr
    obtain ⟨v, σ2, g1, r1⟩ := Pg.bind_some hr
    obtain ⟨hg, r2⟩ := Pg.guard_some r1
    simp only [Bool.and_eq_true, beq_iff_eq] at hg
    obtain ⟨new, σ3, g2, r3⟩ := Pg.bind_some r2
    obtain ⟨cs2, g3, r4⟩ := Pg.opt_some r3
    obtain ⟨hl, S1, vn, k1, k2, k3, k4, k5, k6⟩ := part_ok (t := 0) h (odOf_ok hx) g1 hg.1 hg.2 g2 g3 h0 hf hL
    obtain ⟨hl2, S2, vc2, m1, m2, m3, m4⟩ := buildP_ok hpl hpa' k1 r4 (by omega) (fun k hk => k2 k (by omega)) k6
    refine ⟨hl2.trans hl, S2, vc2, m1, fun k hk => m2 k (by omega), m3, ?_⟩
    obtain ⟨c', e1, e2⟩ := fill_one (place := place) (cells := vc.toArray) (i := i) (rest := parts.map fun p => (p.1, a.eval p.2)) (hpl i f hfi) k3 k4 (by simpa using k5)
    have : c' = (vc.take f.offset ++ vn ++ vc.drop (f.offset + vn.length)).toArray := by apply Array.ext'; rw [e1]
    rw [List.map_cons, e2, this, m4]
theorem sound_build {t : TypeId} {fs : Array Field} {parts : Array (Nat × Operand)} {zs : List OV} {l : List (Nat × Nat × Od)} (ho : o.op = .build t parts) (ht : P.underlying t = some (.struct fs)) (hz : zeroCells P t = some zs) (hpa : partsS P fs parts.toList = some l)
    (hall : (fs.toList.all fun f => has P f.type) = true) : Sound I P callf o (.build zs l) := by
  intro B K σ σ' a w u hI hr Kt Q hk
  obtain ⟨hdf, hn, Fz, S, h, hfree⟩ := hI
  obtain ⟨i, v, h1, h2, h3⟩ := zeroCells_ok hz
  obtain ⟨cs, σ1, g1, r1⟩ := Pg.bind_some hr
  have hpl : ∀ (i : Nat) (f : Field), fs[i]? = some f → (fs.map fun (f : Field) => (f.offset, P.cellsOf f.type))[i]? = some (f.offset, P.cellsOf f.type) := fun i f hf => by simp [hf]
  obtain ⟨hl, S', vc, k1, k2, k3, k4⟩ := buildP_ok (place := fun i => (fs.map fun (f : Field) => (f.offset, P.cellsOf f.type))[i]?) (h1 := σ.length) hpl hpa h g1 (Nat.le_refl _) (Inv.free hfree _) ((h3 w Fz).mono fun _ q => q.elim)
  refine wp_value (x := .agg vc.toArray) (w' := w) ?_ (hk _ _ (fin (hd := σ.length) k1 hdf (hn.trans hl.symm) (by omega) (fun k hk => k2 k (by omega)) r1 (fun d _ => ⟨vc, rfl, by rw [mvS_d]; exact k3⟩) (fun y hy => by simp [AV.on] at hy)))
  have hm : (fs.mapM fun (f : Field) => (do pure (f.offset, ← sizeOf f.type) : Sem (Nat × Nat))).run P w = .ok (fs.map fun (f : Field) => (f.offset, P.cellsOf f.type)) w :=
    run_mapMA _ _ fs fun f hf => by
      simp only [List.all_eq_true] at hall
      simp only [Sem.run_bind, run_sizeOf' (hall f hf), Result.andThen_ok, Sem.run_pure]
  have hparts : (parts.map fun (p : Nat × Operand) => (p.1, a.eval p.2)).toList = parts.toList.map fun p => (p.1, a.eval p.2) := by simp
  have hv : v.cells = v.cells.toList.toArray := by simp
  rw [← hv] at k4
  simp only [execOp, ho, Sem.run_bind, Instr.build, run_zeroValue h1 h2, Result.andThen_ok, run_underlying ht, hm, hparts, k4, Sem.run_pure]
theorem bsliceP_ok {e : TypeId} {z : Nat} (hzz : z = P.cellsOf e) (hz0 : 0 < z) :
    ∀ {parts : List (Nat × Operand)} {l : List (Nat × Od)} {σ : List AV} {S : Nat → BSet} {els els' : List (List OV)} {vc : List Value} {h1 : Nat}, partsE P e parts = some l → St B K σ (valsOf a) w Fz S → (bsliceP K z els l).run σ = some (els', σ') →
      σ.length ≤ h1 → (∀ k, σ.length ≤ k → k ≠ h1 → ∀ b, ¬ S k b) → RepL w Fz els.flatten vc (S h1) → (∀ e ∈ els, e.length = z) →
      σ'.length = σ.length ∧ els'.length = els.length ∧ (∀ e ∈ els', e.length = z) ∧ ∃ S' vc', St B K σ' (valsOf a) w Fz S' ∧ (∀ k, σ.length ≤ k → k ≠ h1 → ∀ b, ¬ S' k b) ∧ RepL w Fz els'.flatten vc' (S' h1) ∧
        Instr.fill (fun i => some (i * z, z)) vc.toArray (parts.map fun p => (p.1, a.eval p.2)) = some vc'.toArray
  | [], l, σ, S, els, els', vc, h1, hpa, h, hr, h0, hf, hL, hle => by
    simp only [partsE, Option.some.injEq] at hpa
    subst hpa
    simp only [bsliceP, Pg.run_ret, Option.some.injEq, Prod.mk.injEq] at hr
    obtain ⟨rfl, rfl⟩ := hr
    exact ⟨rfl, rfl, hle, S, vc, h, hf, hL, rfl⟩
  | (i, x) :: parts, l, σ, S, els, els', vc, h1, hpa, h, hr, h0, hf, hL, hle => by
    simp only [partsE] at hpa
    split at hpa
    case h_2 => simp at hpa
    rename_i ox l' hx hpa'
    simp only [Option.some.injEq] at hpa
    subst hpa
    simp only [bsliceP] at hr
    obtain ⟨v, σ2, g1, r1⟩ := Pg.bind_some hr
    obtain ⟨hg, r2⟩ := Pg.guard_some r1
    simp only [Bool.and_eq_true, beq_iff_eq, decide_eq_true_eq] at hg
    obtain ⟨new, σ3, g2, r3⟩ := Pg.bind_some r2
    have hnew : new.length = z := by
      obtain ⟨e0, hv⟩ := val_ok h (odOf_ok (a := a) hx) g1
      subst e0
      obtain ⟨rfl, _⟩ := take_ok (hd := h1 + 1) h hv g2 (by omega) (hf _ (by omega) (by omega))
      exact hg.1.1
    have hei : els[i]? = some els[i] := List.getElem?_eq_getElem hg.1.2
    have hput : cellsPut els.flatten (i * z) new = some (els.set i new).flatten := by
      obtain ⟨f1, f2⟩ := flatten_at hle hei
      have f3 := flatten_set (e' := new) hei
      have f4 := hle _ (List.mem_of_getElem? hei)
      have hlen : els.flatten.length = els.length * z := flatten_len hle
      have hle2 : i * z + new.length ≤ els.flatten.length := by
        rw [hlen, hnew]
        have := Nat.mul_le_mul_right z (show i + 1 ≤ els.length by omega)
        rw [Nat.add_mul] at this
        omega
      unfold cellsPut
      rw [if_pos hle2, f3]
      congr 1
      rw [f1]
      have t1 : ((els.take i).flatten ++ els[i] ++ (els.drop (i + 1)).flatten).take (i * z) = (els.take i).flatten := by
        rw [List.append_assoc, List.take_append_of_le_length (by omega), List.take_of_length_le (by omega)]
      have t2 : ((els.take i).flatten ++ els[i] ++ (els.drop (i + 1)).flatten).drop (i * z + new.length) = (els.drop (i + 1)).flatten := by
        rw [List.drop_append, List.drop_of_length_le (by simp only [List.length_append, f2, f4, hnew]; omega), List.nil_append, List.length_append, f2, f4, hnew]
        simp
      rw [t1, t2]
    obtain ⟨hl, S1, vn, k1, k2, k3, k4, k5, k6⟩ := part_ok (t := 0) h (odOf_ok hx) g1 hg.1.1 hg.2 g2 hput h0 hf hL
    obtain ⟨hl2, hl3, hl4, S2, vc2, m1, m2, m3, m4⟩ := bsliceP_ok hzz hz0 hpa' k1 r3 (by omega) (fun k hk => k2 k (by omega)) k6 (fun y hy => by
      rcases List.mem_or_eq_of_mem_set hy with hy | rfl
      · exact hle y hy
      · exact hnew)
    refine ⟨hl2.trans hl, by rw [hl3, List.length_set], hl4, S2, vc2, m1, fun k hk => m2 k (by omega), m3, ?_⟩
    obtain ⟨c', e1, e2⟩ := fill_one (place := fun i => some (i * z, z)) (cells := vc.toArray) (i := i) (rest := parts.map fun p => (p.1, a.eval p.2)) rfl k3 k4 (by simpa using k5)
    have : c' = (vc.take (i * z) ++ vn ++ vc.drop (i * z + vn.length)).toArray := by apply Array.ext'; rw [e1]
    rw [List.map_cons, e2, this, m4]
theorem St.newOwn {z cap : Nat} {els : List (List OV)} {c : Array Value} {e : TypeId} {vs : List Value} {fz : Nat × Nat} {w1 : World} (h : St B K σ vals w Fz S) (h0 : σ.length ≤ hd) (hL : RepL w Fz els.flatten vs (S hd)) (hle : ∀ e ∈ els, e.length = z) (hz : 0 < z) (hcap : els.length ≤ cap)
    (hw1 : Step (fun _ => False) w w1) (hb : w1.heap[w.heap.size]? = some (.cells c e fz)) (hfz : ∀ o, o < c.size → ¬ (fz.1 ≤ o ∧ o < fz.2)) (hend : z = 1 ∨ ¬ (fz.1 ≤ c.size ∧ c.size < fz.2)) (hsz : cap * z ≤ c.size) (hvs : c.toList.take vs.length = vs) :
    ∃ S', St B K σ vals w1 Fz S' ∧ (∀ k, k ≠ hd → S' k = S k) ∧ RepO w1 Fz (.own z els) (.slice (some ⟨w.heap.size, 0, none⟩) els.length cap) (S' hd) := by
  have hlt : w.heap.size < w1.heap.size := (Array.getElem?_eq_some_iff.1 hb).1
  refine ⟨_, h.step h0 (hw1.mono fun _ q => q.elim) (T := fun b => S hd b ∨ b = w.heap.size) (fun b hb => hb.imp id fun q => ⟨by omega, by subst q; exact hlt⟩), fun k hk => by simp [updS, hk], ?_⟩
  have hold : ∀ b, Fz b ∨ S hd b → w1.heap[b]? = w.heap[b]? := fun b hb => hw1.keep b (hb.elim (h.frz b) fun q => (h.tok hd b q).1) fun q => q
  refine repO_own.2 (.inr ⟨⟨w.heap.size, 0, none⟩, cap, vs, S hd, rfl, by simp [updS], rfl, hz, hle, hcap, ⟨⟨c, e, fz, hb, by simpa using hsz, hfz⟩, hend.imp id fun q => ⟨c, e, fz, hb, q⟩⟩, ?_, hL.keep (fun _ h => h) hold (fun _ h => h), fun b hb => by simp only [updS, if_true]; exact .inl hb, fun hb => ?_⟩)
  · intro j v hj
    have hj' : c.toList[j]? = some v := by
      rw [← hvs, List.getElem?_take] at hj
      split at hj
      · exact hj
      · simp at hj
    simp only [World.cell?, hb]
    simpa using hj'
  · have := (h.tok hd _ hb).1
    simp at this
theorem range_zero (z : List Value) (hz : 0 < z.length) : ∀ n : Nat, ((Array.range (n * z.length)).map fun j => z.toArray[j % z.toArray.size]!).toList = (List.replicate n z).flatten := by
  intro n
  apply List.ext_getElem?
  intro j
  have hl : (List.replicate n z).flatten.length = n * z.length := by simp
  rcases Nat.lt_or_ge j (n * z.length) with hj | hj
  · have hr : (List.replicate n z).flatten[j]? = z[j % z.length]? := by
      clear hl
      induction n generalizing j with
      | zero => simp at hj
      | succ n ih =>
        rw [List.replicate_succ, List.flatten_cons]
        rcases Nat.lt_or_ge j z.length with h1 | h1
        · rw [List.getElem?_append_left h1, Nat.mod_eq_of_lt h1]
        · rw [List.getElem?_append_right h1]
          have : j - z.length < n * z.length := by rw [Nat.add_mul] at hj; omega
          rw [ih _ this]
          congr 1
          rw [Nat.mod_eq_sub_mod h1]
    rw [hr]
    have hm : j % z.length < z.length := Nat.mod_lt _ hz
    simp [hj, hm, Array.getElem!_eq_getD]
  · rw [List.getElem?_eq_none (by simpa using hj), List.getElem?_eq_none (by rw [hl]; exact hj)]
theorem zero_flat {zs : List OV} {zv : List Value} (h : ∀ w Fz, RepL w Fz zs zv (fun _ => False)) (n : Nat) (T : BSet) : RepL w Fz (List.replicate n zs).flatten (List.replicate n zv).flatten T := by
  induction n with
  | zero => trivial
  | succ n ih =>
    rw [List.replicate_succ, List.replicate_succ, List.flatten_cons, List.flatten_cons]
    exact (h w Fz).append ih (fun _ q => q.elim) (fun _ q => q) (fun _ q => q.elim)
theorem sound_bslice {t e : TypeId} {len : Nat} {parts : Array (Nat × Operand)} {zs : List OV} {l : List (Nat × Od)} (ho : o.op = .buildSlice t len parts) (ht : P.underlying t = some (.slice e)) (hz : zeroCells P e = some zs) (hpa : partsE P e parts.toList = some l)
    (hz0 : 0 < P.cellsOf e) (hzl : zs.length = P.cellsOf e) (hle : len * P.cellsOf e ≤ 16777216) : Sound I P callf o (.bslice (P.cellsOf e) zs len l) := by
  intro B K σ σ' a w u hI hr Kt Q hk
  obtain ⟨hdf, hn, Fz, S, h, hfree⟩ := hI
  obtain ⟨i, v, h1, h2, h3⟩ := zeroCells_ok hz
  have hsize : i.size = P.cellsOf e := by simp [Program.cellsOf, h1]
  have hzv : v.cells.toList.length = P.cellsOf e := by rw [(h3 w Fz).length, hzl]
  obtain ⟨els, σ1, g1, r1⟩ := Pg.bind_some hr
  obtain ⟨hl, hl2, hl3, S', vc, k1, k2, k3, k4⟩ := bsliceP_ok (h1 := σ.length) rfl hz0 hpa h g1 (Nat.le_refl _) (Inv.free hfree _) (zero_flat h3 len _) (fun y hy => by rw [List.eq_of_mem_replicate hy]; exact hzl)
  have hvl : vc.length = len * P.cellsOf e := by rw [k3.length, flatten_len hl3, hl2, List.length_replicate]
  obtain ⟨S2, m1, m2, m3⟩ := k1.newOwn (hd := σ.length) (cap := len) (c := vc.toArray) (e := e) (w1 := w.alloc (.cells vc.toArray e)) (fz := (0, 0)) (by omega) k3 hl3 hz0 (by rw [hl2]; simp) (alloc_step w _ _) (heap_alloc_new w _) (fun o _ => by simp) (.inr (by simp)) (by simp [hvl]) (by simp)
  rw [hl2, List.length_replicate] at m3
  refine wp_value (x := .slice (some ⟨w.heap.size, 0, none⟩) len len) (w' := w.alloc (.cells vc.toArray e)) ?_ (hk _ _ (fin_w (hd := σ.length) m1 hdf (hn.trans hl.symm) (by omega) (fun k hk hne b => by rw [m2 k hne]; exact k2 k (by omega) hne b) r1 m3))
  have hparts : (parts.map fun (p : Nat × Operand) => (p.1, a.eval p.2)).toList = parts.toList.map fun p => (p.1, a.eval p.2) := by simp
  have hsz : (sizeOf e).run P w = .ok (P.cellsOf e) w := by simp [sizeOf, typeInfo, h1, program, Sem.run, hsize]
  have hcells : (Array.range (len * P.cellsOf e)).map (fun j => (v.cells)[j % v.cells.size]!) = (List.replicate len v.cells.toList).flatten.toArray := by
    apply Array.ext'
    have := range_zero v.cells.toList (by omega) len
    rw [hzv] at this
    simpa using this
  simp only [execOp, ho, Sem.run_bind, Instr.buildSlice, run_underlying ht, Result.andThen_ok, hsz, hparts]
  rw [if_neg (by simp; omega)]
  by_cases h0 : len * P.cellsOf e = 0
  · have hlen0 : len = 0 := by rcases Nat.mul_eq_zero.1 h0 with q | q; exact q; omega
    subst hlen0
    simp only [List.replicate_zero, List.flatten_nil] at k4
    simp only [h0, if_true, Sem.run_bind, Sem.run_pure, Result.andThen_ok, Array.range_zero', Array.map_empty, k4, newRow]
    rfl
  · rw [if_neg h0]
    simp only [Sem.run_bind, run_zeroValue h1 h2, Result.andThen_ok, Sem.run_pure, hcells, k4, newRow]
    rfl
theorem sound_mks {t e : TypeId} {i : TypeInfo} {n c : Operand} {zs : List OV} {on oc : Od} (ho : o.op = .makeSlice t n c) (ht : P.underlying t = some (.slice e)) (hz : zeroCells P e = some zs) (hi : P.info? e = some i) (hon : odS n = some on) (hoc : odS c = some oc)
    (hz0 : 0 < P.cellsOf e) (hzl : zs.length = P.cellsOf e) : Sound I P callf o (.mks (P.cellsOf e) i.bytes zs on oc) := by
  intro B K σ σ' a w u hI hr Kt Q hk
  obtain ⟨hdf, hn, Fz, S, h, hfree⟩ := hI
  obtain ⟨i', v, h1, h2, h3⟩ := zeroCells_ok hz
  obtain rfl : i' = i := by rw [h1] at hi; exact Option.some.inj hi
  have hsize : i'.size = P.cellsOf e := by simp [Program.cellsOf, h1]
  have hzv : v.cells.toList.length = P.cellsOf e := by rw [(h3 w Fz).length, hzl]
  obtain ⟨n', σ1, g1, r1⟩ := Pg.bind_some hr
  obtain ⟨rfl, kn, en⟩ := scInt_ok h (odS_ok (a := a) hon) g1
  obtain ⟨c', σ2, g2, r2⟩ := Pg.bind_some r1
  obtain ⟨rfl, kc, ec⟩ := scInt_ok h (odS_ok (a := a) hoc) g2
  split at r2
  case isFalse => simp at r2
  rename_i hcond
  obtain ⟨c1, c2, c3, c4⟩ := hcond
  have hrun := run_make (P := P) w t e i' v ht h1 h2 kn kc n' c' c1 c2 (by rw [Int.mul_comm]; omega) (by omega)
  have hcells : (madeCells v.cells (c'.toNat * i'.size)).toList = (List.replicate c'.toNat v.cells.toList).flatten := by
    have := range_zero v.cells.toList (by omega) c'.toNat
    rw [hzv, ← hsize] at this
    simpa [madeCells] using this
  have hflat : (List.replicate c'.toNat v.cells.toList).flatten.length = c'.toNat * P.cellsOf e := by
    rw [flatten_len (z := P.cellsOf e) (fun y hy => by rw [List.eq_of_mem_replicate hy]; exact hzv), List.length_replicate]
  have hnle : n'.toNat ≤ c'.toNat := by omega
  obtain ⟨S2, m1, m2, m3⟩ := h.newOwn (hd := σ2.length) (z := P.cellsOf e) (cap := c'.toNat) (els := List.replicate n'.toNat zs) (vs := (List.replicate n'.toNat v.cells.toList).flatten) (c := madeCells v.cells (c'.toNat * i'.size)) (e := e) (w1 := w.alloc (.cells (madeCells v.cells (c'.toNat * i'.size)) e)) (fz := (0, 0))
    (Nat.le_refl _) (zero_flat h3 _ _) (fun y hy => by rw [List.eq_of_mem_replicate hy]; exact hzl) hz0 (by simpa using hnle) (alloc_step w _ _) (heap_alloc_new w _) (fun o _ => by simp) (.inr (by simp)) (by rw [size_madeCells, hsize]; exact Nat.le_refl _) (by
      rw [hcells]
      have : c'.toNat = n'.toNat + (c'.toNat - n'.toNat) := by omega
      rw [this, ← List.replicate_append_replicate, List.flatten_append, List.take_left])
  rw [List.length_replicate] at m3
  refine wp_value (x := .slice (some ⟨w.heap.size, 0, none⟩) n'.toNat c'.toNat) (w' := w.alloc (.cells (madeCells v.cells (c'.toNat * i'.size)) e)) ?_ (hk _ _ (fin_w (hd := σ2.length) m1 hdf hn (Nat.le_refl _) (fun k hk hne b => by rw [m2 k hne]; exact hfree k (by omega) b) r2 m3))
  simp only [execOp, ho, Sem.run_bind, en, ec, hrun, Result.andThen_ok, Sem.run_pure]
end
end Go.Pv
end

section
namespace Go.Pv
open Go.RowKit
set_option linter.unusedVariables false
set_option linter.unusedSimpArgs false
section
variable {P : Program} {I : World → Prop} {B : Base I} {K : Kills} {σ σ' σ1 : List AV} {vals vals' : Nat → Value} {w w' : World} {Fz Fz' : BSet} {S S' : Nat → BSet} {a : Act} {hd : Nat} {dst : Option Nat} {v : AV} {x y : Value} {o : Oper} {Kt : Act → World → Prop} {Q : Exit → Act → World → Prop} {callf : Nat → List AV → Option CRes}
def notInt (P : Program) (u : TypeId) : Prop := ∃ d, P.underlying u = some d ∧ ∀ k, d ≠ .int k
theorem run_append_fit {t u ty e : TypeId} {i : TypeInfo} {base : Option Addr} {sLen sCap n : Nat} {yv : Value} {news : List Value} (ht : P.underlying t = some (.slice e)) (hu : notInt P u) (hi : P.info? e = some i)
    (hlen : (Builtin.lenOf yv).run P w = .ok n w) (hfc : (Builtin.firstCells i.size n yv).run P w = .ok news.toArray w) (hfit : sLen + n ≤ sCap) :
    (Builtin.append_ #[t, u] ty #[.slice base sLen sCap, yv]).run P w = match (generalizing := false) base with
      | some a => ((storeCells (a.add (sLen * i.size)) news).run P w).andThen fun _ w' => .ok (.slice base (sLen + n) sCap) w'
      | none => .ok (.slice base (sLen + n) sCap) w := by
  obtain ⟨d, hd, hd'⟩ := hu
  have hz : (match d with | .int _ => true | _ => false) = false := by cases d <;> simp at hd' ⊢
  have hsz : (sizeOf e).run P w = .ok i.size w := by simp [sizeOf, typeInfo, hi, program, Sem.run]
  cases base with
  | none =>
    simp only [Builtin.append_, List.getElem?_toArray, List.getElem?_cons_zero, List.getElem?_cons_succ, Sem.run_bind, run_underlying ht, run_underlying hd, Result.andThen_ok, hsz, Sem.run_pure]
    cases d <;> first | (exact absurd rfl (hd' _)) | (simp only [Bool.false_eq_true, if_false, Bool.not_false, if_true, hlen, Result.andThen_ok, if_pos hfit, Sem.run_bind, hfc, Sem.run_pure])
  | some a =>
    simp only [Builtin.append_, List.getElem?_toArray, List.getElem?_cons_zero, List.getElem?_cons_succ, Sem.run_bind, run_underlying ht, run_underlying hd, Result.andThen_ok, hsz, Sem.run_pure]
    cases d <;> first | (exact absurd rfl (hd' _)) | (simp only [Bool.false_eq_true, if_false, Bool.not_false, if_true, hlen, Result.andThen_ok, if_pos hfit, Sem.run_bind, hfc, Sem.run_pure])
theorem run_askRoom (n : Nat) : (askRoom n).run P w = .ok () w := by
  unfold askRoom; split <;> rfl
theorem run_append_new {t u ty e : TypeId} {i : TypeInfo} {z : Value} {base : Option Addr} {sLen sCap n : Nat} {yv : Value} {olds news : List Value} (ht : P.underlying t = some (.slice e)) (hu : notInt P u) (hi : P.info? e = some i) (hz : i.zero = some z) (hb : 0 < i.bytes)
    (hlen : (Builtin.lenOf yv).run P w = .ok n w) (hfc : (Builtin.firstCells i.size n yv).run P w.drew = .ok news.toArray w.drew) (hfo : (Builtin.firstCells i.size sLen (.slice base sLen sCap)).run P w.drew = .ok olds.toArray w.drew)
    (hfit : sCap < sLen + n) (h63 : sLen + n ≤ 140737488351232) (hbytes : (sLen + n) * i.bytes ≤ 140737488351232) :
    ∃ cap rest, sLen + n ≤ cap ∧ rest.length = (cap - (sLen + n)) * z.cells.size ∧ (Builtin.append_ #[t, u] ty #[.slice base sLen sCap, yv]).run P w =
      .ok (.slice (some ⟨w.heap.size, 0, none⟩) (sLen + n) cap) (w.drew.alloc (.cells (olds ++ news ++ rest).toArray e)) := by
  obtain ⟨d, hd, hd'⟩ := hu
  have hsz : (sizeOf e).run P w = .ok i.size w := by simp [sizeOf, typeInfo, hi, program, Sem.run]
  have hti : ∀ w : World, (typeInfo e).run P w = .ok i w := fun w => by simp [typeInfo, hi, program, Sem.run]
  have hzv : ∀ w : World, (zeroValue e).run P w = .ok z w := fun w => run_zeroValue hi hz
  have hnf : ¬ (sLen + n ≤ sCap) := by omega
  have h48 := growslice_fits (need := sLen + n) (old := sCap) (bytes := i.bytes) (by omega) (by omega)
  refine ⟨grownCap w (sLen + n) sCap e, (Builtin.zeroCells z.cells (grownCap w (sLen + n) sCap e - (sLen + n))).toList, grownCap_ge _ _ _ _, by simp [Builtin.zeroCells], ?_⟩
  have hch : (choose (.appendCap (sLen + n) sCap e)).run P w = .ok (grownCap w (sLen + n) sCap e) w.drew := by
    simp [choose, Sem.run, Question.forced, grownCap, World.drew, -World.drew_eq]
  have harr : (olds.toArray ++ news.toArray ++ Builtin.zeroCells z.cells (grownCap w (sLen + n) sCap e - (sLen + n))) = (olds ++ news ++ (Builtin.zeroCells z.cells (grownCap w (sLen + n) sCap e - (sLen + n))).toList).toArray := by
    apply Array.ext'; simp
  simp only [Builtin.append_, List.getElem?_toArray, List.getElem?_cons_zero, List.getElem?_cons_succ, Sem.run_bind, run_underlying ht, run_underlying hd, Result.andThen_ok, hsz, Sem.run_pure]
  have hc1 : ¬ (((sLen + n : Nat) : Int) > IntKind.i64.max ∧ (False ∨ i.bytes = 0)) := by
    rintro ⟨_, h | h⟩
    · exact h
    · omega
  cases d <;> first
    | (exact absurd rfl (hd' _))
    | (simp only [Bool.false_eq_true, if_false, Bool.not_false, if_true, hlen, Result.andThen_ok, if_neg hnf, Sem.run_bind, hti, Sem.run_pure]
       rw [if_neg hc1]
       simp only [Sem.run_bind, hti, Result.andThen_ok, Sem.run_pure, hch]
       rw [if_neg (by omega)]
       simp only [Sem.run_bind, hti, Result.andThen_ok, Sem.run_pure, hch, run_askRoom, hfo, hfc, hzv, newRow, harr]
       rfl)
theorem append_ok {z h1 : Nat} {t u ty e : TypeId} {i : TypeInfo} {zv : Value} {els new : List (List OV)} {xs yv : Value} {news : List Value} {T1 T2 : BSet} (h : St B K σ vals w Fz S) (h0 : σ.length ≤ h1) (hO : RepO w Fz (.own z els) xs T1) (hT1 : ∀ b, T1 b → S h1 b)
    (hL : RepL w Fz new.flatten news T2) (hT2 : ∀ b, T2 b → S h1 b) (hdj : ∀ b, T1 b → ¬ T2 b) (hle : ∀ e ∈ new, e.length = z) (hone : ∀ v ∈ news, v.oneCell' = true)
    (ht : P.underlying t = some (.slice e)) (hu : notInt P u) (hi : P.info? e = some i) (hz : i.zero = some zv) (hzs : zv.cells.size = z) (hsz : i.size = z) (hz0 : 0 < z) (hb : 0 < i.bytes)
    (hlen : (Builtin.lenOf yv).run P w = .ok new.length w) (hfc : ∀ w0 : World, w0.heap = w.heap → (Builtin.firstCells z new.length yv).run P w0 = .ok news.toArray w0)
    (h63 : els.length + new.length ≤ 140737488351232) (hbytes : (els.length + new.length) * i.bytes ≤ 140737488351232) :
    ∃ x' w' S', (Builtin.append_ #[t, u] ty #[xs, yv]).run P w = .ok x' w' ∧ St B K σ vals w' Fz S' ∧ (∀ k, k ≠ h1 → S' k = S k) ∧ RepO w' Fz (.own z (els ++ new)) x' (S' h1) := by
  have hnl := hL.length
  rw [flatten_len hle] at hnl
  have e1 : (els ++ new).length = els.length + new.length := by simp
  have key : ∃ (base : Option Addr) (cap : Nat) (olds : List Value) (U : BSet), xs = .slice base els.length cap ∧ els.length ≤ cap ∧ RepL w Fz els.flatten olds U ∧ (∀ b, U b → T1 b) ∧ (∀ e ∈ els, e.length = z) ∧
      ((els = [] ∧ cap = 0) ∨ ∃ a, base = some a ∧ T1 a.block ∧ a.spot = none ∧ ¬ U a.block ∧ RowZ z w a.block (a.off + cap * z) ∧ CellsAt w a.block a.off olds) := by
    rcases repO_own.1 hO with ⟨rfl, a, rfl⟩ | ⟨a, cap, vs, U, rfl, k1, k2, k3, k4, k5, k6, k7, k8, k9, k10⟩
    · exact ⟨a, 0, [], fun _ => False, rfl, Nat.le_refl _, trivial, fun _ q => q.elim, fun e he => by simp at he, .inl ⟨rfl, rfl⟩⟩
    · exact ⟨some a, cap, vs, U, rfl, k5, k8, k9, k4, .inr ⟨a, rfl, k1, k2, k10, k6, k7⟩⟩
  obtain ⟨base, cap, olds, U, rfl, hcap, hLo, hU, hleo, hbase⟩ := key
  have hol := hLo.length
  rw [flatten_len hleo] at hol
  have hfl : (els ++ new).flatten = els.flatten ++ new.flatten := by simp
  have hle2 : ∀ e ∈ els ++ new, e.length = z := fun e he => (List.mem_append.1 he).elim (hleo e) (hle e)
  have hLa : RepL w Fz (els ++ new).flatten (olds ++ news) (fun b => U b ∨ T2 b) := by
    rw [hfl]
    exact hLo.append hL (fun b q => .inl q) (fun b q => .inr q) (fun b q => hdj b (hU b q))
  by_cases hfit : els.length + new.length ≤ cap
  · have hrun := run_append_fit (P := P) (w := w) (ty := ty) (base := base) (sLen := els.length) (sCap := cap) ht hu hi hlen (by rw [hsz]; exact hfc w rfl) hfit
    rcases hbase with ⟨rfl, rfl⟩ | ⟨a, rfl, g1, g2, g3, g4, g5⟩
    · have hn0 : new = [] := List.eq_nil_of_length_eq_zero (by simp at hfit; simpa using hfit)
      subst hn0
      have hnews : news = [] := List.eq_nil_of_length_eq_zero (by simpa using hnl)
      subst hnews
      refine ⟨.slice base 0 0, w, S, ?_, h, fun _ _ => rfl, .nil z base _⟩
      rw [hrun]
      cases base <;> simp [storeCells, Sem.run_pure, Result.andThen]
    · have hrow : Row w a.block ((a.add (els.length * z)).off + 0 + news.length) := by
        rw [addr_add g2]
        refine g4.1.le ?_
        have := Nat.mul_le_mul_right z hfit
        rw [Nat.add_mul] at this
        simp only [hnl]
        omega
      have hs2 : (a.add (els.length * z)).spot = none := by rw [addr_add g2]
      have hb2 : (a.add (els.length * z)).block = a.block := by rw [addr_add g2]
      obtain ⟨w', r1, r2, r3, r4⟩ := run_storeCells (P := P) hs2 news 0 w (by rw [hb2]; exact hrow) hone
      rw [hb2] at r2 r3
      rw [addr_add g2] at r2
      simp only [Nat.add_zero] at r2
      have hstep := h.step (hd := h1) h0 (r3.mono fun b e => by subst e; exact hT1 _ g1) (T := S h1) (fun b q => .inl q)
      have hS : updS S h1 (S h1) = S := by funext k; simp only [updS]; split <;> simp_all
      rw [hS] at hstep
      have hkeep : ∀ b, Fz b ∨ (U b ∨ T2 b) → w'.heap[b]? = w.heap[b]? := by
        intro b hb
        refine r3.keep b ?_ (fun e => ?_)
        · rcases hb with q | q | q
          · exact h.frz b q
          · exact (h.tok _ b (hT1 b (hU b q))).1
          · exact (h.tok _ b (hT2 b q)).1
        · subst e
          rcases hb with q | q | q
          · exact (h.tok _ _ (hT1 _ g1)).2.1 q
          · exact g3 q
          · exact hdj _ g1 q
      refine ⟨.slice (some a) (els.length + new.length) cap, w', S, ?_, hstep, fun _ _ => rfl, ?_⟩
      · rw [hrun, hsz]
        simp only [r1, Result.andThen_ok]
      · rw [← e1]
        refine repO_own.2 (.inr ⟨a, cap, olds ++ news, fun b => U b ∨ T2 b, rfl, hT1 _ g1, g2, hz0, hle2, by rw [e1]; exact hfit, r2.rowZ g4, ?_, hLa.keep (fun _ q => q) hkeep (fun _ q => q), fun b q => q.elim (fun q => hT1 b (hU b q)) (hT2 b), fun q => q.elim g3 (hdj _ g1)⟩)
        have hcells : CellsAt w' a.block a.off (olds ++ news) := by
          intro j v hj
          rw [r2.cell]
          rw [List.getElem?_append] at hj
          split at hj
          · rename_i hlt
            rw [if_neg (by omega)]
            exact g5 j v hj
          · rename_i hge
            have hlt := (List.getElem?_eq_some_iff.1 hj).1
            rw [if_pos (by omega), ← hj]
            congr 1
            omega
        exact hcells
  · have hfo : (Builtin.firstCells i.size els.length (.slice base els.length cap)).run P w.drew = .ok olds.toArray w.drew := by
      rcases hbase with ⟨rfl, rfl⟩ | ⟨a, rfl, g1, g2, g3, g4, g5⟩
      · have : olds = [] := List.eq_nil_of_length_eq_zero (by simpa using hol)
        subst this
        cases base <;> simp [Builtin.firstCells, loadCells, loadCellsFrom, Sem.run_pure]
      · exact run_firstCells_some (P := P) w.drew i.size els.length a els.length cap olds (by rw [hol, hsz]) (fun j v hj => by rw [addr_add g2]; simpa using g5 j v hj)
    obtain ⟨cap', rest, c1, c2, c3⟩ := run_append_new (P := P) (w := w) (ty := ty) (base := base) (sCap := cap) ht hu hi hz hb hlen (by rw [hsz]; exact hfc w.drew rfl) hfo (by omega) h63 hbytes
    rw [← e1] at c3
    obtain ⟨S2, m1, m2, m3⟩ := h.newOwn (hd := h1) (z := z) (cap := cap') (els := els ++ new) (vs := olds ++ news) (c := (olds ++ news ++ rest).toArray) (e := e) (w1 := w.drew.alloc (.cells (olds ++ news ++ rest).toArray e)) (fz := (0, 0))
      h0 (hLa.mono fun b q => q.elim (fun q => hT1 b (hU b q)) (hT2 b)) hle2 hz0 (by rw [e1]; exact c1) ((drew_step w _).trans (alloc_step _ _ _)) (heap_alloc_new w.drew _) (fun o _ => by simp) (.inr (by simp)) (by
        simp only [List.size_toArray, List.length_append, hol, hnl, c2, hzs, ← Nat.add_mul]
        exact Nat.mul_le_mul_right _ (by omega)) (by show List.take _ (olds ++ news ++ rest) = _; exact List.take_left)
    exact ⟨_, _, S2, c3, m1, m2, m3⟩
end
end Go.Pv
end

section
namespace Go.Pv
open Go.RowKit
set_option linter.unusedVariables false
set_option linter.unusedSimpArgs false
section
variable {P : Program} {I : World → Prop} {B : Base I} {K : Kills} {σ σ' σ1 : List AV} {vals vals' : Nat → Value} {w w' : World} {Fz Fz' : BSet} {S S' : Nat → BSet} {a : Act} {hd : Nat} {dst : Option Nat} {v : AV} {x y : Value} {o : Oper} {Kt : Act → World → Prop} {Q : Exit → Act → World → Prop} {callf : Nat → List AV → Option CRes}
theorem plains_flat (els : List (List PV)) : (plains els).flatten = els.flatten.map .p := flatten_map_map _ _
theorem plain_slice {z : Nat} {els : List (List PV)} (h : RepP w Fz (.sl z els) y) (hz : 0 < z) : ∃ (b : Option Addr) (cap : Nat) (vs : List Value), y = .slice b els.length cap ∧ (∀ e ∈ els, e.length = z) ∧ vs.length = els.flatten.length ∧ (∀ T, RepL w Fz (plains els).flatten vs T) ∧
    (els = [] ∨ ∃ a, b = some a ∧ a.spot = none ∧ CellsAt w a.block a.off vs) ∧ ∀ w0 : World, w0.heap = w.heap → (Builtin.firstCells z els.length y).run P w0 = .ok vs.toArray w0 := by
  cases h with
  | nil z a cap =>
    refine ⟨a, cap, [], rfl, fun e he => by simp at he, rfl, fun T => trivial, .inl rfl, fun w0 _ => ?_⟩
    cases a <;> simp [Builtin.firstCells, loadCells, loadCellsFrom]
  | sl z els a cap vs hf hs hz hl hcap hn hc hr =>
    refine ⟨some a, cap, vs, rfl, hl, hn, fun T => by rw [plains_flat]; exact RepL.ofP hn hr, .inr ⟨a, rfl, hs, hc⟩, fun w0 hw0 => ?_⟩
    refine run_firstCells_some (P := P) w0 z els.length a els.length cap vs (by rw [hn, flatten_len hl]) (fun j v hj => ?_)
    rw [addr_add hs]
    have := hc j v hj
    simp only [World.cell?] at this ⊢
    rw [hw0]; exact this
theorem own_slice {z : Nat} {els : List (List OV)} {T : BSet} (h : RepO w Fz (.own z els) y T) : ∃ (b : Option Addr) (cap : Nat) (vs : List Value) (T1 : BSet), y = .slice b els.length cap ∧ (∀ e ∈ els, e.length = z) ∧ RepL w Fz els.flatten vs T1 ∧ (∀ b, T1 b → T b) ∧
    ∀ w0 : World, w0.heap = w.heap → (Builtin.firstCells z els.length y).run P w0 = .ok vs.toArray w0 := by
  rcases repO_own.1 h with ⟨rfl, a, rfl⟩ | ⟨a, cap, vs, U, rfl, k1, k2, k3, k4, k5, k6, k7, k8, k9, k10⟩
  · refine ⟨a, 0, [], fun _ => False, rfl, fun e he => by simp at he, trivial, fun _ q => q.elim, fun w0 _ => ?_⟩
    cases a <;> simp [Builtin.firstCells, loadCells, loadCellsFrom]
  · refine ⟨some a, cap, vs, U, rfl, k4, k8, k9, fun w0 hw0 => ?_⟩
    refine run_firstCells_some (P := P) w0 z els.length a els.length cap vs (by rw [k8.length, flatten_len k4]) (fun j v hj => ?_)
    rw [addr_add k2]
    have := k7 j v hj
    simp only [World.cell?] at this ⊢
    rw [hw0]; exact this
theorem plain_cells {ps : List PV} {vs : List Value} {T : BSet} (h : RepL w Fz (ps.map .p) vs T) : ∀ v ∈ vs, v.oneCell' = true := wholes_cells h (wholes_p ps)
theorem run_call2 {b : Builtin} {x y : Operand} {t u : TypeId} (ho : o.op = .call { callee := .builtin .append, args := #[x, y], argTypes := #[t, u] }) {r : Value} {w' : World} (hr : (Builtin.append_ #[t, u] o.type #[a.eval x, a.eval y]).run P w = .ok r w') : (execOp a.eval o).run P w = .ok (.value r) w' := by
  simp only [execOp, ho, resolve, invoke, builtin, Sem.run_bind, Sem.run_pure, Result.andThen_ok, List.map_toArray, List.map_cons, List.map_nil, hr]
theorem sound_app {t u e : TypeId} {i : TypeInfo} {x y : Operand} {ox oy : Od} {zs : List OV} {keep : Bool} (ho : o.op = .call { callee := .builtin .append, args := #[x, y], argTypes := #[t, u] }) (ht : P.underlying t = some (.slice e)) {e' : TypeId} (hu : P.underlying u = some (.slice e'))
    (hx : odOf P t x = some ox) (hy : odOf P u y = some oy) (hz : zeroCells P e = some zs) (hi : P.info? e = some i) (hz0 : 0 < P.cellsOf e) (hzl : zs.length = P.cellsOf e) (hb : 0 < i.bytes) : Sound I P callf o (.app (P.cellsOf e) i.bytes ox oy keep) := by
  intro B K σ σ' a w _ hI hr Kt Q hk
  obtain ⟨hdf, hn, Fz, S, h, hfree⟩ := hI
  obtain ⟨i', zv, i1, i2, i3⟩ := zeroCells_ok hz
  obtain rfl : i' = i := by rw [i1] at hi; exact Option.some.inj hi
  have hsize : i'.size = P.cellsOf e := by simp [Program.cellsOf, i1]
  have hzv : zv.cells.size = P.cellsOf e := by have := (i3 w Fz).length; rw [hzl] at this; simpa using this
  have hnu : notInt P u := ⟨_, hu, fun k q => by cases q⟩
  obtain ⟨v, σ1, g1, r1⟩ := Pg.bind_some hr
  obtain ⟨rfl, hv⟩ := val_ok h (odOf_ok (a := a) hx) g1
  obtain ⟨hag, r2⟩ := Pg.guard_some r1
  simp only [Bool.not_eq_true'] at hag
  split at r2
  case h_2 => simp at r2
  rename_i z' els hcs
  split at r2
  case isFalse => simp at r2
  rename_i hzz
  subst hzz
  obtain ⟨cs, σ2, g2, r3⟩ := Pg.bind_some r2
  obtain ⟨rfl, hl, S1, vs, q1, q2, q3, q4⟩ := take_ok h hv g2 (Nat.le_refl _) (hfree _ (Nat.le_refl _))
  rw [hag] at q2
  rw [valIs_false q2, hcs] at q3
  obtain ⟨xv, ex, hO⟩ := q3.of_one
  simp at ex
  subst ex
  obtain ⟨uu, σ3, g3, r4⟩ := Pg.bind_some r3
  obtain ⟨rfl, hv2⟩ := val_ok q1 (odOf_ok (a := a) hy) g3
  obtain ⟨hag2, r5⟩ := Pg.guard_some r4
  simp only [Bool.not_eq_true'] at hag2
  obtain ⟨new, σ4, g4, r6⟩ := Pg.bind_some r5
  have key : ∃ F1 S2, St B K σ4 (valsOf a) w F1 S2 ∧ σ4.length = σ3.length ∧ (∀ b, Fz b → F1 b) ∧ RepL w F1 new [a.eval y] (S2 (σ1.length + 1)) ∧ S2 σ1.length = S1 σ1.length ∧ ∀ k, σ1.length ≤ k → k ≠ σ1.length → k ≠ σ1.length + 1 → S2 k = S1 k := by
    split at g4
    · obtain ⟨rfl, hl2, S2, vs2, p1, p2, p3, p4⟩ := take_ok (hd := σ1.length + 1) q1 hv2 g4 (by omega) (fun b hb => by rw [q4 _ (by omega) (by omega)] at hb; exact hfree _ (by omega) b hb)
      rw [hag2] at p2
      rw [valIs_false p2] at p3
      exact ⟨Fz, S2, p1, hl2, fun _ q => q, p3, p4 _ (by omega) (by omega), fun k hk k1 k2 => p4 k (by omega) k2⟩
    · obtain ⟨ps, σ5, g5, g6⟩ := Pg.bind_some g4
      simp only [Pg.run_ret, Option.some.injEq, Prod.mk.injEq] at g6
      obtain ⟨rfl, rfl⟩ := g6
      obtain ⟨rfl, hl2, F1, S2, vs2, p1, p2, p3, p4, p5⟩ := copy_ok q1 hv2 g5
      rw [hag2] at p2
      rw [valIs_false p2] at p3
      exact ⟨F1, S2, p1, hl2, p4, p3.mono fun _ q => q.elim, p5 _ (by omega), fun k hk k1 k2 => p5 k (by omega)⟩
  obtain ⟨F1, S2, p1, hl2, p2, p3, p4, p5⟩ := key
  have hO2 : RepO w F1 (.own (P.cellsOf e) els) (a.eval x) (S2 σ1.length) := by rw [p4]; exact hO.keep p2 (fun _ _ => rfl) (fun _ q => q)
  obtain ⟨S3, m1, m2, m3, m4⟩ := p1.merge (h1 := σ1.length) (h2 := σ1.length + 1) (by omega) (by omega) (by omega)
  have hfree3 : ∀ k, σ1.length ≤ k → k ≠ σ1.length → ∀ b, ¬ S3 k b := by
    intro k hk hne b hb
    by_cases e : k = σ1.length + 1
    · subst e; exact m3 b hb
    · rw [m4 k hne e, p5 k hk hne e, q4 k hk hne] at hb
      exact hfree k hk b hb
  have hdj : ∀ b, S2 σ1.length b → ¬ S2 (σ1.length + 1) b := fun b q q' => p1.dis _ _ b (by omega) q q'
  split at r6
  · -- plain
    rename_i z'' els'
    split at r6
    case isFalse => simp at r6
    rename_i hcond
    simp only [Bool.and_eq_true, decide_eq_true_eq] at hcond
    obtain ⟨⟨rfl, hb1⟩, hb2⟩ := hcond
    obtain ⟨yv, ey, hOy⟩ := p3.of_one
    simp at ey
    subst ey
    cases hOy with
    | p hP =>
      obtain ⟨b, cap, vs2, f1, f2, f3, f4, _, f6⟩ := plain_slice (P := P) hP hz0
      have hpl : (plains els').length = els'.length := by simp [plains]
      obtain ⟨x', w', S4, c1, c2, c3, c4⟩ := append_ok (P := P) (ty := o.type) (u := u) (new := plains els') (yv := a.eval y) (T2 := fun _ => False) m1 (by omega) hO2 (fun b q => (m2 b).2 (.inl q)) (f4 _) (fun _ q => q.elim) (fun _ _ q => q)
        (fun y hy => by obtain ⟨q, q1, rfl⟩ := List.mem_map.1 hy; simpa using f2 q q1) (by have := f4 (fun _ => False); rw [plains_flat] at this; exact plain_cells this) ht hnu i1 i2 hzv hsize hz0 hb (by rw [f1, hpl]; rfl) (by rw [hpl]; exact f6) (by rw [hpl]; exact hb1) (by rw [hpl]; exact hb2)
      exact wp_value (run_call2 (b := .append) ho c1) (hk _ _ (fin_w (hd := σ1.length) c2 hdf (by rw [hn]; omega) (by omega) (fun k hk hne b => by rw [c3 k hne]; exact hfree3 k (by omega) hne b) r6 c4))
  · -- own
    rename_i z'' els'
    split at r6
    case isFalse => simp at r6
    rename_i hcond
    simp only [Bool.and_eq_true, decide_eq_true_eq] at hcond
    obtain ⟨⟨⟨rfl, hwh⟩, hb1⟩, hb2⟩ := hcond
    obtain ⟨yv, ey, hOy⟩ := p3.of_one
    simp at ey
    subst ey
    obtain ⟨b, cap, vs2, T1, f1, f2, f3, f4, f6⟩ := own_slice (P := P) hOy
    have hwh2 : OV.wholes els'.flatten = true := by
      rw [wholes_eq, List.all_eq_true]
      rw [wholess_eq, List.all_eq_true] at hwh
      intro c hc
      obtain ⟨l, hl1, hl2⟩ := List.mem_flatten.1 hc
      exact List.all_eq_true.1 (hwh l hl1) c hl2
    obtain ⟨x', w', S4, c1, c2, c3, c4⟩ := append_ok (P := P) (ty := o.type) (u := u) (new := els') (yv := a.eval y) (T2 := T1) m1 (by omega) hO2 (fun b q => (m2 b).2 (.inl q)) f3 (fun b q => (m2 b).2 (.inr (f4 b q))) (fun b q q' => hdj b q (f4 b q'))
      f2 (wholes_cells f3 hwh2) ht hnu i1 i2 hzv hsize hz0 hb (by rw [f1]; rfl) f6 hb1 hb2
    exact wp_value (run_call2 (b := .append) ho c1) (hk _ _ (fin_w (hd := σ1.length) c2 hdf (by rw [hn]; omega) (by omega) (fun k hk hne b => by rw [c3 k hne]; exact hfree3 k (by omega) hne b) r6 c4))
  · simp at r6
theorem ofBytes_flat (s : List UInt8) : (ofBytes s).flatten = s.map fun b => .int .u8 b.toNat := by
  induction s with
  | nil => rfl
  | cons b s ih => simp only [ofBytes, List.map_cons, List.flatten_cons] at ih ⊢; rw [ih]; rfl
theorem bytes_cells (s : List UInt8) (T : BSet) : RepL w Fz (plains (ofBytes s)).flatten (s.map fun b => Value.int .u8 b.toNat) T := by
  rw [plains_flat, ofBytes_flat]
  refine RepL.ofP (by simp) fun j c v hc hv => ?_
  simp only [List.getElem?_map, Option.map_eq_some_iff] at hc hv
  obtain ⟨b, hb, rfl⟩ := hc
  obtain ⟨b', hb', rfl⟩ := hv
  rw [hb] at hb'
  simp at hb'
  subst hb'
  exact .int _ _
theorem u8_of {e : TypeId} (h : isU8 P e = true) : P.underlying e = some (.int .u8) := by
  unfold isU8 at h
  split at h
  · assumption
  · simp at h
theorem ofBytes_len (s : List UInt8) : (plains (ofBytes s)).length = s.length ∧ ∀ e ∈ plains (ofBytes s), e.length = 1 := by
  refine ⟨by simp [plains, ofBytes], fun e he => ?_⟩
  simp only [plains, ofBytes, List.map_map, List.mem_map] at he
  obtain ⟨b, _, rfl⟩ := he
  rfl
theorem sound_apps {t u e : TypeId} {i : TypeInfo} {x y : Operand} {ox oy : Od} {zs : List OV} (ho : o.op = .call { callee := .builtin .append, args := #[x, y], argTypes := #[t, u] }) (ht : P.underlying t = some (.slice e)) (hu : P.underlying u = some .string)
    (hx : odOf P t x = some ox) (hy : odS y = some oy) (hz : zeroCells P e = some zs) (hi : P.info? e = some i) (hz0 : P.cellsOf e = 1) (hzl : zs.length = 1) (hb : i.bytes = 1) : Sound I P callf o (.apps ox oy) := by
  intro B K σ σ' a w _ hI hr Kt Q hk
  obtain ⟨hdf, hn, Fz, S, h, hfree⟩ := hI
  obtain ⟨i', zv, i1, i2, i3⟩ := zeroCells_ok hz
  obtain rfl : i' = i := by rw [i1] at hi; exact Option.some.inj hi
  have hsize : i'.size = 1 := by rw [← hz0]; simp [Program.cellsOf, i1]
  have hzv : zv.cells.size = 1 := by have := (i3 w Fz).length; rw [hzl] at this; simpa using this
  have hnu : notInt P u := ⟨_, hu, fun k q => by cases q⟩
  obtain ⟨v, σ1, g1, r1⟩ := Pg.bind_some hr
  obtain ⟨rfl, hv⟩ := val_ok h (odOf_ok (a := a) hx) g1
  obtain ⟨hag, r2⟩ := Pg.guard_some r1
  simp only [Bool.not_eq_true'] at hag
  split at r2
  case h_2 => simp at r2
  rename_i els hcs
  obtain ⟨cs, σ2, g2, r3⟩ := Pg.bind_some r2
  obtain ⟨rfl, hl, S1, vs, q1, q2, q3, q4⟩ := take_ok h hv g2 (Nat.le_refl _) (hfree _ (Nat.le_refl _))
  rw [hag] at q2
  rw [valIs_false q2, hcs] at q3
  obtain ⟨xv, ex, hO⟩ := q3.of_one
  simp at ex
  subst ex
  obtain ⟨c, σ3, g3, r4⟩ := Pg.bind_some r3
  obtain ⟨rfl, gs⟩ := sc_ok q1 (odS_ok (a := a) hy) g3
  cases c <;> simp only [Pg.run_fail, reduceCtorEq] at r4
  rename_i s
  split at r4
  case isFalse => simp at r4
  rename_i hle
  have hys := repP_str gs
  obtain ⟨l1, l2⟩ := ofBytes_len s
  have hsz : (⟨s.toArray⟩ : ByteArray).size = s.length := by simp [ByteArray.size]
  have hfc : ∀ w0 : World, w0.heap = w.heap → (Builtin.firstCells 1 (plains (ofBytes s)).length (a.eval y)).run P w0 = .ok (s.map fun b => Value.int .u8 b.toNat).toArray w0 := by
    intro w0 _
    rw [hys, l1]
    simp only [Builtin.firstCells, Sem.run_pure]
    congr 1
    have : (⟨s.toArray⟩ : ByteArray).extract 0 s.length = ⟨s.toArray⟩ := by
      apply ByteArray.ext; simp
    rw [this]
    apply Array.ext'
    simp
  obtain ⟨x', w', S4, c1, c2, c3, c4⟩ := append_ok (P := P) (ty := o.type) (u := u) (new := plains (ofBytes s)) (yv := a.eval y) (T2 := fun _ => False) q1 (by omega) hO (fun b q => q) (bytes_cells s _) (fun _ q => q.elim) (fun _ _ q => q)
    l2 (fun v hv => by obtain ⟨b, _, rfl⟩ := List.mem_map.1 hv; rfl) ht hnu i1 i2 hzv hsize (by omega) (by omega) (by rw [hys, l1, ← hsz]; rfl) hfc (by rw [l1]; omega) (by rw [l1, hb]; omega)
  exact wp_value (run_call2 (b := .append) ho c1) (hk _ _ (fin_w (hd := σ1.length) c2 hdf (by rw [hn]; omega) (by omega) (fun k hk hne b => by rw [c3 k hne, q4 k (by omega) hne]; exact hfree k (by omega) b) r4 c4))
theorem sound_s2b {s d e : TypeId} {x : Operand} {ox : Od} (ho : o.op = .convert s d x) (hs : P.underlying s = some .string) (hd' : P.underlying d = some (.slice e)) (he : isU8 P e = true) (hx : odS x = some ox) : Sound I P callf o (.s2b ox) := by
  intro B K σ σ' a w _ hI hr Kt Q hk
  obtain ⟨hdf, hn, Fz, S, h, hfree⟩ := hI
  obtain ⟨c, σ1, h1, r1⟩ := Pg.bind_some hr
  obtain ⟨rfl, g1⟩ := sc_ok h (odS_ok (a := a) hx) h1
  cases c <;> simp only [Pg.run_fail, reduceCtorEq] at r1
  rename_i b
  have hrun := Go.Lib.run_convert_string_bytes (P := P) w s d e ⟨b.toArray⟩ hs hd' (u8_of he)
  have hsz : (⟨b.toArray⟩ : ByteArray).size = b.length := by simp [ByteArray.size]
  obtain ⟨l1, l2⟩ := ofBytes_len b
  have hge := grownCap_ge w b.length 0 e
  have hcs : (Go.Lib.bytesCells w e ⟨b.toArray⟩).size = grownCap w b.length 0 e := by
    simp only [Go.Lib.bytesCells, hsz, Array.size_append, Array.size_map, Array.size_replicate, List.size_toArray]; omega
  obtain ⟨S2, m1, m2, m3⟩ := h.newOwn (hd := σ1.length) (z := 1) (cap := grownCap w b.length 0 e) (els := plains (ofBytes b)) (vs := b.map fun x => Value.int .u8 x.toNat) (c := Go.Lib.bytesCells w e ⟨b.toArray⟩) (e := e) (w1 := Go.Lib.bytesWorld w e ⟨b.toArray⟩)
    (Nat.le_refl _) (bytes_cells b _) l2 (by omega) (by rw [l1]; exact hge)
    ⟨by simp [Go.Lib.bytesWorld, World.freeze, World.drew, World.alloc, -World.alloc_eq, -World.drew_eq], by simp [Go.Lib.bytesWorld, World.freeze, World.drew, World.alloc, -World.alloc_eq, -World.drew_eq], by simp [Go.Lib.bytesWorld, World.freeze, World.drew, World.alloc, -World.alloc_eq, -World.drew_eq], by rw [Go.Lib.bytesWorld_size]; omega, fun j hj _ => Go.Lib.bytesWorld_at_old w e _ j hj⟩
    (Go.Lib.bytesWorld_at_new w e _) (fun o ho q => by simp only at q; omega) (.inl rfl) (by rw [hcs]; omega) (by
      simp only [Go.Lib.bytesCells, List.length_map, Array.toList_append, Array.toList_map]
      rw [List.take_append_of_le_length (by simp), List.take_of_length_le (by simp)])
  rw [l1] at m3
  refine wp_value (x := .slice (some ⟨w.heap.size, 0, none⟩) b.length (grownCap w b.length 0 e)) (w' := Go.Lib.bytesWorld w e ⟨b.toArray⟩) ?_ (hk _ _ (fin_w (hd := σ1.length) m1 hdf hn (Nat.le_refl _) (fun k hk hne b => by rw [m2 k hne]; exact hfree k hk b) r1 m3))
  rw [hsz] at hrun
  simp only [execOp, ho, Sem.run_bind, repP_str g1, hrun, Result.andThen_ok, Sem.run_pure]
theorem bytesOf_ok : ∀ {els : List (List PV)} {s : List UInt8}, bytesOf els = some s → ∃ ns : List Int, els = ns.map (fun n => [PV.int .u8 n]) ∧ s = ns.map fun n => UInt8.ofNat n.toNat
  | [], s, h => by simp [bytesOf] at h; subst h; exact ⟨[], rfl, rfl⟩
  | e :: es, s, h => by
    unfold bytesOf at h
    split at h
    · simp at *
    · rename_i n es' heq
      simp only [List.cons.injEq] at heq
      obtain ⟨rfl, rfl⟩ := heq
      rw [Option.map_eq_some_iff] at h
      obtain ⟨s', h1, rfl⟩ := h
      obtain ⟨ns, rfl, rfl⟩ := bytesOf_ok h1
      exact ⟨n :: ns, rfl, rfl⟩
    · simp at h
theorem run_b2s {els : List (List PV)} {s : List UInt8} (h : RepP w Fz (.sl 1 els) y) (hs : bytesOf els = some s) : (Conv.bytesToString y).run P w = .ok (.string ⟨s.toArray⟩) w := by
  obtain ⟨ns, rfl, rfl⟩ := bytesOf_ok hs
  obtain ⟨b, cap, vs, f1, f2, f3, f4, f5, f6⟩ := plain_slice (P := P) h (by omega)
  have hflat : (ns.map fun n => [PV.int .u8 n]).flatten = ns.map (PV.int .u8) := by
    have : ∀ l : List Int, (l.map fun n => [PV.int .u8 n]).flatten = l.map (PV.int .u8) := by
      intro l
      induction l with
      | nil => rfl
      | cons n l ih => rw [List.map_cons, List.flatten_cons, ih]; rfl
    exact this ns
  have hvs : vs = ns.map (Value.int .u8) := by
    have h4 := f4 (fun _ => False)
    rw [plains_flat, hflat] at h4
    have h5 := h4.toP
    apply List.ext_getElem?
    intro j
    rcases Nat.lt_or_ge j ns.length with hj | hj
    · have hvl : j < vs.length := by rw [f3, hflat]; simpa using hj
      have := h5 j (.int .u8 ns[j]) vs[j] (by simp [hj]) (by simp [hvl])
      have := repP_int this
      rw [List.getElem?_eq_getElem hvl, this]
      simp [hj]
    · rw [List.getElem?_eq_none (by rw [f3, hflat]; simpa using hj), List.getElem?_eq_none (by simpa using hj)]
  have hfold : ∀ (ns : List Int) (r : ByteArray), (ns.foldl (fun r n => r.push (UInt8.ofNat n.toNat)) r) = ⟨(r.data.toList ++ ns.map fun n => UInt8.ofNat n.toNat).toArray⟩ := by
    intro ns
    induction ns with
    | nil => intro r; cases r; simp
    | cons n ns ih => intro r; rw [List.foldl_cons, ih]; simp [ByteArray.push]
  subst f1
  rcases f5 with q | ⟨ad, rfl, e1, e2⟩
  · have : ns = [] := by simpa using q
    subst this
    cases b with
    | none => simp [Conv.bytesToString]; rfl
    | some ad =>
      exact run_bytesToString (P := P) w ad 0 cap [] (by simp [loadCells, loadCellsFrom])
  · subst hvs
    have := run_bytesToString (P := P) w ad ns.length cap ns (run_loadCells' e1 (by simp) e2)
    rw [hfold] at this
    simpa using this
theorem sound_b2s {s d e : TypeId} {x : Operand} {ox : Od} (ho : o.op = .convert s d x) (hs : P.underlying s = some (.slice e)) (hd' : P.underlying d = some .string) (he : isU8 P e = true) (hx : odOf P s x = some ox) : Sound I P callf o (.b2s ox) := by
  intro B K σ σ' a w _ hI hr Kt Q hk
  obtain ⟨hdf, hn, Fz, S, h, hfree⟩ := hI
  obtain ⟨v, σ1, g1, r1⟩ := Pg.bind_some hr
  obtain ⟨rfl, hv⟩ := val_ok h (odOf_ok (a := a) hx) g1
  obtain ⟨hag, r2⟩ := Pg.guard_some r1
  simp only [Bool.not_eq_true'] at hag
  obtain ⟨vs, T, k1, k2, k3⟩ := hv.rep h
  rw [hag] at k1
  rw [valIs_false k1] at k2
  have fin : ∀ (b : List UInt8) els Fz', RepP w Fz' (.sl 1 els) (a.eval x) → bytesOf els = some b → (∃ uu, (out K o.dst (.w (.p (.str b)))).run σ1 = some (uu, σ')) → o.wp P a w Kt Q := by
    intro b els Fz' hP hb ⟨uu, hr⟩
    obtain ⟨bb, cap, vs', f1, _⟩ := plain_slice (P := P) hP (by omega)
    refine wp_value (x := .string ⟨b.toArray⟩) (w' := w) ?_ (hk _ _ (fin_p (hd := σ1.length) h hdf hn (Nat.le_refl _) (Inv.free hfree _) hr (.str _)))
    have e1 := run_b2s (P := P) hP hb
    have e2 := run_convert_bytes_string (P := P) w s d e bb els.length cap hs (u8_of he) hd'
    rw [← f1] at e2
    simp only [execOp, ho, Sem.run_bind, e2, e1, Result.andThen_ok, Sem.run_pure]
  split at r2
  · rename_i els hcs
    obtain ⟨b, hb, r3⟩ := Pg.opt_some r2
    rw [hcs] at k2
    obtain ⟨yv, ey, hO⟩ := k2.of_one
    simp at ey
    subst ey
    cases hO with | p hP => exact fin b els Fz hP hb ⟨_, r3⟩
  · rename_i els hcs
    obtain ⟨hw, r3⟩ := Pg.guard_some r2
    obtain ⟨b, hb, r4⟩ := Pg.opt_some r3
    rw [hcs] at k2
    obtain ⟨yv, ey, hO⟩ := k2.of_one
    simp at ey
    subst ey
    have hP := hO.freeze (Fz' := fun b => Fz b ∨ T b) (by simpa [OV.whole] using hw) (fun _ q => q)
    exact fin b _ _ hP hb ⟨_, r4⟩
  · simp at r2
end
end Go.Pv
end

section
namespace Go.Pv
open Go.RowKit
set_option linter.unusedVariables false
set_option linter.unusedSimpArgs false
section
variable {P : Program} {I : World → Prop} {B : Base I} {K : Kills} {σ σ' σ1 : List AV} {vals vals' : Nat → Value} {w w' : World} {Fz Fz' : BSet} {S S' : Nat → BSet} {a : Act} {hd : Nat} {dst : Option Nat} {v : AV} {x y : Value} {o : Oper} {Kt : Act → World → Prop} {Q : Exit → Act → World → Prop} {callf : Nat → List AV → Option CRes}
theorem sound_fld {t : TypeId} {x : Operand} {i : Nat} {ox : Od} {fs : Array Field} {f : Field} (ho : o.op = .field t x i) (ht : P.underlying t = some (.struct fs)) (hf : fs[i]? = some f) (hi : has P f.type = true) (h1 : isAg P f.type = true ∨ P.cellsOf f.type = 1) (hx : odOf P t x = some ox) :
    Sound I P callf o (.fld f.offset (P.cellsOf f.type) (isAg P f.type) ox) := by
  intro B K σ σ' a w u hI hr Kt Q hk
  obtain ⟨hdf, hn, Fz, S, h, hfree⟩ := hI
  obtain ⟨v, σ1, g1, r1⟩ := Pg.bind_some hr
  obtain ⟨rfl, hv⟩ := val_ok h (odOf_ok (a := a) hx) g1
  obtain ⟨hag, r2⟩ := Pg.guard_some r1
  obtain ⟨cs, hcs, r3⟩ := Pg.opt_some r2
  obtain ⟨hp, r4⟩ := Pg.guard_some r3
  obtain ⟨vs, T, k1, k2, _⟩ := hv.rep h
  rcases k1 with ⟨_, ex⟩ | ⟨e, _⟩
  case inr => rw [e] at hag; simp at hag
  obtain ⟨s1, s2, s3⟩ := cellsAt_split hcs
  rw [s1] at k2
  have hL' : RepL w Fz (v.cs.take f.offset ++ (cs ++ v.cs.drop (f.offset + P.cellsOf f.type))) vs T := by simpa [List.append_assoc] using k2
  obtain ⟨VA, V2, U1, U2, rfl, hA, hL2, _⟩ := hL'.split
  obtain ⟨VC, VB, U3, U4, rfl, hC, hB, _⟩ := hL2.split
  have lA := hA.length
  have lC := hC.length
  rw [s3] at lA
  rw [s2] at lC
  obtain ⟨y, hy⟩ := mkVal (ag := isAg P f.type) (vs := VC) (h1.imp id fun e => by omega)
  refine wp_value (x := y) (w' := w) ?_ (hk _ _ (fin_val (hd := σ1.length) h hdf hn (Nat.le_refl _) (Inv.free hfree _) r4 hy (hC.plain hp)))
  have hpart : (Go.part f.type (VA ++ (VC ++ VB)).toArray f.offset).run P w = .ok y w := by
    simp only [Go.part, Sem.run_bind, run_isAgg hi, Result.andThen_ok]
    rcases hy with ⟨e, rfl⟩ | ⟨e, rfl⟩
    · rw [if_pos e]
      simp only [Sem.run_bind, run_sizeOf' hi, Result.andThen_ok, Sem.run_pure]
      congr 2
      apply Array.ext'
      simp only [List.extract_toArray, List.extract_eq_take_drop, Nat.add_sub_cancel_left]
      rw [List.drop_append, List.drop_of_length_le (by omega), List.nil_append, ← lA, Nat.sub_self, List.drop_zero, List.take_append_of_le_length (by omega), List.take_of_length_le (by omega)]
    · rw [if_neg (by simp [e])]
      have : (VA ++ ([y] ++ VB)).toArray[f.offset]? = some y := by
        simp only [List.getElem?_toArray]
        rw [List.getElem?_append_right (by omega), lA, Nat.sub_self]
        rfl
      simp only [this, Sem.run_pure]
  simp only [execOp, ho, Sem.run_bind, Instr.field, run_underlying ht, Result.andThen_ok, hf, ex, asAgg, Sem.run_pure, hpart]
theorem plain_sub {z lo hi : Nat} {els : List (List PV)} {b : Option Addr} {cap : Nat} (h : RepP w Fz (.sl z els) (.slice b els.length cap)) (hz : 0 < z) (h1 : lo ≤ hi) (h2 : hi ≤ els.length) :
    RepP w Fz (.sl z ((els.take hi).drop lo)) (.slice (if cap = lo then b else b.map (·.add (lo * z))) (hi - lo) (cap - lo)) := by
  cases h with
  | nil z a cap =>
    simp at h2; subst h2
    have : lo = 0 := by omega
    subst this
    exact .nil z _ _
  | sl z els a cap vs hf hs hz hl hcap hn hc hr =>
    by_cases he : hi = lo
    · subst he
      have e3 : (els.take hi).drop hi = [] := List.drop_eq_nil_of_le (by simp; omega)
      rw [Nat.sub_self, e3]
      exact .nil z _ _
    · rw [if_neg (by omega)]
      simp only [Option.map_some, addr_add hs]
      have hlen : ((els.take hi).drop lo).length = hi - lo := by simp; omega
      have hl' : ∀ e ∈ (els.take hi).drop lo, e.length = z := fun e he => hl e (List.mem_of_mem_take (List.mem_of_mem_drop he))
      have hfl : ∀ j, j < (hi - lo) * z → ((els.take hi).drop lo).flatten[j]? = els.flatten[lo * z + j]? := by
        intro j hj
        have e1 : els.flatten = (els.take lo).flatten ++ (((els.take hi).drop lo).flatten ++ (els.drop hi).flatten) := by
          rw [← List.append_assoc, ← List.flatten_append, ← List.flatten_append]
          congr 1
          conv => lhs; rw [← List.take_append_drop hi els]
          congr 1
          conv => lhs; rw [← List.take_append_drop lo (els.take hi)]
          rw [List.take_take, Nat.min_eq_left h1]
        have e2 : (els.take lo).flatten.length = lo * z := by rw [flatten_len (z := z) (fun e he => hl e (List.mem_of_mem_take he)), List.length_take, Nat.min_eq_left (by omega)]
        rw [e1, List.getElem?_append_right (by omega), e2, show lo * z + j - lo * z = j by omega, List.getElem?_append_left (by rw [flatten_len hl', hlen]; exact hj)]
      have hvl : vs.length = els.length * z := by rw [hn, flatten_len hl]
      have hmul : lo * z + (hi - lo) * z ≤ vs.length := by
        rw [hvl, ← Nat.add_mul]
        exact Nat.mul_le_mul_right _ (by omega)
      rw [← hlen]
      refine .sl z _ _ _ ((vs.drop (lo * z)).take ((hi - lo) * z)) hf rfl hz hl' (by omega) (by rw [flatten_len hl', hlen]; simp; omega) (fun j v hj => ?_) (fun j c v hc' hv' => ?_)
      · rw [List.getElem?_take] at hj
        split at hj
        · rw [List.getElem?_drop] at hj
          have := hc _ _ hj
          rw [Nat.add_assoc]; exact this
        · simp at hj
      · rw [List.getElem?_take] at hv'
        split at hv'
        · rename_i hjl
          rw [List.getElem?_drop] at hv'
          rw [hfl j hjl] at hc'
          exact hr _ c v hc' hv'
        · simp at hv'
theorem sound_slc {t e : TypeId} {x : Operand} {lo hi : Option Operand} {ox : Od} {olo ohi : Option Od} (ho : o.op = .slice t x lo hi none) (ht : P.underlying t = some (.slice e)) (he : has P e = true) (hz0 : 0 < P.cellsOf e) (hx : odOf P t x = some ox) (hlo : odOpt lo = some olo) (hhi : odOpt hi = some ohi) :
    Sound I P callf o (.slc (P.cellsOf e) ox olo ohi) := by
  intro B K σ σ' a w u hI hr Kt Q hk
  obtain ⟨hdf, hn, Fz, S, h, hfree⟩ := hI
  obtain ⟨v, σ1, g1, r1⟩ := Pg.bind_some hr
  obtain ⟨rfl, hv⟩ := val_ok h (odOf_ok (a := a) hx) g1
  obtain ⟨hag, r2⟩ := Pg.guard_some r1
  simp only [Bool.not_eq_true'] at hag
  obtain ⟨len, hlen, r3⟩ := Pg.opt_some r2
  obtain ⟨⟨l, hh⟩, σ2, h2, r4⟩ := Pg.bind_some r3
  obtain ⟨rfl, e1, e2, e3, e4, e5, e6⟩ := ends_ok h hlo hhi h2
  obtain ⟨vs, T, k1, k2, _⟩ := hv.rep h
  rw [hag] at k1
  rw [valIs_false k1] at k2
  obtain ⟨b, cap, hy⟩ := elsLen_ok k2 hlen
  have hcap : len ≤ cap := by
    unfold elsLen at hlen
    split at hlen <;> simp at hlen
    · rename_i z els hc
      rw [hc] at k2
      obtain ⟨yv, ey, hO⟩ := k2.of_one
      simp at ey; subst ey
      cases hO with | p hP =>
      rw [hy] at hP
      cases hP with
      | nil => omega
      | sl => assumption
    · rename_i z els hc
      rw [hc] at k2
      obtain ⟨yv, ey, hO⟩ := k2.of_one
      simp at ey; subst ey
      rw [hy] at hO
      cases hO with
      | nil => omega
      | own => assumption
  have hb := run_sliceBounds (P := P) (w := w) (isS := true) (lo := lo.map a.eval) (hi := hi.map a.eval) e1 e2 hcap (opt_map_eval e3) (fun e => e4 (by simpa using e)) (opt_map_eval e5) (fun e => e6 (by simpa using e))
  have run : (execOp a.eval o).run P w = .ok (.value (.slice (if cap = l then b else b.map (·.add (l * P.cellsOf e))) (hh - l) (cap - l))) w := by
    simp only [execOp, ho, Option.map_none, Sem.run_bind, Instr.sliceAt, run_underlying ht, Result.andThen_ok, hy, Instr.slice, hb, run_sizeOf' he, Sem.run_pure]
  refine wp_value run (hk _ _ ?_)
  dsimp only at r4
  split at r4
  · rename_i z els hc
    rw [hc] at k2 hlen
    simp only [elsLen, Option.some.injEq] at hlen
    subst hlen
    split at r4
    case isFalse => simp at r4
    rename_i hzz
    subst hzz
    obtain ⟨yv, ey, hO⟩ := k2.of_one
    simp at ey; subst ey
    cases hO with | p hP =>
    rw [hy] at hP
    exact fin_p (hd := σ2.length) h hdf hn (Nat.le_refl _) (Inv.free hfree _) r4 (plain_sub hP hz0 e1 e2)
  · rename_i z els hc
    rw [hc] at hlen
    simp only [elsLen, Option.some.injEq] at hlen
    subst hlen
    split at r4
    case isFalse => simp at r4
    rename_i hzz
    subst hzz
    rcases hv.cases h with ⟨es, vs', q1, q2⟩ | ⟨d, vs', es, q1, q2, q3, q4⟩ | ⟨pl, vs', es, hpr, q1, q2, q3⟩ | ⟨d, lo0, z0, hi0, els0, x0, es, q1, q2, q3, q4, q5, q6, q7⟩ | ⟨pl, lo0, z0, hi0, els0, x0, es, hpr, q1, q2, q3, q4, q5, q6, q7⟩
    · rw [es] at r4
      rw [hag] at q1
      rw [valIs_false q1, hc] at q2
      obtain ⟨yv, ey, hO⟩ := q2.of_one
      simp at ey; subst ey
      rw [hy] at hO
      exact fin_w (hd := σ2.length) h hdf hn (Nat.le_refl _) (Inv.free hfree _) r4 ((own_sub hO e1 e2).mono fun _ q => q.elim)
    · rw [es] at r4
      have hdl : d < σ2.length := lt_of_getD (fun e => by rw [e] at q1; simp [AV.cells] at q1)
      exact fin_on h hdf hn hfree r4 (fun d' _ hl => ⟨⟨b, els.length, cap, by show valsOf a d = _; rw [q2, hy], rfl⟩, hl⟩) rfl (fun g hg => by simp [AV.on, Pl.holder] at hg; exact hg.symm) hdl
    · rw [es] at r4
      have hdl : pl.holder < σ2.length := lt_of_getD (getIn_ne q1)
      rw [hag] at q3
      have := valIs_false q3
      subst this
      obtain ⟨ad, had, _, hcell⟩ := q2
      have hc0 : w.cell? ad = some (a.eval x) := by
        have := hcell 0 _ rfl
        have hs := had.1.spot
        have e : ad = ⟨ad.block, ad.off + 0, none⟩ := by cases ad; simp_all
        rw [← e] at this; exact this
      refine fin_on h hdf hn hfree r4 (fun d' _ hl => ⟨⟨b, els.length, cap, ?_, rfl⟩, hl⟩) rfl (fun g hg => by simp [AV.on] at hg; exact hg.symm) hdl
      rw [hy] at hc0
      cases pl with
      | r d => exact absurd rfl (hpr d)
      | b d off => exact ⟨ad, had, hc0⟩
      | e d c z i off => exact ⟨ad, had, hc0⟩
    · rw [es] at r4; simp at r4
    · rw [es] at r4; simp at r4
  · simp at r4
theorem run_indexAt {t e : TypeId} {len cap i : Nat} {k : IntKind} {ad : Addr} (ht : P.underlying t = some (.slice e)) (he : has P e = true) (hi : i < len) :
    (Instr.indexAt t (.slice (some ad) len cap) (.int k i)).run P w = .ok (.pointer (some (ad.add (i * P.cellsOf e)))) w := by
  simp only [Instr.indexAt, asIntOf, Sem.run_bind, Sem.run_pure, Result.andThen_ok, run_underlying ht]
  rw [if_pos (by omega)]
  simp only [Sem.run_bind, run_sizeOf' he, Result.andThen_ok, Sem.run_pure, Int.toNat_natCast]
theorem plain_elem {z i : Nat} {els : List (List PV)} {e : List PV} {y : Value} (h : RepP w Fz (.sl z els) y) (hi : els[i]? = some e) : ∃ ad cap, y = .slice (some ad) els.length cap ∧ ad.spot = none ∧ RepFp w Fz e (.pointer (some (ad.add (i * z)))) := by
  cases h with
  | nil z a cap => simp at hi
  | sl z els a cap vs hf hs hz hl hcap hn hc hr =>
    refine ⟨a, cap, rfl, hs, ?_⟩
    obtain ⟨f1, f2⟩ := flatten_at hl hi
    have he := hl e (List.mem_of_getElem? hi)
    have hvl : vs.length = els.length * z := by rw [hn, flatten_len hl]
    have hil := (List.getElem?_eq_some_iff.1 hi).1
    have hmul : i * z + z ≤ vs.length := by
      rw [hvl]
      have := Nat.mul_le_mul_right z (show i + 1 ≤ els.length by omega)
      rw [Nat.add_mul] at this
      omega
    refine ⟨_, (vs.drop (i * z)).take z, rfl, by rw [addr_add hs], fun _ => by rw [addr_add hs]; exact hf, by simp; omega, ?_, fun j c x hc' hx => ?_⟩
    · rw [addr_add hs]
      intro j v hj
      rw [List.getElem?_take] at hj
      split at hj
      · rw [List.getElem?_drop] at hj
        have := hc _ _ hj
        rw [Nat.add_assoc]; exact this
      · simp at hj
    · rw [List.getElem?_take] at hx
      split at hx
      · rename_i hjl
        rw [List.getElem?_drop] at hx
        refine hr _ c x ?_ hx
        rw [f1, List.append_assoc, List.getElem?_append_right (by omega), f2, show i * z + j - i * z = j by omega, List.getElem?_append_left (by omega)]
        exact hc'
      · simp at hx
theorem sound_iad {t e : TypeId} {x i : Operand} {ox oi : Od} (ho : o.op = .indexAddr t x i) (ht : P.underlying t = some (.slice e)) (he : has P e = true) (hx : odOf P t x = some ox) (hi : odS i = some oi) : Sound I P callf o (.iad (P.cellsOf e) ox oi) := by
  intro B K σ σ' a w u hI hr Kt Q hk
  obtain ⟨hdf, hn, Fz, S, h, hfree⟩ := hI
  obtain ⟨v, σ1, g1, r1⟩ := Pg.bind_some hr
  obtain ⟨rfl, hv⟩ := val_ok h (odOf_ok (a := a) hx) g1
  obtain ⟨hag, r2⟩ := Pg.guard_some r1
  simp only [Bool.not_eq_true'] at hag
  obtain ⟨n, σ2, g2, r3⟩ := Pg.bind_some r2
  obtain ⟨rfl, k, hik⟩ := scInt_ok h (odS_ok (a := a) hi) g2
  obtain ⟨h0, r4⟩ := Pg.guard_some r3
  simp only [decide_eq_true_eq] at h0
  have hnn : n = (n.toNat : Int) := by omega
  obtain ⟨vs, T, k1, k2, _⟩ := hv.rep h
  rw [hag] at k1
  rw [valIs_false k1] at k2
  have run : ∀ ad len cap, a.eval x = .slice (some ad) len cap → n.toNat < len → (execOp a.eval o).run P w = .ok (.value (.pointer (some (ad.add (n.toNat * P.cellsOf e))))) w := by
    intro ad len cap e1 e2
    have := run_indexAt (P := P) (w := w) (cap := cap) (k := k) (ad := ad) ht he e2
    rw [← hnn] at this
    simp only [execOp, ho, Sem.run_bind, e1, hik, this, Result.andThen_ok, Sem.run_pure]
  split at r4
  · rename_i z els hc
    split at r4
    case isFalse => simp at r4
    rename_i hzz
    subst hzz
    obtain ⟨el, hel, r5⟩ := Pg.opt_some r4
    rw [hc] at k2
    obtain ⟨yv, ey, hO⟩ := k2.of_one
    simp at ey; subst ey
    cases hO with | p hP =>
    obtain ⟨ad, cap, e1, e2, e3⟩ := plain_elem hP hel
    refine wp_value (run ad els.length cap e1 (List.getElem?_eq_some_iff.1 hel).1) (hk _ _ (fin (hd := σ2.length) h hdf hn (Nat.le_refl _) (Inv.free hfree _) r5 (fun d _ => e3) (fun g hg => by simp [AV.on] at hg)))
  · rename_i z els hc
    split at r4
    case isFalse => simp at r4
    rename_i hzz
    subst hzz
    obtain ⟨hlt, r5⟩ := Pg.guard_some r4
    simp only [decide_eq_true_eq] at hlt
    rw [hc] at k2
    obtain ⟨yv, ey, hO⟩ := k2.of_one
    simp at ey; subst ey
    obtain ⟨b, cap, vs2, T1, f1, f2, f3, f4, f5⟩ := own_slice (P := P) hO
    have hsome : ∃ ad, b = some ad ∧ ad.spot = none := by
      rcases repO_own.1 hO with ⟨rfl, _⟩ | ⟨ad, cap', vs', U, e, k1', k2', _⟩
      · simp at hlt
      · rw [f1] at e; simp at e; exact ⟨ad, e.1, k2'⟩
    obtain ⟨ad, rfl, hs⟩ := hsome
    have other : ((copy v).bind fun
        | [.sl _ els] => (Pg.opt els[n.toNat]?).bind fun e => out K o.dst (.fp e)
        | _ => .fail).run σ2 = some (u, σ') → o.wp P a w Kt Q := by
      intro r6
      obtain ⟨ps, σ3, g3, r7⟩ := Pg.bind_some r6
      obtain ⟨rfl, hl, F1, S1, vs3, p1, p2, p3, p4, p5⟩ := copy_ok h hv g3
      split at r7
      · rename_i z' els' hps
        obtain ⟨el, hel, r8⟩ := Pg.opt_some r7
        rw [hag] at p2
        rw [valIs_false p2, hps] at p3
        obtain ⟨yv, ey, hO'⟩ := p3.of_one
        simp at ey; subst ey
        cases hO' with | p hP =>
        obtain ⟨ad', cap', e1, e2, e3⟩ := plain_elem hP hel
        have hzz' : z' = P.cellsOf e := by
          rw [hc] at hps
          simp only [OV.frzs, OV.frz, List.cons.injEq, PV.sl.injEq, and_true] at hps
          exact hps.1.symm
        subst hzz'
        exact wp_value (run ad' els'.length cap' e1 (List.getElem?_eq_some_iff.1 hel).1) (hk _ _ (fin (hd := σ3.length) p1 hdf (hn.trans hl.symm) (Nat.le_refl _) (fun k hk hne b => by rw [p5 k (by omega)]; exact hfree k (by omega) b) r8 (fun d _ => e3) (fun g hg => by simp [AV.on] at hg)))
      · simp at r7
    rcases hv.cases h with ⟨es, vs', q1, q2⟩ | ⟨d, vs', es, q1, q2, q3, q4⟩ | ⟨pl, vs', es, hpr, q1, q2, q3⟩ | ⟨d, lo0, z0, hi0, els0, x0, es, q1, q2, q3, q4, q5, q6, q7⟩ | ⟨pl, lo0, z0, hi0, els0, x0, es, hpr, q1, q2, q3, q4, q5, q6, q7⟩
    · rw [es] at r5; exact other r5
    · rw [es] at r5
      have hdl : d < σ2.length := lt_of_getD (fun e => by rw [e] at q1; simp [AV.cells] at q1)
      refine wp_value (run ad _ cap f1 hlt) (hk _ _ (fin_on h hdf hn hfree r5 (fun d' _ hl => ⟨⟨_, ⟨ad, _, cap, by show valsOf a d = _; rw [q2, f1], rfl⟩, by rw [addr_add hs]; rfl⟩, hl⟩) rfl (fun g hg => by simp [AV.on, Pl.holder] at hg; exact hg.symm) hdl))
    · rw [es] at r5
      have hdl : pl.holder < σ2.length := lt_of_getD (getIn_ne q1)
      cases pl with
      | r d => exact absurd rfl (hpr d)
      | b d off =>
        rw [hag] at q3
        have := valIs_false q3
        subst this
        obtain ⟨ad2, ⟨⟨bb, hb1, rfl⟩, hb2⟩, _, hcell⟩ := q2
        have hc0 := hcell 0 _ rfl
        rw [f1] at hc0
        refine wp_value (run ad _ cap f1 hlt) (hk _ _ (fin_on h hdf hn hfree r5 (fun d' _ hl => ⟨⟨_, ⟨ad, _, cap, ⟨bb, hb1, hb2, hc0⟩, rfl⟩, by rw [addr_add hs]; rfl⟩, hl⟩) rfl (fun g hg => by simp [AV.on, Pl.holder] at hg; exact hg.symm) hdl))
      | e d c z i off => exact other r5
    · rw [es] at r5
      have hdl : d < σ2.length := lt_of_getD (fun e => by rw [e] at q5; simp at q5)
      have hvv := hv
      unfold VOk at hvv
      rw [es] at hvv
      obtain ⟨z1, hi1, els1, m1, m2, m3, m4, ⟨a1, len1, cap1, m5, m6⟩, m7⟩ := hvv
      simp only [PlHdr] at m5
      rw [f1] at m6
      simp only [Value.slice.injEq] at m6
      rw [hc] at m2
      simp only [List.cons.injEq, OV.own.injEq, and_true] at m2
      obtain ⟨rfl, rfl⟩ := m2
      have hle : ((els1.take hi1).drop lo0).length = hi1 - lo0 := by simp; omega
      rw [hle] at hlt
      have hrep := h.rep d
      rw [m7] at hrep
      have hrep' : RepO w Fz (.own (P.cellsOf e) els1) (valsOf a d) (S d) := hrep
      rw [m5] at hrep'
      rcases repO_own.1 hrep' with ⟨rfl, _⟩ | ⟨ad1, cap1', vs1, U1, ee, n1, n2, n3, n4, n5, _⟩
      · simp at m4; omega
      · simp only [Value.slice.injEq] at ee
        obtain ⟨rfl, rfl, rfl⟩ := ee
        rw [if_neg (by omega)] at m6
        simp only [Option.map_some, Option.some.injEq] at m6
        have e1 := m6.1
        rw [addr_add n2] at e1
        refine wp_value (run ad _ cap f1 (by rw [hle]; exact hlt)) (hk _ _ (fin_on h hdf hn hfree r5 (fun d' _ hl => ⟨⟨_, ⟨ad1, _, cap1, m5, rfl⟩, ?_⟩, hl⟩) rfl (fun g hg => by simp [AV.on, Pl.holder] at hg; exact hg.symm) hdl))
        rw [addr_add hs, e1]
        simp [Nat.add_mul, Nat.add_assoc]
    · rw [es] at r5
      cases pl with
      | r d => exact absurd rfl (hpr d)
      | b d off =>
        have hdl : d < σ2.length := lt_of_getD (getIn_ne q5)
        have hvv := hv
        unfold VOk at hvv
        rw [es] at hvv
        obtain ⟨z1, hi1, els1, m1, m2, m3, m4, ⟨a1, len1, cap1, ⟨ad2, ⟨⟨bb, hb1, rfl⟩, hb2⟩, m5⟩, m6⟩, m7⟩ := hvv
        rw [f1] at m6
        simp only [Value.slice.injEq] at m6
        rw [hc] at m2
        simp only [List.cons.injEq, OV.own.injEq, and_true] at m2
        obtain ⟨rfl, rfl⟩ := m2
        have hle : ((els1.take hi1).drop lo0).length = hi1 - lo0 := by simp; omega
        rw [hle] at hlt
        obtain ⟨ad3, T3, T4, t1, t2, t3, t4, _⟩ := focusV (vs := [.slice a1 len1 cap1]) h (fun x e => by cases e) m7 (PlHdr.val (fun x e => by cases e) ⟨_, ⟨⟨bb, hb1, rfl⟩, hb2⟩, m5⟩)
        obtain ⟨x3, e3, hrep'⟩ := t4.of_one
        simp at e3; subst e3
        rcases repO_own.1 hrep' with ⟨rfl, _⟩ | ⟨ad1, cap1', vs1, U1, ee, n1, n2, n3, n4, n5, _⟩
        · simp at m4; omega
        · simp only [Value.slice.injEq] at ee
          obtain ⟨rfl, rfl, rfl⟩ := ee
          rw [if_neg (by omega)] at m6
          simp only [Option.map_some, Option.some.injEq] at m6
          have e1 := m6.1
          rw [addr_add n2] at e1
          refine wp_value (run ad _ cap f1 (by rw [hle]; exact hlt)) (hk _ _ (fin_on h hdf hn hfree r5 (fun d' _ hl => ⟨⟨_, ⟨ad1, _, cap1, ⟨bb, hb1, hb2, m5⟩, rfl⟩, ?_⟩, hl⟩) rfl (fun g hg => by simp [AV.on, Pl.holder] at hg; exact hg.symm) hdl))
          rw [addr_add hs, e1]
          simp [Nat.add_mul, Nat.add_assoc]
      | e d c z i off => exact other r5
  · simp at r4
end
end Go.Pv
end

section
namespace Go.Pv
open Go.RowKit
section
variable {P : Program} {w : World} {Fz : BSet}
theorem cellsEq_len : ∀ {ks : List CK} {xs ys : List PV} {r : Bool}, cellsEq ks xs ys = some r → xs.length = ks.length ∧ ys.length = ks.length := by
  intro ks
  induction ks with
  | nil => intro xs ys r h; cases xs <;> cases ys <;> simp_all [cellsEq]
  | cons k ks ih =>
    intro xs ys r h
    cases xs with
    | nil => cases k <;> simp [cellsEq] at h
    | cons x xs =>
      cases ys with
      | nil => cases k <;> cases x <;> simp [cellsEq] at h
      | cons y ys =>
        have : ∃ r', cellsEq ks xs ys = some r' := by
          cases k <;> cases x <;> cases y <;> simp only [cellsEq, reduceCtorEq] at h
          · obtain ⟨r', h1, _⟩ := Option.map_eq_some_iff.1 h; exact ⟨r', h1⟩
          · split at h
            · obtain ⟨r', h1, _⟩ := Option.map_eq_some_iff.1 h; exact ⟨r', h1⟩
            · cases h
          · obtain ⟨r', h1, _⟩ := Option.map_eq_some_iff.1 h; exact ⟨r', h1⟩
        obtain ⟨r', h'⟩ := this
        simp [ih h']
theorem cellsEq_append : ∀ {k1 k2 : List CK} {xs ys : List PV} {r : Bool}, cellsEq (k1 ++ k2) xs ys = some r →
    ∃ r1 r2, cellsEq k1 (xs.take k1.length) (ys.take k1.length) = some r1 ∧ cellsEq k2 (xs.drop k1.length) (ys.drop k1.length) = some r2 ∧ r = (r1 && r2) := by
  intro k1
  induction k1 with
  | nil => intro k2 xs ys r h; exact ⟨true, r, by simp [cellsEq], by simpa using h, by simp⟩
  | cons k k1 ih =>
    intro k2 xs ys r h
    simp only [List.cons_append] at h
    cases xs with
    | nil => cases k <;> simp [cellsEq] at h
    | cons x xs =>
      cases ys with
      | nil => cases k <;> cases x <;> simp [cellsEq] at h
      | cons y ys =>
        simp only [List.length_cons, List.take_succ_cons, List.drop_succ_cons]
        cases k <;> cases x <;> cases y <;> simp only [cellsEq, reduceCtorEq] at h ⊢
        · obtain ⟨r', h1, h2⟩ := Option.map_eq_some_iff.1 h
          obtain ⟨r1, r2, e1, e2, e3⟩ := ih h1
          exact ⟨_, r2, by rw [e1]; rfl, e2, by rw [← h2, e3, Bool.and_assoc]⟩
        · split at h
          · rename_i hk
            obtain ⟨r', h1, h2⟩ := Option.map_eq_some_iff.1 h
            obtain ⟨r1, r2, e1, e2, e3⟩ := ih h1
            exact ⟨_, r2, by rw [if_pos hk, e1]; rfl, e2, by rw [← h2, e3, Bool.and_assoc]⟩
          · cases h
        · obtain ⟨r', h1, h2⟩ := Option.map_eq_some_iff.1 h
          obtain ⟨r1, r2, e1, e2, e3⟩ := ih h1
          exact ⟨_, r2, by rw [e1]; rfl, e2, by rw [← h2, e3, Bool.and_assoc]⟩
def pkV (P : Program) (t : TypeId) (vs : List Value) : Value := if isAg P t then .agg vs.toArray else (vs.head?).getD (.bool false)
def Reps (w : World) (Fz : BSet) (xs : List PV) (vs : List Value) : Prop := vs.length = xs.length ∧ ∀ (j : Nat) (c : PV) (v : Value), xs[j]? = some c → vs[j]? = some v → RepP w Fz c v
theorem Reps.take {xs : List PV} {vs : List Value} (n : Nat) (h : Reps w Fz xs vs) : Reps w Fz (xs.take n) (vs.take n) := by
  refine ⟨by simp [h.1], fun j c v h1 h2 => ?_⟩
  rw [List.getElem?_take] at h1 h2
  split at h1
  · rename_i hj; rw [if_pos hj] at h2; exact h.2 j c v h1 h2
  · cases h1
theorem Reps.drop {xs : List PV} {vs : List Value} (n : Nat) (h : Reps w Fz xs vs) : Reps w Fz (xs.drop n) (vs.drop n) := by
  refine ⟨by simp [h.1], fun j c v h1 h2 => ?_⟩
  rw [List.getElem?_drop] at h1 h2
  exact h.2 _ c v h1 h2
theorem Reps.one {x : PV} {vs : List Value} (h : Reps w Fz [x] vs) : ∃ v, vs = [v] ∧ RepP w Fz x v := by
  obtain ⟨h1, h2⟩ := h
  match vs, h1 with
  | [v], _ => exact ⟨v, rfl, h2 0 x v rfl rfl⟩
theorem run_part_pk {t : TypeId} {X : Array Value} {off : Nat} (ht : has P t = true) (hn : isAg P t = true ∨ P.cellsOf t = 1) (hX : off + P.cellsOf t ≤ X.size) : (part t X off).run P w = .ok (pkV P t ((X.toList.drop off).take (P.cellsOf t))) w := by
  have hi : ∃ i, P.info? t = some i := by
    simp only [has, Bool.and_eq_true, Option.isSome_iff_exists] at ht
    exact ht.1
  obtain ⟨i, hi⟩ := hi
  simp only [part, Sem.run_bind, run_isAgg ht, Result.andThen_ok, pkV]
  cases hag : isAg P t with
  | true =>
    simp only [if_true, Sem.run_bind, run_sizeOf w hi, Result.andThen_ok, Sem.run_pure]
    congr 2
    apply Array.toList_inj.1
    rw [Array.toList_extract]
    simp [List.extract]
  | false =>
    have h1 : P.cellsOf t = 1 := by simpa [hag] using hn
    have hlt : off < X.size := by omega
    simp only [Bool.false_eq_true, if_false, Array.getElem?_eq_getElem hlt, Sem.run_pure]
    congr 1
    rw [h1, List.drop_eq_getElem_cons (by simpa using hlt)]
    simp
theorem eqlKs_ag : ∀ {k : Nat} {t : TypeId} {ks : List CK}, eqlKs P k t = some ks → isAg P t = true ∨ P.cellsOf t = 1 := by
  intro k t ks h
  cases k with
  | zero => simp [eqlKs] at h
  | succ k =>
    unfold eqlKs at h
    split at h
    case h_4 hu => exact .inl (by simp [isAg, hu])
    case h_5 => cases h
    all_goals
      split at h
      · exact .inr (by assumption)
      · cases h
theorem eqFields_ok {k d n : Nat} (IH : ∀ (t : TypeId) (ks : List CK) (xs ys : List PV) (vx vy : List Value) (r : Bool), eqlKs P k t = some ks → Reps w Fz xs vx → Reps w Fz ys vy → cellsEq ks xs ys = some r →
      ks.length = P.cellsOf t ∧ (Op.equalIn d t (pkV P t vx) (pkV P t vy)).run P w = .ok r w) (hl : ∀ t ks, eqlKs P k t = some ks → ks.length = P.cellsOf t) {X Y : Array Value} (hX : X.size = n) (hY : Y.size = n) :
    ∀ (fs : List Field) (off : Nat) (ks : List CK) (xs ys : List PV) (r : Bool), eqlFields P (eqlKs P k) n off fs = some ks → Reps w Fz xs (X.toList.drop off) → Reps w Fz ys (Y.toList.drop off) → cellsEq ks xs ys = some r →
      (Op.eqFields d X Y fs).run P w = .ok r w := by
  intro fs
  induction fs with
  | nil =>
    intro off ks xs ys r h hx hy hc
    simp only [eqlFields] at h
    split at h
    · simp only [Option.some.injEq] at h
      subst h
      obtain ⟨h1, h2⟩ := cellsEq_len hc
      have : xs = [] := List.eq_nil_of_length_eq_zero h1
      subst this
      have : ys = [] := List.eq_nil_of_length_eq_zero h2
      subst this
      simp only [cellsEq, Option.some.injEq] at hc
      subst hc
      simp [Op.eqFields]
    · cases h
  | cons f fs ih =>
    intro off ks xs ys r h hx hy hc
    simp only [eqlFields] at h
    split at h
    · rename_i a b ha hb
      split at h
      · rename_i hh
        obtain ⟨h1, h2, h3, h4⟩ := hh
        simp only [Option.some.injEq] at h
        subst h
        obtain ⟨r1, r2, c1, c2, rfl⟩ := cellsEq_append hc
        rw [hl _ _ ha] at c1 c2
        have p1 := run_part_pk (w := w) (X := X) (off := off) h3 (eqlKs_ag ha) (by omega)
        have p2 := run_part_pk (w := w) (X := Y) (off := off) h3 (eqlKs_ag ha) (by omega)
        have e1 := (IH f.type _ _ _ _ _ r1 ha (hx.take (P.cellsOf f.type)) (hy.take (P.cellsOf f.type)) c1).2
        simp only [Op.eqFields, ne_eq, h1, not_false_eq_true, if_true, Sem.run_bind, h2, p1, p2, Result.andThen_ok, e1]
        cases r1 with
        | false => simp
        | true =>
          have := ih (off + P.cellsOf f.type) _ _ _ r2 hb (by simpa [List.drop_drop] using hx.drop (P.cellsOf f.type)) (by simpa [List.drop_drop] using hy.drop (P.cellsOf f.type)) c2
          simpa using this
      · cases h
    · cases h
theorem eqlFields_len {g : TypeId → Option (List CK)} {n : Nat} (hg : ∀ t ks, g t = some ks → ks.length = P.cellsOf t) : ∀ (fs : List Field) (off : Nat) (ks : List CK), eqlFields P g n off fs = some ks → off + ks.length = n := by
  intro fs
  induction fs with
  | nil =>
    intro off ks h
    simp only [eqlFields] at h
    split at h
    · simp only [Option.some.injEq] at h; subst h; simpa
    · cases h
  | cons f fs ih =>
    intro off ks h
    simp only [eqlFields] at h
    split at h
    · rename_i a b ha hb
      split at h
      · simp only [Option.some.injEq] at h
        subst h
        have := ih _ _ hb
        have := hg _ _ ha
        simp only [List.length_append]; omega
      · cases h
    · cases h
theorem eqlKs_len : ∀ {k : Nat} {t : TypeId} {ks : List CK}, eqlKs P k t = some ks → ks.length = P.cellsOf t := by
  intro k
  induction k with
  | zero => intro t ks h; simp [eqlKs] at h
  | succ k ih =>
    intro t ks h
    unfold eqlKs at h
    split at h
    case h_4 hu =>
      split at h
      · have := eqlFields_len (fun t ks => ih) _ _ _ h; omega
      · cases h
    case h_5 => cases h
    all_goals
      split at h
      · rename_i h1; simp only [Option.some.injEq] at h; subst h; simp [h1]
      · cases h
theorem eqlKs_ok : ∀ (k d : Nat) (t : TypeId) (ks : List CK) (xs ys : List PV) (vx vy : List Value) (r : Bool), eqlKs P k t = some ks → Reps w Fz xs vx → Reps w Fz ys vy → cellsEq ks xs ys = some r →
    (Op.equalIn (d + k) t (pkV P t vx) (pkV P t vy)).run P w = .ok r w := by
  intro k
  induction k with
  | zero => intro d t ks xs ys vx vy r h; simp [eqlKs] at h
  | succ k ih =>
    intro d t ks xs ys vx vy r h hx hy hc
    obtain ⟨l1, l2⟩ := cellsEq_len hc
    have l0 := eqlKs_len h
    unfold eqlKs at h
    split at h
    case h_4 fs hu =>
      split at h
      · rename_i hs
        have hag : isAg P t = true := by simp [isAg, hu]
        have hfs : P.fieldsOf t = fs := by simp [Program.fieldsOf, hu]
        simp only [pkV, hag, if_true]
        rw [show d + (k + 1) = (d + k) + 1 from rfl, run_equalIn_struct w (d + k) t _ _ (by rw [hfs]; exact hu) hs, hfs]
        exact eqFields_ok (n := P.cellsOf t) (fun t ks xs ys vx vy r h1 h2 h3 h4 => ⟨eqlKs_len h1, ih d t ks xs ys vx vy r h1 h2 h3 h4⟩) (fun t ks => eqlKs_len) (by simp [hx.1, l1, l0]) (by simp [hy.1, l2, l0]) fs.toList 0 ks xs ys r h (by simpa using hx) (by simpa using hy) hc
      · cases h
    case h_5 => cases h
    all_goals
      rename_i hu
      split at h
      case isFalse => cases h
      simp only [Option.some.injEq] at h
      subst h
      have hag : isAg P t = false := by simp [isAg, hu]
      obtain ⟨x, rfl⟩ := List.length_eq_one_iff.1 l1
      obtain ⟨y, rfl⟩ := List.length_eq_one_iff.1 l2
      obtain ⟨v, rfl, rv⟩ := hx.one
      obtain ⟨u, rfl, ru⟩ := hy.one
      cases rv <;> cases ru <;> simp only [cellsEq, reduceCtorEq] at hc
      simp only [pkV, hag, Bool.false_eq_true, if_false, List.head?_cons, Option.getD_some]
    · simp at hc; subst hc; exact run_equalIn_bool' w (d + k) t _ _ hu
    · split at hc
      · rename_i hk; subst hk; simp at hc; subst hc; exact run_equalIn_int w (d + k) t _ _ _ _ hu
      · cases hc
    · simp at hc; subst hc; rw [show d + (k + 1) = (d + k) + 1 from rfl, run_equalIn_string w (d + k) t _ _ hu]; simp [ByteArray.toList_eq]
theorem RepL.reps : ∀ {cs : List OV} {vs : List Value} {T : BSet}, RepL w Fz cs vs T → plainAll cs = true → Reps w Fz (OV.frzs cs) vs
  | [], [], _, _, _ => ⟨rfl, fun j c v h => by simp [OV.frzs] at h⟩
  | c :: cs, v :: vs, T, ⟨T1, T2, h1, h2, h3, h4, h5⟩, hp => by
    simp only [plainAll, List.all_cons, Bool.and_eq_true] at hp
    obtain ⟨g1, g2⟩ := RepL.reps h2 hp.2
    refine ⟨by simp [OV.frzs, g1], fun j c' v' hc hv => ?_⟩
    cases j with
    | zero =>
      simp only [OV.frzs, List.getElem?_cons_zero, Option.some.injEq] at hc hv
      subst hc; subst hv
      cases h1 with
      | p h => exact h
      | hole => simp [OV.plain] at hp
      | nil => simp [OV.plain] at hp
      | own => simp [OV.plain] at hp
    | succ j => exact g2 j c' v' (by simpa [OV.frzs] using hc) (by simpa using hv)
  | [], _ :: _, _, h, _ => h.elim
  | _ :: _, [], _, h, _ => h.elim
end
section
variable {P : Program} {I : World → Prop} {o : Oper} {callf : Nat → List AV → Option CRes}
theorem sound_eqs {neg : Bool} {op : BinOp} {t u : TypeId} {x y : Operand} {ox oy : Od} {fs : Array Field} {ks : List CK} (ho : o.op = .binOp op t x y u) (hop : op = if neg then .neq else .eql) (ht : P.underlying t = some (.struct fs)) (hx : odOf P t x = some ox) (hy : odOf P t y = some oy)
    (hks : eqlKs P 12 t = some ks) (hg : P.eqGuardType P.depth t = false) : Sound I P callf o (.eqs neg ks ox oy) := by
  intro B K σ σ' a w _ hI hr Kt Q hk
  obtain ⟨hdf, hn, Fz, S, h, hfree⟩ := hI
  obtain ⟨v1, σ1, h1, r1⟩ := Pg.bind_some hr
  obtain ⟨rfl, g1⟩ := val_ok h (odOf_ok (a := a) hx) h1
  obtain ⟨v2, σ2, h2, r2⟩ := Pg.bind_some r1
  obtain ⟨rfl, g2⟩ := val_ok h (odOf_ok (a := a) hy) h2
  obtain ⟨hag, r3⟩ := Pg.guard_some r2
  obtain ⟨c, hc, r4⟩ := Pg.opt_some r3
  simp only [Bool.and_eq_true] at hag
  obtain ⟨⟨⟨a1, a2⟩, p1⟩, p2⟩ := hag
  obtain ⟨vs, T1, k1, l1, _⟩ := g1.rep h
  obtain ⟨us, T2, k2, l2, _⟩ := g2.rep h
  rcases k1 with ⟨_, ex⟩ | ⟨e, _⟩
  case inr => rw [e] at a1; simp at a1
  rcases k2 with ⟨_, ey⟩ | ⟨e, _⟩
  case inr => rw [e] at a2; simp at a2
  have hA : isAg P t = true := by simp [isAg, ht]
  have e := eqlKs_ok (P := P) (w := w) (Fz := Fz) 12 9988 t ks _ _ _ _ c hks (l1.reps p1) (l2.reps p2) hc
  simp only [pkV, hA, if_true] at e
  refine wp_value (x := .bool (if neg then !c else c)) (w' := w) ?_ (hk _ _ (fin_p (hd := σ2.length) h hdf hn (Nat.le_refl _) (Inv.free hfree _) r4 (.bool _)))
  cases neg <;> simp only [Bool.false_eq_true, if_false, if_true] at hop ⊢ <;> subst hop <;>
    simp only [execOp, ho, ex, ey, Sem.run_bind, run_eqGuard_agg _ _ _ _ _ _ _ hg, Result.andThen_ok, binOp, Op.equal, Op.maxDepth, e, Sem.run_pure]
end
end Go.Pv
end

section
namespace Go.Pv
open Go.RowKit Go.MapKept
set_option linter.unusedVariables false
set_option linter.unusedSimpArgs false
section
variable {P : Program} {I : World → Prop} {B : Base I} {K : Kills} {σ σ' σ1 : List AV} {vals vals' : Nat → Value} {w w' : World} {Fz Fz' : BSet} {S S' : Nat → BSet} {a : Act} {hd : Nat} {dst : Option Nat} {v : AV} {x y : Value} {o : Oper} {Kt : Act → World → Prop} {Q : Exit → Act → World → Prop} {callf : Nat → List AV → Option CRes}
theorem RepP_key {k : PV} {d : TypeDesc} (h : RepP w Fz k y) (hk : mkey d k = true) : IsKey d y := by
  cases k with
  | int k n =>
    cases d <;> simp [mkey] at hk
    subst hk
    rw [repP_int h]; simp [IsKey]
  | str s =>
    cases d <;> simp [mkey] at hk
    rw [repP_str h]; simp [IsKey]
  | _ => cases d <;> simp [mkey] at hk
theorem keyEq_now {k k' : PV} {y y' : Value} {d : TypeDesc} (h : RepP w Fz k y) (h' : RepP w Fz k' y') (hk : mkey d k = true) (b : Bool) (he : keyEq k k' = some b) : Instr.sameNow d y y' = some b ∧ mkey d k' = true ∧ (b = true → y = y') := by
  cases k with
  | int k n =>
    cases k' <;> simp only [keyEq, reduceCtorEq] at he
    rename_i k2 n2
    split at he
    · rename_i hkk
      simp only [Option.some.injEq] at he
      cases d <;> simp [mkey] at hk
      subst hkk; subst hk
      rw [repP_int h, repP_int h']
      subst he
      refine ⟨by simp [Instr.sameNow], by simp [mkey], fun e => by simp at e; rw [e]⟩
    · simp at he
  | str s =>
    cases k' <;> simp only [keyEq, reduceCtorEq, Option.some.injEq] at he
    rename_i s2
    cases d <;> simp [mkey] at hk
    rw [repP_str h, repP_str h']
    have e : ((⟨s.toArray⟩ : ByteArray) == ⟨s2.toArray⟩) = b := by
      subst he
      by_cases q : s = s2
      · subst q; simp [bytes_beq]
      · have h1 : ((⟨s.toArray⟩ : ByteArray) == ⟨s2.toArray⟩) = false := by
          rw [Bool.eq_false_iff]
          intro e
          have := (bytes_beq _ _).1 e
          simp at this; exact q this
        rw [h1]; symm; simpa using q
    refine ⟨by simp only [Instr.sameNow, e], by simp [mkey], fun hb => ?_⟩
    subst he
    simp at hb; rw [hb]
  | _ => cases k' <;> simp [keyEq] at he
theorem find_ok {k : PV} {d : TypeDesc} (h : RepP w Fz k y) (hk : mkey d k = true) : ∀ {kvs : List (PV × PV)} {es : List MapEntry} (i : Nat) {r : Option PV}, RepKvs w Fz kvs es → mfind k kvs = some r →
    (r = none ∧ Instr.findNow d y es i = some none ∧ ∀ v, mput k v kvs = kvs ++ [(k, v)]) ∨
    ∃ p j e, r = some p ∧ Instr.findNow d y es i = some (some (i + j, e.val)) ∧ es[j]? = some e ∧ e.key = y ∧ RepP w Fz p e.val ∧ j < kvs.length ∧ ∀ v, mput k v kvs = kvs.set j (k, v)
  | [], [], i, r, _, hr => by
    simp only [mfind, Option.some.injEq] at hr
    exact .inl ⟨hr.symm, rfl, fun v => rfl⟩
  | q :: kvs, e :: es, i, r, ⟨h1, h2, h3⟩, hr => by
    simp only [mfind] at hr
    split at hr
    · rename_i he
      simp only [Option.some.injEq] at hr
      obtain ⟨g1, g2, g3⟩ := keyEq_now h h1 hk true he
      exact .inr ⟨q.2, 0, e, hr.symm, by simp [Instr.findNow, g1], rfl, (g3 rfl).symm, h2, by simp, fun v => by simp [mput, he]⟩
    · rename_i he
      obtain ⟨g1, g2, g3⟩ := keyEq_now h h1 hk false he
      rcases find_ok h hk (i + 1) h3 hr with ⟨f1, f2, f3⟩ | ⟨p, j, e', f1, f2, f3, f4, f5, f6, f7⟩
      · exact .inl ⟨f1, by simp [Instr.findNow, g1, f2], fun v => by simp [mput, he, f3 v]⟩
      · exact .inr ⟨p, j + 1, e', f1, by simp [Instr.findNow, g1, f2]; omega, by simpa using f3, f4, f5, by simp; omega, fun v => by simp [mput, he, f7 v]⟩
    · simp at hr
  | [], _ :: _, _, _, h, _ => h.elim
  | _ :: _, [], _, _, h, _ => h.elim
theorem RepKvs.push {k v : PV} {y z : Value} {n : Nat} (hk : RepP w Fz k y) (hv : RepP w Fz v z) : ∀ {kvs : List (PV × PV)} {es : List MapEntry}, RepKvs w Fz kvs es → RepKvs w Fz (kvs ++ [(k, v)]) (es ++ [⟨y, z, n⟩])
  | [], [], _ => ⟨hk, hv, trivial⟩
  | p :: l, e :: es, ⟨h1, h2, h3⟩ => ⟨h1, h2, RepKvs.push hk hv h3⟩
  | [], _ :: _, h => h.elim
  | _ :: _, [], h => h.elim
theorem RepKvs.set {k v : PV} {y z : Value} (hk : RepP w Fz k y) (hv : RepP w Fz v z) : ∀ {kvs : List (PV × PV)} {es : List MapEntry} (j : Nat) (e : MapEntry), RepKvs w Fz kvs es → es[j]? = some e → RepKvs w Fz (kvs.set j (k, v)) (es.set j { e with key := y, val := z })
  | [], [], j, e, _, h => by simp at h
  | p :: l, e0 :: es, 0, e, ⟨h1, h2, h3⟩, h => ⟨hk, hv, h3⟩
  | p :: l, e0 :: es, j + 1, e, ⟨h1, h2, h3⟩, h => ⟨h1, h2, RepKvs.set hk hv j e h3 (by simpa using h)⟩
  | [], _ :: _, _, _, h, _ => h.elim
  | _ :: _, [], _, _, h, _ => h.elim
theorem RepKvs.length : ∀ {kvs : List (PV × PV)} {es : List MapEntry}, RepKvs w Fz kvs es → kvs.length = es.length
  | [], [], _ => rfl
  | p :: l, e :: es, ⟨h1, h2, h3⟩ => by simp [RepKvs.length h3]
  | [], _ :: _, h => h.elim
  | _ :: _, [], h => h.elim
theorem map_lean {A : AV} {t d r : Nat} {z : Value} (h : RepA vals w Fz S K t A z) (hd : vals d = .map (some r)) : A.onMem d = false ∧ A.onEl d = false := by
  cases A with
  | al pl n ag =>
    cases pl with
    | r d' => exact ⟨rfl, rfl⟩
    | b d' off =>
      by_cases e : d' = d
      · subst e
        obtain ⟨⟨vs, ⟨ad, ⟨⟨b, h1, _⟩, _⟩, _⟩, _⟩, _⟩ := h
        rw [hd] at h1; simp at h1
      · simp [AV.onMem, AV.onEl, Pl.isEl, Pl.holder, e]
    | e d' c z' i off =>
      by_cases e : d' = d
      · subst e
        obtain ⟨⟨vs, ⟨ad, ⟨⟨a', len, cap, h1, _⟩, _⟩, _⟩, _⟩, _⟩ := h
        cases c with
        | none => have h1' : vals d' = _ := h1; rw [hd] at h1'; simp at h1'
        | some k => obtain ⟨b, h2, _⟩ := h1; rw [hd] at h2; simp at h2
      · cases c <;> simp [AV.onMem, AV.onEl, Pl.isEl, Pl.holder, e]
  | sv pl z' lo hi =>
    cases pl with
    | r d' => exact ⟨rfl, rfl⟩
    | b d' off =>
      by_cases e : d' = d
      · subst e
        obtain ⟨⟨a', len, cap, ⟨ad, ⟨⟨b, h1, _⟩, _⟩, _⟩, _⟩, _⟩ := h
        rw [hd] at h1; simp at h1
      · simp [AV.onMem, AV.onEl, Pl.isEl, Pl.holder, e]
    | e d' c z' i off =>
      by_cases e : d' = d
      · subst e
        obtain ⟨⟨a', len, cap, ⟨ad, ⟨⟨a2, len2, cap2, h1, _⟩, _⟩, _⟩, _⟩, _⟩ := h
        cases c with
        | none => have h1' : vals d' = _ := h1; rw [hd] at h1'; simp at h1'
        | some k => obtain ⟨b, h2, _⟩ := h1; rw [hd] at h2; simp at h2
      · cases c <;> simp [AV.onMem, AV.onEl, Pl.isEl, Pl.holder, e]
  | ptr pl =>
    cases pl with
    | r d' => exact ⟨rfl, rfl⟩
    | b d' off => exact ⟨rfl, rfl⟩
    | e d' c z' i off =>
      by_cases e : d' = d
      · subst e
        obtain ⟨⟨ad, ⟨a', len, cap, h1, _⟩, _⟩, _⟩ := h
        cases c with
        | none => have h1' : vals d' = _ := h1; rw [hd] at h1'; simp at h1'
        | some k => obtain ⟨b, h2, _⟩ := h1; rw [hd] at h2; simp at h2
      · cases c <;> simp [AV.onMem, AV.onEl, Pl.isEl, Pl.holder, e]
  | _ => exact ⟨rfl, rfl⟩
theorem St.setMap {d r : Nat} {kvs kvs' : List (PV × PV)} {es es' : Array MapEntry} {cl cl' : Nat} (h : St B K σ vals w Fz S) (hd : σ.getD d .u = .mp kvs) (hv : vals d = .map (some r)) (hr : S d r) (hh : w.heap[r]? = some (.map es cl)) (hk : RepKvs w Fz kvs' es'.toList) :
    St B K (σ.set d (.mp kvs')) vals { w with heap := w.heap.setIfInBounds r (.map es' cl') } Fz S := by
  have hdl : d < σ.length := lt_of_getD (by rw [hd]; simp)
  obtain ⟨q1, q2⟩ := heap_set (o' := .map es' cl') hh
  have hnf := (h.tok _ _ hr).2.1
  have hsz : (w.heap.setIfInBounds r (Obj.map es' cl')).size = w.heap.size := by simp
  refine ⟨fun t => ?_, h.dis, fun t b hb => ?_, fun t h' hon => ?_, fun b hb => ?_, h.os, h.tape, h.output, ?_, fun b hb hn => ?_, h.fz0, h.fz1⟩
  · rw [getD_set]
    by_cases ht : t = d
    · subst ht
      rw [if_pos rfl, if_pos hdl]
      exact ⟨r, es', cl', hv, hr, q1, hk.keep (fun _ h => h) fun b hb => q2 b fun e => by subst e; exact hnf hb⟩
    · rw [if_neg ht]
      refine (h.rep t).keep (fun _ h => h) (fun b hb => q2 b fun e => ?_) (fun _ h => h) fun h' hon => ?_
      · subst e; exact hb.elim hnf fun q => h.dis t d _ ht q hr
      · by_cases hh' : h' = d
        · subst hh'
          obtain ⟨m1, m2⟩ := map_lean (h.rep t) hv
          rw [m1, m2]
          exact ⟨rfl, fun e => by simp at e, fun e => by simp at e, fun e => by simp at e, fun e => by simp at e⟩
        · exact Held.same _ _ _ rfl (fun b hb => .inl hb) fun b hb => q2 b fun e => by subst e; exact h.dis h' d _ hh' hb hr
  · have := h.tok t b hb
    simpa using this
  · rw [getD_set] at hon
    rw [List.length_set]
    split at hon
    · simp [AV.on] at hon
    · exact h.hol t h' hon
  · have := h.frz b hb
    simpa using this
  · have := h.size
    simpa using this
  · have := h.old b hb hn
    rw [← this]
    exact q2 b fun e => by
      subst e
      rcases (h.tok _ _ hr).2.2 with q | q
      · exact hn q
      · omega
theorem mapOf_ok {z : Operand} {oz : Od} {d : Nat} {kvs : List (PV × PV)} (h : St B K σ (valsOf a) w Fz S) (hz : odT z = some oz) (hr : (mapOf oz).run σ = some ((d, kvs), σ1)) : σ1 = σ ∧ σ.getD d .u = .mp kvs ∧ a.eval z = valsOf a d := by
  obtain ⟨i, rfl, rfl⟩ := odT_ok hz
  simp only [mapOf, Pg.run_get] at hr
  split at hr
  · rename_i kvs' hk
    simp only [Pg.run_ret, Option.some.injEq, Prod.mk.injEq] at hr
    obtain ⟨⟨rfl, rfl⟩, rfl⟩ := hr
    exact ⟨rfl, hk, rfl⟩
  · rename_i d' n hal
    simp only [Pg.run_get] at hr
    split at hr
    · rename_i kvs' hk
      simp only [Pg.run_ret, Option.some.injEq, Prod.mk.injEq] at hr
      obtain ⟨⟨rfl, rfl⟩, rfl⟩ := hr
      have := h.rep i
      rw [hal] at this
      exact ⟨rfl, hk, this.1⟩
    · simp at hr
  · simp at hr
theorem sound_mkm {t : TypeId} {r : Option Operand} (ho : o.op = .makeMap t r) (hr0 : r = none ∨ ∃ k n kt et, r = some (.const (.int k n)) ∧ P.underlying t = some (.map kt et)) : Sound I P callf o .mkm := by
  intro B K σ σ' a w u hI hr Kt Q hk
  obtain ⟨hdf, hn, Fz, S, h, hfree⟩ := hI
  have h2 := h.step (hd := σ.length) (w' := w.alloc (.map #[] 0)) (Nat.le_refl _) (alloc_step w _ _) (T := fun b => b = w.heap.size) (fun b hb => .inr ⟨by omega, by subst hb; simp⟩)
  refine wp_value (x := .map (some w.heap.size)) (w' := w.alloc (.map #[] 0)) ?_ (hk _ _ ?_)
  · rcases hr0 with rfl | ⟨k, n, kt, et, rfl, hu⟩
    · simp only [execOp, ho, Option.map_none]
      simp [Instr.makeMap, Result.andThen]
    · simp only [execOp, ho, Option.map_some, Act.eval]
      simp [Instr.makeMap, run_underlying hu, asInt, asIntOf, Result.andThen]
  · refine fin (hd := σ.length) h2 hdf hn (Nat.le_refl _) (fun k hk hne b => by simp only [updS, if_neg hne]; exact hfree k hk b) hr (fun d _ => ?_) (fun y hy => by simp [AV.on] at hy)
    show RepMap _ Fz [] _ (mvS _ σ.length d d)
    rw [mvS_d]
    exact ⟨w.heap.size, #[], 0, rfl, by simp [updS], (heap_alloc w _).1, trivial⟩
theorem modify_set (es : Array MapEntry) (j : Nat) (e : MapEntry) (f : MapEntry → MapEntry) (h : es.toList[j]? = some e) : (es.modify j f).toList = es.toList.set j (f e) := by
  apply List.ext_getElem?
  intro m
  rw [Array.getElem?_toList, Array.getElem?_modify, List.getElem?_set]
  by_cases hm : j = m
  · subst hm
    have hl := (List.getElem?_eq_some_iff.1 h).1
    rw [if_pos rfl, if_pos rfl, if_pos hl, ← Array.getElem?_toList, h]; rfl
  · rw [if_neg hm, if_neg hm, Array.getElem?_toList]
theorem sound_mup {t kt et : TypeId} {m k v : Operand} {om ok ov : Od} {d : TypeDesc} (ho : o.op = .mapUpdate t m k v ∨ o.op = .insert t m k v) (hdst : o.dst = none) (hu : P.underlying t = some (.map kt et)) (hd : P.underlying kt = some d) (hm : odT m = some om) (hk' : odS k = some ok) (hv' : odOf P et v = some ov) : Sound I P callf o (.mup d om ok ov) := by
  intro B K σ σ' a w u hI hr Kt Q hk
  obtain ⟨hdf, hn, Fz, S, h, hfree⟩ := hI
  obtain ⟨⟨dr, kvs⟩, σ1, g1, r1⟩ := Pg.bind_some hr
  obtain ⟨rfl, hmp, hev⟩ := mapOf_ok (a := a) h hm g1
  obtain ⟨kp, σ2, g2, r2⟩ := Pg.bind_some r1
  obtain ⟨rfl, hkp⟩ := sc_ok h (odS_ok (a := a) hk') g2
  obtain ⟨vp, σ3, g3, r3⟩ := Pg.bind_some r2
  obtain ⟨rfl, hvp⟩ := sc_ok h (odOf_ok (a := a) hv') g3
  obtain ⟨hkey, r4⟩ := Pg.guard_some r3
  obtain ⟨fr, hf, r5⟩ := Pg.opt_some r4
  simp only [Pg.run_put, Pg.run_ret, Option.some.injEq, Prod.mk.injEq, true_and] at r5
  subst r5
  have hrep := h.rep dr
  rw [hmp] at hrep
  obtain ⟨r, es, cl, e1, e2, e3, e4⟩ := hrep
  have hIs := RepP_key hkp hkey
  have key : ∃ es' cl', (Instr.mapUpdate t (.map (some r)) (a.eval k) (a.eval v)).run P w = .ok () { w with heap := w.heap.setIfInBounds r (.map es' cl') } ∧ RepKvs w Fz (mput kp vp kvs) es'.toList := by
    rcases find_ok hkp hkey 0 e4 hf with ⟨_, f2, f3⟩ | ⟨p, j, e, _, f2, f3, f4, f5, f6, f7⟩
    · refine ⟨es.push ⟨a.eval k, a.eval v, cl⟩, cl + 1, ?_, ?_⟩
      · simp [Instr.mapUpdate, run_underlying hu, Go.MapKept.run_getObj_map e3, Go.MapKept.run_checkKey hd hIs, Go.MapKept.run_findKey hd f2, Go.MapKept.run_setObj_map _ e3, Result.andThen]
      · rw [f3, Array.toList_push]
        exact e4.push hkp hvp
    · have hj : es[j]? = some e := by rw [← Array.getElem?_toList]; exact f3
      refine ⟨es.modify j fun e => { e with key := a.eval k, val := a.eval v }, cl, ?_, ?_⟩
      · rw [Nat.zero_add] at f2
        simp [Instr.mapUpdate, run_underlying hu, Go.MapKept.run_getObj_map e3, Go.MapKept.run_checkKey hd hIs, Go.MapKept.run_findKey hd f2, hj, f4, run_keyThatStays hIs, Go.MapKept.run_setObj_map _ e3, Result.andThen]
      · rw [f7, modify_set es j e _ f3]
        exact e4.set hkp hvp j e f3
  obtain ⟨es', cl', k1, k2⟩ := key
  refine wp_skip' (w' := { w with heap := w.heap.setIfInBounds r (.map es' cl') }) ?_ (hk _ _ ?_)
  · have hev' : a.eval m = .map (some r) := hev.trans e1
    rcases ho with ho | ho <;> simp only [execOp, ho, hev', Sem.run_bind, k1, Result.andThen_ok, Sem.run_pure]
  · rw [hdst]
    exact ⟨hdf, by rw [List.length_set]; exact hn, Fz, S, h.setMap hmp e1 e2 e3 k2, fun k hk b hb => hfree k (by rw [List.length_set] at hk; exact hk) b hb⟩
theorem zeroPV_ok {t : TypeId} {z : PV} (h : zeroPV P t = some z) : ∃ v, (zeroValue t).run P w = .ok v w ∧ RepP w Fz z v := by
  unfold zeroPV at h
  split at h
  case h_2 => simp at h
  rename_i i hi
  split at h
  · rename_i b hz
    simp only [Option.some.injEq] at h; subst h
    exact ⟨_, run_zeroValue hi hz, .bool _⟩
  · rename_i k n hz
    simp only [Option.some.injEq] at h; subst h
    exact ⟨_, run_zeroValue hi hz, .int _ _⟩
  · rename_i s hz
    simp only [Option.some.injEq] at h; subst h
    refine ⟨_, run_zeroValue hi hz, ?_⟩
    have : s = ⟨s.data.toList.toArray⟩ := by cases s; simp
    rw [this]; exact .str _
  · simp at h
theorem sound_mlk {t kt et : TypeId} {m k : Operand} {om ok : Od} {d : TypeDesc} {z : PV} {cok : Bool} (ho : o.op = .lookup t m k cok) (hu : P.underlying t = some (.map kt et)) (hd : P.underlying kt = some d) (hm : odT m = some om) (hk' : odS k = some ok) (hz : zeroPV P et = some z) : Sound I P callf o (.mlk d cok z om ok) := by
  intro B K σ σ' a w u hI hr Kt Q hk
  obtain ⟨hdf, hn, Fz, S, h, hfree⟩ := hI
  obtain ⟨⟨dr, kvs⟩, σ1, g1, r1⟩ := Pg.bind_some hr
  obtain ⟨rfl, hmp, hev⟩ := mapOf_ok (a := a) h hm g1
  obtain ⟨kp, σ2, g2, r2⟩ := Pg.bind_some r1
  obtain ⟨rfl, hkp⟩ := sc_ok h (odS_ok (a := a) hk') g2
  obtain ⟨hkey, r4⟩ := Pg.guard_some r2
  obtain ⟨fr, hf, r5⟩ := Pg.opt_some r4
  have hrep := h.rep dr
  rw [hmp] at hrep
  obtain ⟨r, es, cl, e1, e2, e3, e4⟩ := hrep
  have hIs := RepP_key hkp hkey
  obtain ⟨zv, z1, z2⟩ := zeroPV_ok (w := w) (Fz := Fz) hz
  have hev' : a.eval m = .map (some r) := hev.trans e1
  have key : ∃ x, RepP w Fz (fr.getD z) x ∧ (Instr.lookup t (.map (some r)) (a.eval k) cok).run P w = .ok (if cok then .tuple #[x, .bool fr.isSome] else x) w := by
    rcases find_ok hkp hkey 0 e4 hf with ⟨rfl, f2, f3⟩ | ⟨p, j, e, rfl, f2, f3, f4, f5, f6, f7⟩
    · refine ⟨zv, z2, ?_⟩
      simp [Instr.lookup, run_underlying hu, Go.MapKept.run_getObj_map e3, Go.MapKept.run_checkKey hd hIs, Go.MapKept.run_findKey hd f2, z1, Result.andThen]
    · refine ⟨e.val, f5, ?_⟩
      simp [Instr.lookup, run_underlying hu, Go.MapKept.run_getObj_map e3, Go.MapKept.run_checkKey hd hIs, Go.MapKept.run_findKey hd f2, Result.andThen]
  obtain ⟨x, x1, x2⟩ := key
  refine wp_value (x := if cok then .tuple #[x, .bool fr.isSome] else x) (w' := w) ?_ (hk _ _ ?_)
  · simp only [execOp, ho, hev', Sem.run_bind, x2, Result.andThen_ok, Sem.run_pure]
  · cases cok with
    | false =>
      simp only [Bool.false_eq_true, if_false] at r5 ⊢
      exact fin_p (hd := σ2.length) h hdf hn (Nat.le_refl _) (Inv.free hfree _) r5 x1
    | true =>
      simp only [if_true] at r5 ⊢
      refine fin (hd := σ2.length) h hdf hn (Nat.le_refl _) (Inv.free hfree _) r5 (fun dd _ => ?_) (fun y hy => by simp [AV.on] at hy)
      refine ⟨[x, .bool fr.isSome], rfl, fun _ => False, fun _ => False, [x], .inr ⟨rfl, rfl⟩, ⟨fun _ => False, fun _ => False, .p x1, trivial, fun _ h => h, fun _ h => h, fun _ h => h.elim⟩, ?_, fun _ h => h.elim, fun _ h => h.elim, fun _ h => h.elim⟩
      exact ⟨fun _ => False, fun _ => False, [.bool fr.isSome], .inr ⟨rfl, rfl⟩, ⟨fun _ => False, fun _ => False, .p (.bool _), trivial, fun _ h => h, fun _ h => h, fun _ h => h.elim⟩, trivial, fun _ h => h.elim, fun _ h => h.elim, fun _ h => h.elim⟩
theorem mapKd_ok {t et : TypeId} {d : TypeDesc} (h : mapKd P t = some (d, et)) : ∃ kt, P.underlying t = some (.map kt et) ∧ P.underlying kt = some d := by
  unfold mapKd at h
  split at h
  · rename_i kt et' hu
    split at h
    · rename_i k hk; simp only [Option.some.injEq, Prod.mk.injEq] at h; obtain ⟨rfl, rfl⟩ := h; exact ⟨kt, hu, hk⟩
    · rename_i hk; simp only [Option.some.injEq, Prod.mk.injEq] at h; obtain ⟨rfl, rfl⟩ := h; exact ⟨kt, hu, hk⟩
    · simp at h
  · simp at h
theorem sound_mupOf {t : TypeId} {m k v : Operand} {io : IOp} (ho : o.op = .mapUpdate t m k v ∨ o.op = .insert t m k v) (h : mupOf P t m k v o.dst = some io) : Sound I P callf o io := by
  unfold mupOf at h
  split at h
  · rename_i d et hd
    obtain ⟨kt, h1, h2⟩ := mapKd_ok hd
    split at h
    · rename_i m' k' v' hm hk hv
      split at h <;> simp only [reduceCtorEq, Option.some.injEq] at h
      rename_i hdst
      subst h
      exact sound_mup ho (Option.isNone_iff_eq_none.1 hdst) h1 h2 hm hk hv
    · simp at h
  · simp at h
theorem sound_mlkOf {t : TypeId} {m k : Operand} {c : Bool} {io : IOp} (ho : o.op = .lookup t m k c) (h : mlkOf P t m k c = some io) : Sound I P callf o io := by
  unfold mlkOf at h
  split at h
  · rename_i d et hd
    obtain ⟨kt, h1, h2⟩ := mapKd_ok hd
    split at h
    · rename_i m' k' z hm hk hz
      simp only [Option.some.injEq] at h
      subst h
      exact sound_mlk ho h1 h2 hm hk hz
    · simp at h
  · simp at h
theorem sound_mkmOf {t : TypeId} {r : Option Operand} {io : IOp} (ho : o.op = .makeMap t r) (h : mkmOf P t r = some io) : Sound I P callf o io := by
  unfold mkmOf at h
  split at h
  · simp only [Option.some.injEq] at h; subst h; exact sound_mkm ho (.inl rfl)
  · rename_i k n
    split at h <;> simp only [reduceCtorEq, Option.some.injEq] at h
    rename_i kt et hu
    subst h
    exact sound_mkm ho (.inr ⟨k, n, kt, et, rfl, hu⟩)
  · simp at h
theorem sound_rng {t : TypeId} {x : Operand} {ox : Od} (ho : o.op = .range t x) (hu : P.underlying t = some .string) (hx : odS x = some ox) : Sound I P callf o (.rng ox) := by
  intro B K σ σ' a w u hI hr Kt Q hk
  obtain ⟨hdf, hn, Fz, S, h, hfree⟩ := hI
  obtain ⟨c, σ1, g1, r1⟩ := Pg.bind_some hr
  obtain ⟨rfl, hc⟩ := sc_ok h (odS_ok (a := a) hx) g1
  cases c <;> simp only [Pg.run_fail, reduceCtorEq] at r1
  rename_i s
  have h2 := h.step (hd := σ1.length) (w' := w.alloc (.stringIter ⟨s.toArray⟩ 0)) (Nat.le_refl _) (alloc_step w _ _) (T := fun b => b = w.heap.size) (fun b hb => .inr ⟨by omega, by subst hb; simp⟩)
  refine wp_value (x := .pointer (some ⟨w.heap.size, 0, none⟩)) (w' := w.alloc (.stringIter ⟨s.toArray⟩ 0)) ?_ (hk _ _ ?_)
  · simp only [execOp, ho, repP_str hc, Sem.run_bind]
    simp [Instr.range, run_underlying hu, Result.andThen]
  · refine fin (hd := σ1.length) h2 hdf hn (Nat.le_refl _) (fun k hk hne b => by simp only [updS, if_neg hne]; exact hfree k hk b) r1 (fun d _ => ?_) (fun y hy => by simp [AV.on] at hy)
    show RepIt _ s 0 _ (mvS _ σ1.length d d)
    rw [mvS_d]
    exact ⟨w.heap.size, rfl, by simp [updS], (heap_alloc w _).1⟩
theorem St.killed {d : Nat} {u : Unit} (h : St B K σ vals w Fz S) (hk : (killMem K d).run σ = some (u, σ1)) (hd : (σ.getD d .u).onMem d = false) :
    St B K σ1 vals w Fz S ∧ σ1.length = σ.length ∧ σ1.getD d .u = σ.getD d .u ∧ ∀ t, (σ1.getD t .u).onMem d = false := by
  obtain ⟨σ2, e1, hl', hk'⟩ := kill_run (AV.onMem d) (K.getD d []) σ
  unfold killMem at hk
  rw [e1] at hk
  obtain ⟨_, rfl⟩ : () = u ∧ σ2 = σ1 := by simpa using hk
  refine ⟨⟨fun t => ?_, h.dis, h.tok, fun t h' hon => ?_, h.frz, h.os, h.tape, h.output, h.size, h.old, h.fz0, h.fz1⟩, hl', ?_, fun t => ?_⟩
  · rcases hk' t with ⟨e, _⟩ | ⟨_, _, e⟩
    · rw [e]; exact h.rep t
    · rw [e]; trivial
  · rcases hk' t with ⟨e, _⟩ | ⟨_, _, e⟩
    · rw [e] at hon; rw [hl']; exact h.hol t h' hon
    · rw [e] at hon; simp [AV.on] at hon
  · rcases hk' d with ⟨e, _⟩ | ⟨_, e, _⟩
    · exact e
    · rw [hd] at e; simp at e
  · rcases hk' t with ⟨e, hm⟩ | ⟨_, _, e⟩
    · rw [e]
      cases hc : (σ.getD t .u).onMem d with
      | false => rfl
      | true =>
        rcases hm (leans_of_on (h.rep t) (onMem_on hc)).1 with q | q
        · rw [q] at hc; simp at hc
        · rw [q] at hc; simp [AV.onMem] at hc
    · rw [e]; rfl
theorem St.setObj {d r : Nat} {ob ob' : Obj} {A' : AV} (h : St B K σ vals w Fz S) (hdl : d < σ.length) (hr : S d r) (hh : w.heap[r]? = some ob) (hno : ∀ t, (σ.getD t .u).onMem d = false) (hon' : ∀ g, A'.on g = false)
    (hA : RepA vals { w with heap := w.heap.setIfInBounds r ob' } Fz S K d A' (vals d)) : St B K (σ.set d A') vals { w with heap := w.heap.setIfInBounds r ob' } Fz S := by
  obtain ⟨q1, q2⟩ := heap_set (o' := ob') hh
  have hnf := (h.tok _ _ hr).2.1
  refine ⟨fun t => ?_, h.dis, fun t b hb => ?_, fun t h' hon => ?_, fun b hb => ?_, h.os, h.tape, h.output, ?_, fun b hb hn => ?_, h.fz0, h.fz1⟩
  · rw [getD_set]
    by_cases ht : t = d
    · subst ht
      rw [if_pos rfl, if_pos hdl]
      exact hA
    · rw [if_neg ht]
      refine (h.rep t).keep (fun _ h => h) (fun b hb => q2 b fun e => ?_) (fun _ h => h) fun h' hon => ?_
      · subst e; exact hb.elim hnf fun q => h.dis t d _ ht q hr
      · by_cases hh' : h' = d
        · subst hh'
          have m2 : (σ.getD t .u).onEl h' = false := by
            cases q : (σ.getD t .u).onEl h' with
            | false => rfl
            | true => have := onEl_onMem q; rw [hno t] at this; simp at this
          rw [hno t, m2]
          exact ⟨rfl, fun e => by simp at e, fun e => by simp at e, fun e => by simp at e, fun e => by simp at e⟩
        · exact Held.same _ _ _ rfl (fun b hb => .inl hb) fun b hb => q2 b fun e => by subst e; exact h.dis h' d _ hh' hb hr
  · have := h.tok t b hb
    simpa using this
  · rw [getD_set] at hon
    rw [List.length_set]
    split at hon
    · first
        | (rw [hon' h'] at hon; simp at hon; done)
        | (split at hon
           · rw [hon' h'] at hon; simp at hon
           · simp [AV.on] at hon)
    · exact h.hol t h' hon
  · have := h.frz b hb
    simpa using this
  · have := h.size
    simpa using this
  · have := h.old b hb hn
    rw [← this]
    exact q2 b fun e => by
      subst e
      rcases (h.tok _ _ hr).2.2 with q | q
      · exact hn q
      · omega
theorem sound_nxt {x : Operand} {ox : Od} (ho : o.op = .next x true) (hx : odT x = some ox) : Sound I P callf o (.nxt ox) := by
  intro B K σ σ' a w u hI hr Kt Q hk
  obtain ⟨hdf, hn, Fz, S, h, hfree⟩ := hI
  obtain ⟨i, rfl, rfl⟩ := odT_ok hx
  simp only [opP, Pg.run_get] at hr
  split at hr
  case h_2 => simp at hr
  rename_i s pos hit
  have hil : i < σ.length := lt_of_getD (fun e => by rw [hit] at e; simp at e)
  have hrep := h.rep i
  rw [hit] at hrep
  obtain ⟨r, e1, e2, e3⟩ := hrep
  have hev : a.eval (.tmp i) = .pointer (some ⟨r, 0, none⟩) := e1
  have hsz : (⟨s.toArray⟩ : ByteArray).size = s.length := by simp [ByteArray.size]
  split at hr
  · rename_i hp
    obtain ⟨u1, σ1, g1, r1⟩ := Pg.bind_some hr
    obtain ⟨k1, k2, k3, k4⟩ := h.killed g1 (by rw [hit]; rfl)
    simp only [Pg.run_put] at r1
    have hp' : pos < (⟨s.toArray⟩ : ByteArray).size := by rw [hsz]; exact hp
    have k5 := k1.setObj (d := i) (A' := .it s (pos + (Utf8.decode ⟨s.toArray⟩ pos).2)) (ob' := .stringIter ⟨s.toArray⟩ (pos + (Utf8.decode ⟨s.toArray⟩ pos).2)) (by rw [k2]; exact hil) e2 e3 k4 (fun _ => rfl) ⟨r, e1, e2, (heap_set e3).1⟩
    refine wp_value (x := .tuple #[.bool true, .int .i64 pos, .int .i32 (Utf8.decode ⟨s.toArray⟩ pos).1]) (w' := { w with heap := w.heap.setIfInBounds r (.stringIter ⟨s.toArray⟩ (pos + (Utf8.decode ⟨s.toArray⟩ pos).2)) }) ?_ (hk _ _ ?_)
    · simp only [execOp, ho, hev, Sem.run_bind]
      simp [Instr.next, getObj, setObj, Sem.run, e3, hp', goInt, Result.andThen]
    · refine fin (hd := σ.length) k5 hdf (by rw [List.length_set, k2]; exact hn) (by rw [List.length_set, k2]; exact Nat.le_refl _) (fun k hk _ b => hfree k (by rw [List.length_set, k2] at hk; exact hk) b) r1 (fun dd _ => ?_) (fun y hy => by simp [AV.on] at hy)
      have one : ∀ (c : PV) (v : Value), RepP { w with heap := w.heap.setIfInBounds r (.stringIter ⟨s.toArray⟩ (pos + (Utf8.decode ⟨s.toArray⟩ pos).2)) } Fz c v → RepL { w with heap := w.heap.setIfInBounds r (.stringIter ⟨s.toArray⟩ (pos + (Utf8.decode ⟨s.toArray⟩ pos).2)) } Fz [.p c] [v] (fun _ => False) := fun c v hcv => ⟨fun _ => False, fun _ => False, .p hcv, trivial, fun _ h => h, fun _ h => h, fun _ h => h.elim⟩
      exact ⟨[.bool true, .int .i64 pos, .int .i32 (Utf8.decode ⟨s.toArray⟩ pos).1], rfl, fun _ => False, fun _ => False, _, .inr ⟨rfl, rfl⟩, one _ _ (.bool _), ⟨fun _ => False, fun _ => False, _, .inr ⟨rfl, rfl⟩, one _ _ (.int _ _), ⟨fun _ => False, fun _ => False, _, .inr ⟨rfl, rfl⟩, one _ _ (.int _ _), trivial, fun _ h => h.elim, fun _ h => h.elim, fun _ h => h.elim⟩, fun _ h => h.elim, fun _ h => h.elim, fun _ h => h.elim⟩, fun _ h => h.elim, fun _ h => h.elim, fun _ h => h.elim⟩
  · rename_i hp
    have hp' : ¬ pos < (⟨s.toArray⟩ : ByteArray).size := by rw [hsz]; exact hp
    refine wp_value (x := .tuple #[.bool false]) (w' := w) ?_ (hk _ _ ?_)
    · simp only [execOp, ho, hev, Sem.run_bind]
      simp [Instr.next, getObj, Sem.run, e3, hp', Result.andThen]
    · refine fin (hd := σ.length) h hdf hn (Nat.le_refl _) (Inv.free hfree _) hr (fun dd _ => ?_) (fun y hy => by simp [AV.on] at hy)
      exact ⟨[.bool false], rfl, fun _ => False, fun _ => False, [.bool false], .inr ⟨rfl, rfl⟩, ⟨fun _ => False, fun _ => False, .p (.bool _), trivial, fun _ h => h, fun _ h => h, fun _ h => h.elim⟩, trivial, fun _ h => h.elim, fun _ h => h.elim, fun _ h => h.elim⟩
end
end Go.Pv
end

section
namespace Go.Pv
open Go.RowKit
set_option linter.unusedVariables false
set_option linter.unusedSimpArgs false
def ArgOk (w : World) (Fz : BSet) (A : AV) (v : Value) (T : BSet) : Prop :=
  match A with
  | .w c => RepO w Fz c v T
  | .a cs => ∃ vs, v = .agg vs.toArray ∧ RepL w Fz cs vs T
  | .box cs => RepBox w Fz cs v T
  | .fp cs => RepFp w Fz cs v
  | .clo f caps => ∃ cvs, v = .func (.func f) #[] cvs.toArray ∧ RepCaps (fun _ => .bool false) w Fz (fun _ _ => False) [] 0 caps cvs
  | _ => False
def ArgsOk (w : World) (Fz : BSet) (as : List AV) (vs : List Value) (T : Nat → BSet) : Prop := vs.length = as.length ∧ ∀ (j : Nat) (A : AV) (v : Value), as[j]? = some A → vs[j]? = some v → ArgOk w Fz A v (T j)
def ResIs (w : World) (Fz : BSet) (rs : List (Bool × List OV)) (x : Value) (T : BSet) : Prop :=
  match rs with
  | [(ag, cs)] => ∃ vs, valIs ag x vs ∧ RepL w Fz cs vs T
  | rs => ∃ us, x = .tuple us.toArray ∧ RepT w Fz rs us T
def BoxesIs (w : World) (Fz : BSet) (T : Nat → BSet) : Nat → List AV → List Value → List (List OV) → Prop
  | _, [], [], [] => True
  | j, .box _ :: as, v :: vs, b :: bs => RepBox w Fz b v (T j) ∧ BoxesIs w Fz T (j + 1) as vs bs
  | _, .box _ :: _, _ :: _, [] => False
  | j, _ :: as, _ :: vs, bs => BoxesIs w Fz T (j + 1) as vs bs
  | _, _, _, _ => False
def FnOk (P : Program) (f : FuncId) : Prop := ∃ fn, P.funcs[f]? = some fn ∧ fn.body.isSome = true ∧ fn.name ≠ "runtime.NumGoroutine"
structure After (w : World) (Fz : BSet) (M : BSet) (as : List AV) (vs : List Value) (r : CRes) (e : Ending) (w' : World) : Prop where
  out : ∃ (x : Value) (Fz' Tr : BSet) (Tb : Nat → BSet), e = .returned x ∧ Step M w w' ∧ (∀ b, Fz b → Fz' b) ∧ (∀ b, Fz' b → (Fz b ∨ M b ∨ w.heap.size ≤ b) ∧ b < w'.heap.size) ∧
    ResIs w' Fz' r.1 x Tr ∧ BoxesIs w' Fz' Tb 0 as vs r.2 ∧ (∀ b, Tr b → (M b ∨ w.heap.size ≤ b) ∧ b < w'.heap.size ∧ ¬ Fz' b) ∧ (∀ j b, Tb j b → (M b ∨ w.heap.size ≤ b) ∧ b < w'.heap.size ∧ ¬ Fz' b) ∧
    (∀ j b, Tb j b → ¬ Tr b) ∧ ∀ i j b, i ≠ j → Tb i b → ¬ Tb j b
def CallOk (I : World → Prop) (P : Program) (f : FuncId) (as : List AV) (r : CRes) : Prop :=
  ∀ (O : World), I O → ∀ (vs : List Value) (w : World) (Fz : BSet) (T : Nat → BSet), (O.heap.size ≤ w.heap.size ∧ ∀ b, b < O.heap.size → w.heap[b]? = O.heap[b]?) → (∀ j b, T j b → O.heap.size ≤ b) → ArgsOk w Fz as vs T → (∀ i j b, i ≠ j → T i b → ¬ T j b) → (∀ j b, T j b → b < w.heap.size ∧ ¬ Fz b) → (∀ b, Fz b → b < w.heap.size) →
    Calls P f vs.toArray w (After w Fz (fun b => ∃ j, T j b) as vs r)
section
variable {P : Program} {I : World → Prop} {B : Base I} {K : Kills} {σ σ' σ1 : List AV} {vals vals' : Nat → Value} {w w' : World} {Fz Fz' : BSet} {S S' : Nat → BSet} {a : Act} {hd : Nat} {dst : Option Nat} {v : AV} {x y : Value} {o : Oper} {Kt : Act → World → Prop} {Q : Exit → Act → World → Prop} {callf : Nat → List AV → Option CRes}
theorem capsAny {vals0 : Nat → Value} {S0 : Nat → BSet} {K0 : Kills} {t0 t : Nat} (h0 : ∀ d b, vals0 d ≠ .pointer (some b)) : ∀ {caps : List AV} {cvs : List Value}, RepCaps vals0 w Fz S0 K0 t0 caps cvs → RepCaps vals w Fz S K t caps cvs
  | [], [], _ => trivial
  | .w c :: r, v :: vs, ⟨h1, h2, h3⟩ => ⟨h1, h2, capsAny h0 h3⟩
  | .a cs :: r, v :: vs, ⟨h1, h2, h3⟩ => ⟨h1, h2, capsAny h0 h3⟩
  | .ptr (.b g off) :: r, v :: vs, ⟨⟨ad, ⟨b, e1, e3⟩, e4⟩, _⟩ => absurd e1 (h0 _ _)
  | [], _ :: _, h => by simp [RepCaps] at h
  | .w _ :: _, [], h => by simp [RepCaps] at h
  | .a _ :: _, [], h => by simp [RepCaps] at h
  | .ptr (.b _ _) :: _, [], h => by simp [RepCaps] at h
  | .ptr (.r _) :: _, _, h => by simp [RepCaps] at h
  | .ptr (.e _ _ _ _ _) :: _, _, h => by simp [RepCaps] at h
  | .u :: _, _, h => by simp [RepCaps] at h
  | .t _ :: _, _, h => by simp [RepCaps] at h
  | .box _ :: _, _, h => by simp [RepCaps] at h
  | .fp _ :: r, v :: vs, ⟨h1, h3⟩ => ⟨h1, capsAny h0 h3⟩
  | .fp _ :: _, [], h => by simp [RepCaps] at h
  | .al _ _ _ :: _, _, h => by simp [RepCaps] at h
  | .sv _ _ _ _ :: _, _, h => by simp [RepCaps] at h
  | .clo _ _ :: _, _, h => by simp [RepCaps] at h
  | .mp _ :: _, _, h => by simp [RepCaps] at h
  | .it _ _ :: _, _, h => by simp [RepCaps] at h
  | .ln _ :: _, _, h => by simp [RepCaps] at h
theorem capsPlain {t : Nat} : ∀ {caps : List AV} {cvs : List Value}, RepCaps vals w Fz S K t caps cvs → (caps.all fun | .w c => c.plain | .a cs => plainAll cs | _ => false) = true → RepCaps (fun _ => .bool false) w Fz (fun _ _ => False) [] 0 caps cvs
  | [], [], _, _ => trivial
  | .w c :: r, v :: vs, ⟨h1, h2, h3⟩, h => ⟨h1, h2, capsPlain h3 (by simp at h; simpa using h.2)⟩
  | .a cs :: r, v :: vs, ⟨h1, h2, h3⟩, h => ⟨h1, h2, capsPlain h3 (by simp at h; simpa using h.2)⟩
  | .ptr (.b g off) :: r, v :: vs, _, h => by simp at h
  | [], _ :: _, h, _ => by simp [RepCaps] at h
  | .w _ :: _, [], h, _ => by simp [RepCaps] at h
  | .a _ :: _, [], h, _ => by simp [RepCaps] at h
  | .ptr (.b _ _) :: _, [], h, _ => by simp [RepCaps] at h
  | .ptr (.r _) :: _, _, h, _ => by simp [RepCaps] at h
  | .ptr (.e _ _ _ _ _) :: _, _, h, _ => by simp [RepCaps] at h
  | .u :: _, _, h, _ => by simp [RepCaps] at h
  | .t _ :: _, _, h, _ => by simp [RepCaps] at h
  | .box _ :: _, _, h, _ => by simp [RepCaps] at h
  | .fp _ :: _, _, _, h => by simp at h
  | .al _ _ _ :: _, _, h, _ => by simp [RepCaps] at h
  | .sv _ _ _ _ :: _, _, h, _ => by simp [RepCaps] at h
  | .clo _ _ :: _, _, h, _ => by simp [RepCaps] at h
  | .mp _ :: _, _, h, _ => by simp [RepCaps] at h
  | .it _ _ :: _, _, h, _ => by simp [RepCaps] at h
  | .ln _ :: _, _, h, _ => by simp [RepCaps] at h
theorem RepBox.keep {cs : List OV} {T T' : BSet} (h : RepBox w Fz cs x T) (hF : ∀ b, Fz b → Fz' b) (hw : ∀ b, Fz b ∨ T b → w'.heap[b]? = w.heap[b]?) (hT : ∀ b, T b → T' b) : RepBox w' Fz' cs x T' := by
  obtain ⟨b, vs, h1, h2, h3, h4, T1, h5, h6, h7⟩ := h
  exact ⟨b, vs, h1, hT b h2, h3.keep (hw b (.inr h2)), h4.keep (hw b (.inr h2)), T1, h5.keep hF (fun b hb => hw b (hb.imp id (h6 b))) (fun _ h => h), fun b hb => hT b (h6 b hb), h7⟩
theorem ArgOk.keep {A : AV} {T T' : BSet} (h : ArgOk w Fz A x T) (hF : ∀ b, Fz b → Fz' b) (hw : ∀ b, Fz b ∨ T b → w'.heap[b]? = w.heap[b]?) (hT : ∀ b, T b → T' b) : ArgOk w' Fz' A x T' := by
  cases A with
  | w c => exact RepO.keep h hF hw hT
  | a cs => obtain ⟨vs, h1, h2⟩ := h; exact ⟨vs, h1, h2.keep hF hw hT⟩
  | box cs => exact RepBox.keep h hF hw hT
  | fp cs => exact RepA.keep (vals := fun _ => undef) (vals' := fun _ => undef) (S := fun _ => T) (S' := fun _ => T') (K := []) (t := 0) (av := .fp cs) h hF hw hT (fun h' e => by simp [AV.on] at e)
  | clo f caps =>
    obtain ⟨cvs, h1, h2⟩ := h
    have hwF : ∀ b, Fz b → w'.heap[b]? = w.heap[b]? := fun b hb => hw b (.inl hb)
    exact ⟨cvs, h1, h2.keep hF hwF fun h' _ => ⟨rfl, fun e => by simp at e, fun e => by simp at e, fun e => by simp at e, fun e => by simp at e⟩⟩
  | _ => exact h.elim
theorem St.lend {d : Nat} {cs : List OV} {u : Unit} (h : St B K σ vals w Fz S) (hc : σ.getD d .u = .box cs) (hk : (killMem K d).run σ = some (u, σ1)) (h0 : σ.length ≤ hd) (h1 : ∀ b, ¬ S hd b) :
    St B K (σ1.set d .u) vals w Fz (updS (updS S d fun _ => False) hd (S d)) ∧ (σ1.set d .u).length = σ.length ∧ RepBox w Fz cs (vals d) (S d) := by
  have hdl : d < σ.length := lt_of_getD (by rw [hc]; simp)
  have hne : hd ≠ d := by omega
  have hbox := h.rep d
  rw [hc] at hbox
  obtain ⟨σ2, e1, hl', hk'⟩ := kill_run (AV.onMem d) (K.getD d []) σ
  unfold killMem at hk
  rw [e1] at hk
  obtain ⟨_, rfl⟩ : () = u ∧ σ2 = σ1 := by simpa using hk
  refine ⟨⟨fun t => ?_, updS_dis h hne h1 (fun _ q => q) (fun _ q => q.elim) (fun _ _ q => q), fun t b hb => by obtain ⟨t', ht'⟩ := updS_tok h (fun _ q => q) (fun _ q => q.elim) t b hb; exact h.tok t' b ht', fun t h' hon => ?_, h.frz, h.os, h.tape, h.output, h.size, h.old, h.fz0, h.fz1⟩, by simp [hl'], hbox⟩
  · rw [getD_set]
    by_cases ht : t = d
    · rw [if_pos ht]; split <;> trivial
    · rw [if_neg ht]
      rcases hk' t with ⟨e, hm⟩ | ⟨_, _, e⟩
      · rw [e]
        rcases Nat.lt_or_ge t σ.length with htl | htl
        · have hrep := h.rep t
          refine hrep.keep (fun _ h => h) (fun _ _ => rfl) (fun b hb => by simp only [updS, if_neg ht, if_neg (show t ≠ hd by omega)]; exact hb) (fun h' hon => ?_)
          by_cases hh : h' = d
          · subst hh
            have hno : (σ.getD t .u).onMem h' = false := by
              rcases hm (leans_of_on hrep hon).1 with q | q
              · exact q
              · rw [q]; rfl
            have hno2 : (σ.getD t .u).onEl h' = false := by
              cases he : (σ.getD t .u).onEl h' with
              | false => rfl
              | true => rw [onEl_onMem he] at hno; simp at hno
            exact ⟨rfl, fun e => by rw [hno] at e; simp at e, fun e => by rw [hno] at e; simp at e, fun e => by rw [hno2] at e; simp at e, fun e => by rw [hno] at e; simp at e⟩
          · have hhl := h.hol t h' hon
            exact Held.same _ _ _ rfl (fun b hb => .inl (by simp only [updS, if_neg hh, if_neg (show h' ≠ hd by omega)]; exact hb)) (fun _ _ => rfl)
        · have : σ.getD t .u = .u := by simp [List.getD_eq_getElem?_getD, List.getElem?_eq_none htl]
          rw [this]; trivial
      · rw [e]; trivial
  · rw [getD_set] at hon
    rw [List.length_set, hl']
    by_cases ht : t = d
    · rw [if_pos ht] at hon; split at hon <;> simp [AV.on] at hon
    · rw [if_neg ht] at hon
      rcases hk' t with ⟨e, _⟩ | ⟨_, _, e⟩
      · rw [e] at hon; exact h.hol t h' hon
      · rw [e] at hon; simp [AV.on] at hon
theorem St.give {d : Nat} {cs : List OV} {u : Unit} (h : St B K σ vals w Fz S) (hdl : d < σ.length) (h0 : σ.length ≤ hd) (hb : RepBox w Fz cs (vals d) (S hd)) (hk : (killMem K d).run (σ.set d (.box cs)) = some (u, σ')) :
    St B K σ' vals w Fz (mvS S hd d) ∧ σ'.length = σ.length := by
  have hne : hd ≠ d := by omega
  obtain ⟨σ2, e1, hl', hk'⟩ := kill_run (AV.onMem d) (K.getD d []) (σ.set d (.box cs))
  unfold killMem at hk
  rw [e1] at hk
  obtain ⟨_, rfl⟩ : () = u ∧ σ2 = σ' := by simpa using hk
  have hS : ∀ t, t ≠ d → t ≠ hd → mvS S hd d t = S t := fun t h1 h2 => by simp [mvS, h1, h2]
  refine ⟨⟨fun t => ?_, mvS_dis h.dis hd d hne, fun t b hb => ?_, fun t h' hon => ?_, h.frz, h.os, h.tape, h.output, h.size, h.old, h.fz0, h.fz1⟩, by simpa using hl'⟩
  · rcases hk' t with ⟨e, hm⟩ | ⟨_, _, e⟩
    · rw [e, getD_set]
      by_cases ht : t = d
      · subst ht
        rw [if_pos rfl, if_pos hdl]
        show RepBox w Fz cs (vals t) (mvS S hd t t)
        rw [mvS_d]; exact hb
      · rw [if_neg ht]
        rw [getD_set, if_neg ht] at hm
        rcases Nat.lt_or_ge t σ.length with htl | htl
        · have hrep := h.rep t
          refine hrep.keep (fun _ h => h) (fun _ _ => rfl) (fun b hb => by rw [hS t ht (by omega)]; exact hb) (fun h' hon => ?_)
          by_cases hh : h' = d
          · subst hh
            have hno : (σ.getD t .u).onMem h' = false := by
              rcases hm (leans_of_on hrep hon).1 with q | q
              · exact q
              · rw [q]; rfl
            have hno2 : (σ.getD t .u).onEl h' = false := by
              cases he : (σ.getD t .u).onEl h' with
              | false => rfl
              | true => rw [onEl_onMem he] at hno; simp at hno
            exact ⟨rfl, fun e => by rw [hno] at e; simp at e, fun e => by rw [hno] at e; simp at e, fun e => by rw [hno2] at e; simp at e, fun e => by rw [hno] at e; simp at e⟩
          · have hhl := h.hol t h' hon
            exact Held.same _ _ _ rfl (fun b hb => .inl (by rw [hS h' hh (by omega)]; exact hb)) (fun _ _ => rfl)
        · have : σ.getD t .u = .u := by simp [List.getD_eq_getElem?_getD, List.getElem?_eq_none htl]
          rw [this]; trivial
    · rw [e]; trivial
  · simp only [mvS] at hb
    split at hb
    · exact h.tok hd b hb
    · split at hb
      · exact hb.elim
      · exact h.tok t b hb
  · rw [hl', List.length_set]
    have hh : ∀ t h', ((σ.set d (.box cs)).getD t .u).on h' = true → h' < σ.length := by
      intro t h' hon
      rw [getD_set] at hon
      by_cases ht : t = d
      · rw [if_pos ht, if_pos hdl] at hon; simp [AV.on] at hon
      · rw [if_neg ht] at hon; exact h.hol t h' hon
    rcases hk' t with ⟨e, _⟩ | ⟨_, _, e⟩
    · rw [e] at hon; exact hh t h' hon
    · rw [e] at hon; simp [AV.on] at hon
theorem St.called {M : BSet} (h : St B K σ vals w Fz S) (hM : ∀ b, M b → ∃ k, σ.length ≤ k ∧ S k b) (hs : Step M w w') (hF1 : ∀ b, Fz b → Fz' b) (hF2 : ∀ b, Fz' b → (Fz b ∨ M b ∨ w.heap.size ≤ b) ∧ b < w'.heap.size)
    (hS : ∀ t, t < σ.length → S' t = S t) (hN : ∀ k b, σ.length ≤ k → S' k b → (M b ∨ w.heap.size ≤ b) ∧ b < w'.heap.size ∧ ¬ Fz' b) (hD : ∀ i j b, σ.length ≤ i → σ.length ≤ j → i ≠ j → S' i b → ¬ S' j b) : St B K σ vals w' Fz' S' := by
  have hMt : ∀ t b, t < σ.length → S t b → ¬ M b := fun t b ht hb hm => by obtain ⟨k, hk, hkb⟩ := hM b hm; exact h.dis t k b (by omega) hb hkb
  have hold : ∀ t b, t < σ.length → S t b → w'.heap[b]? = w.heap[b]? := fun t b ht hb => hs.keep b (h.tok t b hb).1 (hMt t b ht hb)
  have hfr : ∀ b, Fz b → w'.heap[b]? = w.heap[b]? := fun b hb => hs.keep b (h.frz b hb) fun q => by obtain ⟨k, hk, hkb⟩ := hM b q; exact (h.tok k b hkb).2.1 hb
  have hmb : ∀ b, M b → B.T0 b ∨ B.w0.heap.size ≤ b := fun b q => by obtain ⟨k, hk, hkb⟩ := hM b q; exact (h.tok k b hkb).2.2
  refine ⟨fun t => ?_, fun t u b htu ht hu => ?_, fun t b ht => ?_, h.hol, fun b hb => (hF2 b hb).2, hs.os.trans h.os, hs.tape.trans h.tape, hs.output.trans h.output, Nat.le_trans h.size hs.size, fun b hb hn => ?_, fun b hb => hF1 b (h.fz0 b hb), fun b hb => ?_⟩
  · rcases Nat.lt_or_ge t σ.length with htl | htl
    · refine (h.rep t).keep hF1 (fun b hb => hb.elim (hfr b) (hold t b htl)) (fun b hb => by rw [hS t htl]; exact hb) (fun h' hon => ?_)
      have hl := h.hol t h' hon
      exact Held.same _ _ _ rfl (fun b hb => .inl (by rw [hS h' hl]; exact hb)) (fun b hb => hold h' b hl hb)
    · have : σ.getD t .u = .u := by simp [List.getD_eq_getElem?_getD, List.getElem?_eq_none htl]
      rw [this]; trivial
  · rcases Nat.lt_or_ge t σ.length with htl | htl <;> rcases Nat.lt_or_ge u σ.length with hul | hul
    · rw [hS t htl] at ht; rw [hS u hul] at hu; exact h.dis _ _ b htu ht hu
    · rw [hS t htl] at ht
      rcases (hN u b hul hu).1 with q | q
      · exact hMt t b htl ht q
      · have := (h.tok t b ht).1; omega
    · rw [hS u hul] at hu
      rcases (hN t b htl ht).1 with q | q
      · exact hMt u b hul hu q
      · have := (h.tok u b hu).1; omega
    · exact hD t u b htl hul htu ht hu
  · rcases Nat.lt_or_ge t σ.length with htl | htl
    · rw [hS t htl] at ht
      have := h.tok t b ht
      refine ⟨Nat.lt_of_lt_of_le this.1 hs.size, fun q => ?_, this.2.2⟩
      rcases (hF2 b q).1 with q | q | q
      · exact this.2.1 q
      · exact hMt t b htl ht q
      · omega
    · have := hN t b htl ht
      exact ⟨this.2.1, this.2.2, this.1.elim (hmb b) fun q => .inr (Nat.le_trans h.size q)⟩
  · have := h.old b hb hn
    rw [hs.keep b (Nat.lt_of_lt_of_le hb h.size) (fun q => by rcases hmb b q with k | k; exact hn k; omega)]
    exact this
  · rcases (hF2 b hb).1 with q | q | q
    · exact h.fz1 b q
    · exact .inr (hmb b q)
    · exact .inr (.inr (Nat.le_trans h.size q))
end
end Go.Pv
end

section
namespace Go.Pv
open Go.RowKit
set_option linter.unusedVariables false
set_option linter.unusedSimpArgs false
def LentIs (vals : Nat → Value) : List AV → List Value → List Nat → Prop
  | [], [], [] => True
  | .box _ :: as, v :: vs, d :: ds => vals d = v ∧ LentIs vals as vs ds
  | .box _ :: _, _ :: _, [] => False
  | _ :: as, _ :: vs, ds => LentIs vals as vs ds
  | _, _, _ => False
def isBox : AV → Bool
  | .box _ => true
  | _ => false
section
variable {P : Program} {I : World → Prop} {B : Base I} {K : Kills} {σ σ' σ1 : List AV} {vals vals' : Nat → Value} {w w' : World} {Fz Fz' : BSet} {S S' : Nat → BSet} {a : Act} {hd : Nat} {dst : Option Nat} {v : AV} {x y : Value} {o : Oper} {Kt : Act → World → Prop} {Q : Exit → Act → World → Prop} {callf : Nat → List AV → Option CRes}
theorem lent_box {cs : List OV} {as : List AV} {vs : List Value} {d : Nat} {ds : List Nat} {v : Value} (h : vals d = v) (h2 : LentIs vals as vs ds) : LentIs vals (.box cs :: as) (v :: vs) (d :: ds) := ⟨h, h2⟩
theorem lent_no {A : AV} {as : List AV} {vs : List Value} {ds : List Nat} {v : Value} (hA : isBox A = false) (h2 : LentIs vals as vs ds) : LentIs vals (A :: as) (v :: vs) ds := by
  cases A <;> simp [isBox] at hA <;> cases ds <;> exact h2
theorem mk_arg {ag : Bool} {cs : List OV} {A : AV} {T : BSet} {us : List Value} (h : AV.mk ag cs = some A) (hv : valIs ag y us) (hL : RepL w Fz cs us T) : ArgOk w Fz A y T ∧ isBox A = false := by
  rcases mk_cells h with ⟨rfl, rfl⟩ | ⟨rfl, c, rfl, rfl⟩
  · rcases hv with ⟨_, rfl⟩ | ⟨e, _⟩
    · exact ⟨⟨us, rfl, hL⟩, rfl⟩
    · simp at e
  · rcases hv with ⟨e, _⟩ | ⟨_, rfl⟩
    · simp at e
    · obtain ⟨z, e, hO⟩ := hL.of_one
      simp at e; subst e
      exact ⟨hO, rfl⟩
structure Arg {I : World → Prop} (B : Base I) (K : Kills) (σ σ' : List AV) (vals : Nat → Value) (w : World) (Fz : BSet) (S : Nat → BSet) (hd : Nat) (y : Value) (A : AV) (l : Option Nat) : Prop where
  out : σ'.length = σ.length ∧ ∃ (Fz' : BSet) (S' : Nat → BSet), St B K σ' vals w Fz' S' ∧ (∀ b, Fz b → Fz' b) ∧ ArgOk w Fz' A y (S' hd) ∧ (∀ k, σ.length ≤ k → k ≠ hd → S' k = S k) ∧
    ((isBox A = true ∧ ∃ d, l = some d ∧ d < σ.length ∧ vals d = y) ∨ (isBox A = false ∧ l = none))
theorem argP_ok {x : Od} {mv : Bool} {A : AV} {l : Option Nat} (h : St B K σ vals w Fz S) (hx : OdIs vals x y) (hr : (argP K (x, mv)).run σ = some ((A, l), σ')) (h0 : σ.length ≤ hd) (h1 : ∀ b, ¬ S hd b) : Arg B K σ σ' vals w Fz S hd y A l := by
  cases x with
  | c v =>
    simp only [argP] at hr
    have hc := hx w Fz
    split at hr
    · simp only [Pg.run_ret, Option.some.injEq, Prod.mk.injEq] at hr
      obtain ⟨⟨rfl, rfl⟩, rfl⟩ := hr
      refine ⟨rfl, Fz, S, h, fun _ q => q, ?_, fun _ _ _ => rfl, .inr ⟨rfl, rfl⟩⟩
      split
      · exact RepO.mono hc fun _ q => q.elim
      · rename_i hw
        simp only [Bool.or_eq_true, Bool.not_eq_true', not_or, Bool.not_eq_false] at hw
        exact .p (RepO.freeze hc hw.2 fun b q => q.elim id fun q => q.elim)
    · simp only [Pg.run_ret, Option.some.injEq, Prod.mk.injEq] at hr
      obtain ⟨⟨rfl, rfl⟩, rfl⟩ := hr
      obtain ⟨vs, e1, e2⟩ := hc
      refine ⟨rfl, Fz, S, h, fun _ q => q, ⟨vs, e1, ?_⟩, fun _ _ _ => rfl, .inr ⟨rfl, rfl⟩⟩
      split
      · exact e2.mono fun _ q => q.elim
      · rename_i hw
        simp only [Bool.or_eq_true, Bool.not_eq_true', not_or, Bool.not_eq_false] at hw
        exact (RepL.freeze e2 hw.2 fun b q => q.elim id fun q => q.elim).mono fun _ q => q.elim
    · rename_i f caps
      split at hr
      · rename_i hcap
        simp only [Pg.run_ret, Option.some.injEq, Prod.mk.injEq] at hr
        obtain ⟨⟨rfl, rfl⟩, rfl⟩ := hr
        have : caps = [] := by simpa using hcap
        subst this
        exact ⟨rfl, Fz, S, h, fun _ q => q, ⟨[], hc, trivial⟩, fun _ _ _ => rfl, .inr ⟨rfl, rfl⟩⟩
      · simp at hr
    · simp at hr
  | t i =>
    simp only [OdIs] at hx
    subst hx
    simp only [argP, Pg.run_get] at hr
    have hrep := h.rep i
    split at hr
    · -- the variable itself
      rename_i cs hc
      obtain ⟨u, σ1, k1, r2⟩ := Pg.bind_some hr
      simp only [Pg.run_put, Pg.run_ret, Option.some.injEq, Prod.mk.injEq] at r2
      obtain ⟨⟨rfl, rfl⟩, rfl⟩ := r2
      have hil : i < σ.length := lt_of_getD (by rw [hc]; simp)
      obtain ⟨m1, m2, m3⟩ := h.lend hc k1 h0 h1
      exact ⟨m2, Fz, _, m1, fun _ q => q, by simp only [ArgOk, updS, if_true]; exact m3, fun k hk hne => by simp [updS, hne, show k ≠ i by omega], .inl ⟨rfl, i, rfl, hil, rfl⟩⟩
    · -- a pointer to one
      rename_i d hc
      simp only [Pg.run_get] at hr
      split at hr
      · rename_i cs hc'
        obtain ⟨u, σ1, k1, r2⟩ := Pg.bind_some hr
        simp only [Pg.run_put, Pg.run_ret, Option.some.injEq, Prod.mk.injEq] at r2
        obtain ⟨⟨rfl, rfl⟩, rfl⟩ := r2
        have hil : d < σ.length := lt_of_getD (by rw [hc']; simp)
        rw [hc] at hrep
        obtain ⟨⟨ad, ⟨b, e1, rfl⟩, e2⟩, _⟩ := hrep
        have hv : vals d = vals i := by rw [e1, e2]
        obtain ⟨m1, m2, m3⟩ := h.lend hc' k1 h0 h1
        rw [hv] at m3
        exact ⟨m2, Fz, _, m1, fun _ q => q, by simp only [ArgOk, updS, if_true]; exact m3, fun k hk hne => by simp [updS, hne, show k ≠ d by omega], .inl ⟨rfl, d, rfl, hil, hv⟩⟩
      · simp at hr
    · rename_i cs hc
      simp only [Pg.run_ret, Option.some.injEq, Prod.mk.injEq] at hr
      obtain ⟨⟨rfl, rfl⟩, rfl⟩ := hr
      rw [hc] at hrep
      exact ⟨rfl, Fz, S, h, fun _ q => q, hrep, fun _ _ _ => rfl, .inr ⟨rfl, rfl⟩⟩
    · rename_i f caps hc
      split at hr
      · rename_i hcap
        simp only [Pg.run_ret, Option.some.injEq, Prod.mk.injEq] at hr
        obtain ⟨⟨rfl, rfl⟩, rfl⟩ := hr
        rw [hc] at hrep
        obtain ⟨cvs, e1, e2⟩ := hrep
        exact ⟨rfl, Fz, S, h, fun _ q => q, ⟨cvs, e1, capsPlain e2 hcap⟩, fun _ _ _ => rfl, .inr ⟨rfl, rfl⟩⟩
      · simp at hr
    · obtain ⟨v, σ1, g1, r2⟩ := Pg.bind_some hr
      obtain ⟨rfl, hv⟩ := valOf_ok h hrep (fun _ _ => ⟨rfl, rfl⟩) g1
      split at r2
      · obtain ⟨cs, σ2, g2, r3⟩ := Pg.bind_some r2
        obtain ⟨A', hA', r4⟩ := Pg.opt_some r3
        simp only [Pg.run_ret, Option.some.injEq, Prod.mk.injEq] at r4
        obtain ⟨⟨rfl, rfl⟩, rfl⟩ := r4
        obtain ⟨rfl, hl, S1, us, q1, q2, q3, q4⟩ := take_ok h hv g2 h0 h1
        obtain ⟨p1, p2⟩ := mk_arg hA' q2 q3
        exact ⟨hl, Fz, S1, q1, fun _ q => q, p1, q4, .inr ⟨p2, rfl⟩⟩
      · obtain ⟨ps, σ2, g2, r3⟩ := Pg.bind_some r2
        obtain ⟨A', hA', r4⟩ := Pg.opt_some r3
        simp only [Pg.run_ret, Option.some.injEq, Prod.mk.injEq] at r4
        obtain ⟨⟨rfl, rfl⟩, rfl⟩ := r4
        obtain ⟨rfl, hl, F1, S1, us, q1, q2, q3, q4, q5⟩ := copy_ok h hv g2
        obtain ⟨p1, p2⟩ := mk_arg (T := S1 hd) hA' q2 (q3.mono fun _ q => q.elim)
        exact ⟨hl, F1, S1, q1, q4, p1, fun k hk _ => q5 k hk, .inr ⟨p2, rfl⟩⟩
structure ArgsSt {I : World → Prop} (B : Base I) (K : Kills) (σ σ' : List AV) (vals : Nat → Value) (w : World) (Fz : BSet) (S : Nat → BSet) (hd : Nat) (ys : List Value) (as : List AV) (ls : List Nat) : Prop where
  out : σ'.length = σ.length ∧ ∃ (Fz' : BSet) (S' : Nat → BSet), St B K σ' vals w Fz' S' ∧ (∀ b, Fz b → Fz' b) ∧ ArgsOk w Fz' as ys (fun j => S' (hd + j)) ∧ (∀ k, σ.length ≤ k → (k < hd ∨ hd + as.length ≤ k) → S' k = S k) ∧
    LentIs vals as ys ls ∧ ∀ d ∈ ls, d < σ.length
theorem argsOk_cons {A : AV} {as : List AV} {vs : List Value} {T : Nat → BSet} (h1 : ArgOk w Fz A y (T 0)) (h2 : ArgsOk w Fz as vs (fun j => T (j + 1))) : ArgsOk w Fz (A :: as) (y :: vs) T := by
  refine ⟨by simp [h2.1], fun j A' v' hA hv => ?_⟩
  cases j with
  | zero => simp at hA hv; subst hA; subst hv; exact h1
  | succ j => exact h2.2 j A' v' (by simpa using hA) (by simpa using hv)
theorem lent_cons {A : AV} {as : List AV} {vs : List Value} {ls : List Nat} {l : Option Nat} (h : (isBox A = true ∧ ∃ d, l = some d ∧ d < σ.length ∧ vals d = y) ∨ (isBox A = false ∧ l = none)) (h2 : LentIs vals as vs ls) : LentIs vals (A :: as) (y :: vs) (l.toList ++ ls) := by
  rcases h with ⟨hA, d, rfl, _, hd⟩ | ⟨hA, rfl⟩
  · cases A <;> simp [isBox] at hA
    exact lent_box hd h2
  · exact lent_no hA h2
theorem argsP_ok : ∀ {args : List (Od × Bool)} {ys : List Value} {σ σ' : List AV} {Fz : BSet} {S : Nat → BSet} {hd : Nat} {as : List AV} {ls : List Nat}, St B K σ vals w Fz S → ys.length = args.length → (∀ (j : Nat) (p : Od × Bool) (y : Value), args[j]? = some p → ys[j]? = some y → OdIs vals p.1 y) →
    (argsP K args).run σ = some ((as, ls), σ') → σ.length ≤ hd → (∀ k, hd ≤ k → ∀ b, ¬ S k b) → ArgsSt B K σ σ' vals w Fz S hd ys as ls
  | [], [], σ, σ', Fz, S, hd, as, ls, h, _, _, hr, h0, hf => by
    simp only [argsP, Pg.run_ret, Option.some.injEq, Prod.mk.injEq] at hr
    obtain ⟨⟨rfl, rfl⟩, rfl⟩ := hr
    exact ⟨rfl, Fz, S, h, fun _ q => q, ⟨rfl, fun j A v hA => by simp at hA⟩, fun _ _ _ => rfl, trivial, fun d hd => by simp at hd⟩
  | p :: args, y :: ys, σ, σ', Fz, S, hd, as, ls, h, hlen, hx, hr, h0, hf => by
    obtain ⟨x, mv⟩ := p
    simp only [argsP] at hr
    obtain ⟨⟨A, l⟩, σ1, g1, r1⟩ := Pg.bind_some hr
    obtain ⟨⟨as', ls'⟩, σ2, g2, r2⟩ := Pg.bind_some r1
    simp only [Pg.run_ret, Option.some.injEq, Prod.mk.injEq] at r2
    obtain ⟨⟨rfl, rfl⟩, rfl⟩ := r2
    obtain ⟨hl, F1, S1, k1, k2, k3, k4, k5⟩ := (argP_ok h (hx 0 _ _ rfl rfl) g1 h0 (hf hd (Nat.le_refl _))).out
    obtain ⟨hl2, F2, S2, m1, m2, m3, m4, m5, m6⟩ := (argsP_ok (hd := hd + 1) k1 (by simpa using hlen) (fun j p y hp hy => hx (j + 1) p y (by simpa using hp) (by simpa using hy)) g2 (by omega) (fun k hk b hb => by
      rw [k4 k (by omega) (by omega)] at hb; exact hf k (by omega) b hb)).out
    have e1 := m4 hd (by omega) (.inl (by omega))
    refine ⟨hl2.trans hl, F2, S2, m1, fun b q => m2 b (k2 b q), ?_, fun k hk hk' => ?_, lent_cons k5 m5, fun d hd' => ?_⟩
    · refine argsOk_cons (by rw [Nat.add_zero, e1]; exact k3.keep m2 (fun _ _ => rfl) (fun _ q => q)) ?_
      have : (fun j => S2 (hd + (j + 1))) = fun j => S2 (hd + 1 + j) := by funext j; congr 1; omega
      rw [this]; exact m3
    · simp only [List.length_cons] at hk'
      rw [m4 k (by omega) (by omega), k4 k hk (by omega)]
    · rcases List.mem_append.1 hd' with q | q
      · rcases k5 with ⟨_, d', rfl, e, _⟩ | ⟨_, rfl⟩
        · simp at q; subst q; exact e
        · simp at q
      · rw [← hl]; exact m6 d q
  | [], _ :: _, _, _, _, _, _, _, _, _, h, _, _, _, _ => by simp at h
  | _ :: _, [], _, _, _, _, _, _, _, _, h, _, _, _, _ => by simp at h
theorem giveBack_ok : ∀ {as : List AV} {vs : List Value} {ls : List Nat} {bs : List (List OV)} {σ σ' : List AV} {S : Nat → BSet} {j hd : Nat} {u : Unit}, St B K σ vals w Fz S → (giveBack K ls bs).run σ = some (u, σ') → LentIs vals as vs ls → BoxesIs w Fz (fun k => S (hd + k)) j as vs bs →
    (∀ d ∈ ls, d < σ.length) → σ.length ≤ hd + j → ∃ S', St B K σ' vals w Fz S' ∧ σ'.length = σ.length ∧ (∀ k, σ.length ≤ k → ∀ b, S' k b → S k b) ∧ ∀ k, σ.length ≤ k → (k < hd + j ∨ hd + j + as.length ≤ k) → S' k = S k
  | [], [], ls, bs, σ, σ', S, j, hd, u, h, hr, hl, hb, hd', h0 => by
    cases ls with
    | cons => simp [LentIs] at hl
    | nil =>
      cases bs with
      | cons => simp [BoxesIs] at hb
      | nil =>
        simp only [giveBack, Pg.run_ret, Option.some.injEq, Prod.mk.injEq] at hr
        obtain ⟨_, rfl⟩ := hr
        exact ⟨S, h, rfl, fun _ _ _ q => q, fun _ _ _ => rfl⟩
  | A :: as, v :: vs, ls, bs, σ, σ', S, j, hd, u, h, hr, hl, hb, hd', h0 => by
    by_cases hA : isBox A = true
    · cases A <;> simp [isBox] at hA
      cases ls with
      | nil => exact hl.elim
      | cons d ds =>
        cases bs with
        | nil => exact hb.elim
        | cons b bs =>
          obtain ⟨l1, l2⟩ := hl
          obtain ⟨b1, b2⟩ := hb
          simp only [giveBack, Pg.run_put] at hr
          obtain ⟨u1, σ1, g1, r1⟩ := Pg.bind_some hr
          have hdl := hd' d (by simp)
          obtain ⟨m1, m2⟩ := h.give hdl h0 (by rw [l1]; exact b1) g1
          have hS : ∀ k, k ≠ d → k ≠ hd + j → mvS S (hd + j) d k = S k := fun k k1 k2 => by simp [mvS, k1, k2]
          have hcongr : ∀ {n : Nat} {as : List AV} {vs : List Value} {bs : List (List OV)}, j + 1 ≤ n → BoxesIs w Fz (fun k => S (hd + k)) n as vs bs → BoxesIs w Fz (fun k => mvS S (hd + j) d (hd + k)) n as vs bs := by
            intro n as
            induction as generalizing n with
            | nil => intro vs bs _ hb; cases vs <;> cases bs <;> first | exact hb | (simp [BoxesIs] at hb)
            | cons A as ih =>
              intro vs bs hn hb
              cases vs with
              | nil => cases A <;> simp [BoxesIs] at hb
              | cons v vs =>
                by_cases hA : isBox A = true
                · cases A <;> simp [isBox] at hA
                  cases bs with
                  | nil => exact hb.elim
                  | cons b bs => exact ⟨by show RepBox w Fz b v (mvS S (hd + j) d (hd + n)); rw [show mvS S (hd + j) d (hd + n) = S (hd + n) from hS _ (by omega) (by omega)]; exact hb.1, ih (by omega) hb.2⟩
                · have : BoxesIs w Fz (fun k => S (hd + k)) (n + 1) as vs bs := by cases A <;> simp [isBox] at hA <;> cases bs <;> exact hb
                  have := ih (by omega) this
                  cases A <;> simp [isBox] at hA <;> cases bs <;> exact this
          obtain ⟨S', n1, n2, n3, n4⟩ := giveBack_ok (j := j + 1) m1 r1 l2 (hcongr (Nat.le_refl _) b2) (fun d' hd'' => by rw [m2]; exact hd' d' (by simp [hd''])) (by omega)
          refine ⟨S', n1, n2.trans m2, fun k hk b hb => ?_, fun k hk hk' => ?_⟩
          · have := n3 k (by omega) b hb
            simp only [mvS] at this
            rw [if_neg (by omega)] at this
            split at this
            · exact this.elim
            · exact this
          · simp only [List.length_cons] at hk'
            rw [n4 k (by omega) (by omega), hS k (by omega) (by omega)]
    · have hA' : isBox A = false := by simpa using hA
      have l2 : LentIs vals as vs ls := by cases A <;> simp [isBox] at hA' <;> cases ls <;> exact hl
      have b2 : BoxesIs w Fz (fun k => S (hd + k)) (j + 1) as vs bs := by cases A <;> simp [isBox] at hA' <;> cases bs <;> exact hb
      obtain ⟨S', n1, n2, n3, n4⟩ := giveBack_ok (j := j + 1) h hr l2 b2 hd' (by omega)
      exact ⟨S', n1, n2, n3, fun k hk hk' => n4 k hk (by simp only [List.length_cons] at hk'; omega)⟩
  | [], _ :: _, ls, bs, _, _, _, _, _, _, _, _, hl, _, _, _ => by cases ls <;> simp [LentIs] at hl
  | A :: _, [], ls, bs, _, _, _, _, _, _, _, _, hl, _, _, _ => by cases ls <;> cases A <;> simp [LentIs] at hl
end
end Go.Pv
end

section
namespace Go.Pv
open Go.RowKit
set_option linter.unusedVariables false
set_option linter.unusedSimpArgs false
section
variable {P : Program} {I : World → Prop} {B : Base I} {K : Kills} {σ σ' σ1 : List AV} {vals vals' : Nat → Value} {w w' : World} {Fz Fz' : BSet} {S S' : Nat → BSet} {a : Act} {hd : Nat} {dst : Option Nat} {v : AV} {x y : Value} {o : Oper} {Kt : Act → World → Prop} {Q : Exit → Act → World → Prop} {callf : Nat → List AV → Option CRes}
theorem St.only (h : St B K σ vals w Fz S) (h0 : Nat) (hl : σ.length ≤ h0) : St B K σ vals w Fz (fun t b => (t < σ.length ∨ t = h0) ∧ S t b) := by
  refine ⟨fun t => ?_, fun t u b htu ht hu => h.dis t u b htu ht.2 hu.2, fun t b ht => h.tok t b ht.2, h.hol, h.frz, h.os, h.tape, h.output, h.size, h.old, h.fz0, h.fz1⟩
  rcases Nat.lt_or_ge t σ.length with htl | htl
  · refine (h.rep t).keep (fun _ h => h) (fun _ _ => rfl) (fun b hb => ⟨.inl htl, hb⟩) (fun h' hon => Held.same _ _ _ rfl (fun b hb => .inl ⟨.inl (h.hol t h' hon), hb⟩) (fun _ _ => rfl))
  · have : σ.getD t .u = .u := by simp [List.getD_eq_getElem?_getD, List.getElem?_eq_none htl]
    rw [this]; trivial
theorem BoxesIs.congr {T T' : Nat → BSet} : ∀ {as : List AV} {j : Nat} {vs : List Value} {bs : List (List OV)}, BoxesIs w Fz T j as vs bs → (∀ k, j ≤ k → k < j + as.length → T' k = T k) → BoxesIs w Fz T' j as vs bs
  | [], j, vs, bs, h, _ => by cases vs <;> cases bs <;> first | exact h | (simp [BoxesIs] at h)
  | A :: as, j, vs, bs, h, hT => by
    cases vs with
    | nil => cases A <;> simp [BoxesIs] at h
    | cons v vs =>
      have hT' : ∀ k, j + 1 ≤ k → k < j + 1 + as.length → T' k = T k := fun k h1 h2 => hT k (by omega) (by simp only [List.length_cons]; omega)
      by_cases hA : isBox A = true
      · cases A <;> simp [isBox] at hA
        cases bs with
        | nil => exact h.elim
        | cons b bs => exact ⟨by rw [hT j (Nat.le_refl _) (by simp)]; exact h.1, BoxesIs.congr h.2 hT'⟩
      · have h2 : BoxesIs w Fz T (j + 1) as vs bs := by cases A <;> simp [isBox] at hA <;> cases bs <;> exact h
        have := BoxesIs.congr h2 hT'
        cases A <;> simp [isBox] at hA <;> cases bs <;> exact this
theorem afterP_ok {f : Nat} {as : List AV} {ls : List Nat} {ys : List Value} {rs : List (Bool × List OV)} {bs : List (List OV)} {u : Unit} (hdf : a.defers = B.ds) (hn : a.tmps.size = σ.length) (h : St B K σ (valsOf a) w Fz S)
    (hlen : ys.length = as.length) (hco : Calls P f ys.toArray w (After w Fz (fun b => ∃ j, S (σ.length + j) b) as ys (rs, bs))) (hlent : LentIs (valsOf a) as ys ls) (hls : ∀ d ∈ ls, d < σ.length) (hr : ((giveBack K ls bs).bind fun _ => outRes K dst rs).run σ = some (u, σ')) (hk : ∀ a' w', Inv B K σ' a' w' → Kt a' w') :
    Calls P f ys.toArray w fun
      | .returned v, w'' => Kt (a.put dst v) w''
      | .panicked chain, w'' => Q (.panic chain) a w''
      | .outgrown, _ => LetsOut Q := by
  obtain ⟨u1, σ1, g1, r2⟩ := Pg.bind_some hr
  refine hco.mono fun e w' hA => ?_
  obtain ⟨x, Fz', Tr, Tb, rfl, c1, c2, c3, c4, c5, c6, c7, c8, c9⟩ := hA.out
  let S2 : Nat → BSet := fun t => if t < σ.length then S t else if t < σ.length + as.length then Tb (t - σ.length) else if t = σ.length + as.length then Tr else fun _ => False
  have e0 : ∀ t, t < σ.length → S2 t = S t := fun t ht => by simp [S2, ht]
  have e1 : ∀ j, j < as.length → S2 (σ.length + j) = Tb j := fun j hj => by simp only [S2]; rw [if_neg (by omega), if_pos (by omega), Nat.add_sub_cancel_left]
  have e2 : S2 (σ.length + as.length) = Tr := by simp only [S2]; rw [if_neg (by omega), if_neg (by omega), if_pos trivial]
  have e3 : ∀ t, σ.length ≤ t → (∃ j, t = σ.length + j ∧ S2 t = Tb j) ∨ (t = σ.length + as.length ∧ S2 t = Tr) ∨ S2 t = fun _ => False := by
    intro t ht
    by_cases h1 : t < σ.length + as.length
    · exact .inl ⟨t - σ.length, by omega, by simp [S2, show ¬ t < σ.length by omega, h1]⟩
    · by_cases h2 : t = σ.length + as.length
      · exact .inr (.inl ⟨h2, by rw [h2]; exact e2⟩)
      · exact .inr (.inr (by simp [S2, show ¬ t < σ.length by omega, h1, h2]))
  have st2 : St B K σ (valsOf a) w' Fz' S2 := h.called (M := fun b => ∃ j, S (σ.length + j) b) (fun b ⟨j, q⟩ => ⟨_, by omega, q⟩) c1 c2 c3 e0
    (fun k b hk hb => by
      rcases e3 k hk with ⟨j, _, e⟩ | ⟨_, e⟩ | e
      · rw [e] at hb; exact c7 j b hb
      · rw [e] at hb; exact c6 b hb
      · rw [e] at hb; exact hb.elim)
    (fun i j b hi hj hij hb hb' => by
      rcases e3 i hi with ⟨i', ei, e⟩ | ⟨ei, e⟩ | e <;> rcases e3 j hj with ⟨j', ej, e'⟩ | ⟨ej, e'⟩ | e' <;> rw [e] at hb <;> rw [e'] at hb'
      · exact c9 i' j' b (by omega) hb hb'
      · exact c8 i' b hb hb'
      · exact hb'
      · exact c8 j' b hb' hb
      · omega
      · exact hb'
      · exact hb
      · exact hb
      · exact hb)
  have hbx : BoxesIs w' Fz' (fun k => S2 (σ.length + k)) 0 as ys bs := c5.congr fun k _ hk => e1 k (by omega)
  obtain ⟨S3, n1, n2, n3, n4⟩ := giveBack_ok (hd := σ.length) (j := 0) st2 g1 hlent hbx hls (by omega)
  have e4 : S3 (σ.length + as.length) = Tr := by rw [n4 _ (by omega) (.inr (by omega)), e2]
  have st4 := n1.only (σ.length + as.length) (by omega)
  have hfree4 : ∀ k, σ1.length ≤ k → k ≠ σ.length + as.length → ∀ b, ¬ ((k < σ1.length ∨ k = σ.length + as.length) ∧ S3 k b) := fun k hk hne b q => by
    rcases q.1 with q | q
    · omega
    · exact hne q
  have hT : (fun b => (σ.length + as.length < σ1.length ∨ σ.length + as.length = σ.length + as.length) ∧ S3 (σ.length + as.length) b) = Tr := by
    funext b; rw [e4]; simp
  refine hk _ _ ?_
  unfold outRes at r2
  split at r2
  · rename_i ag cs
    obtain ⟨vs, q1, q2⟩ := c4
    exact fin_val (hd := σ.length + as.length) st4 hdf (hn.trans n2.symm) (by omega) hfree4 r2 q1 (by rw [hT]; exact q2)
  · rename_i hne
    have hres : ∃ us, x = .tuple us.toArray ∧ RepT w' Fz' rs us Tr := by
      unfold ResIs at c4
      split at c4
      · rename_i ag cs hrs
        exact absurd hrs (hne ag cs)
      · exact c4
    obtain ⟨us, q1, q2⟩ := hres
    refine fin (hd := σ.length + as.length) st4 hdf (hn.trans n2.symm) (by omega) hfree4 r2 (fun d _ => ⟨us, q1, ?_⟩) (fun y hy => by simp [AV.on] at hy)
    rw [mvS_d, hT]; exact q2
theorem callP_ok {f : Nat} {as : List AV} {ls : List Nat} {ys : List Value} {u : Unit} (hcall : ∀ f as r, callf f as = some r → FnOk P f ∧ CallOk I P f as r) (hdf : a.defers = B.ds) (hn : a.tmps.size = σ.length) (h : St B K σ (valsOf a) w Fz S)
    (hargs : ArgsOk w Fz as ys (fun j => S (σ.length + j))) (hlent : LentIs (valsOf a) as ys ls) (hls : ∀ d ∈ ls, d < σ.length) (hr : (callP K callf dst f as ls).run σ = some (u, σ')) (hk : ∀ a' w', Inv B K σ' a' w' → Kt a' w') :
    FnOk P f ∧ Calls P f ys.toArray w fun
      | .returned v, w'' => Kt (a.put dst v) w''
      | .panicked chain, w'' => Q (.panic chain) a w''
      | .outgrown, _ => LetsOut Q := by
  obtain ⟨⟨rs, bs⟩, hc, r1⟩ := Pg.opt_some hr
  obtain ⟨hfn, hco⟩ := hcall f as _ hc
  exact ⟨hfn, afterP_ok hdf hn h hargs.1 (hco B.O B.hI ys w Fz (fun j => S (σ.length + j)) h.oldO (fun j b q => h.tokO q) hargs (fun i j b hij q q' => h.dis _ _ b (by omega) q q') (fun j b q => ⟨(h.tok _ b q).1, (h.tok _ b q).2.1⟩) h.frz) hlent hls r1 hk⟩
theorem run_enter {f : FuncId} {args : Array Value} (h : FnOk P f) : (callFunc f args).run P w = .ok (.enter f args) w := by
  obtain ⟨fn, h1, h2, h3⟩ := h
  have e : ((program : Sem Program)).run P w = .ok P w := rfl
  simp only [callFunc, Sem.run_bind, e, Result.andThen_ok, h1]
  rw [if_neg (by simpa using h3)]
  have : fn.body.isNone = false := by cases hb : fn.body <;> simp_all
  simp only [this, Bool.false_eq_true, if_false, Sem.run_pure]
theorem argsO_ok {H : List Nat} : ∀ {j : Nat} {ts : List TypeId} {xs : List Operand} {l : List (Od × Bool)}, argsO P H j ts xs = some l → xs.length = l.length ∧ ∀ (i : Nat) (p : Od × Bool) (y : Value), l[i]? = some p → (xs.map a.eval)[i]? = some y → OdIs (valsOf a) p.1 y
  | j, [], [], l, h => by simp only [argsO, Option.some.injEq] at h; subst h; exact ⟨rfl, fun i p y hp => by simp at hp⟩
  | j, t :: ts, x :: xs, l, h => by
    simp only [argsO] at h
    split at h
    · rename_i o l' ho hl
      simp only [Option.some.injEq] at h
      subst h
      obtain ⟨e1, e2⟩ := argsO_ok hl
      refine ⟨by simp [e1], fun i p y hp hy => ?_⟩
      cases i with
      | zero => simp at hp hy; subst hp; subst hy; exact odOf_ok ho
      | succ i => exact e2 i p y (by simpa using hp) (by simpa using hy)
    · simp at h
  | j, [], _ :: _, l, h => by simp [argsO] at h
  | j, _ :: _, [], l, h => by simp [argsO] at h
theorem sound_call {c : Call} {f : FuncId} {H : List Nat} {ts : List TypeId} {l : List (Od × Bool)} (hcall : ∀ f as r, callf f as = some r → FnOk P f ∧ CallOk I P f as r) (ho : o.op = .call c) (hc : c.callee = .value (.func f)) (hl : argsO P H 0 ts c.args.toList = some l) : Sound I P callf o (.call f l) := by
  intro B K σ σ' a w u hI hr Kt Q hk
  obtain ⟨hdf, hn, Fz, S, h, hfree⟩ := hI
  obtain ⟨⟨as, ls⟩, σ1, g1, r1⟩ := Pg.bind_some hr
  obtain ⟨e1, e2⟩ := argsO_ok (a := a) hl
  obtain ⟨hl1, F1, S1, m1, m2, m3, m4, m5, m6⟩ := (argsP_ok (hd := σ.length) (ys := c.args.toList.map a.eval) h (by simpa using e1) e2 g1 (Nat.le_refl _) hfree).out
  rw [← hl1] at m3
  obtain ⟨hfn, hco⟩ := callP_ok (Kt := Kt) (Q := Q) hcall hdf (hn.trans hl1.symm) m1 m3 m5 (fun d hd => by rw [hl1]; exact m6 d hd) r1 hk
  have hrun : (execOp a.eval o).run P w = .ok (.enter f (c.args.toList.map a.eval).toArray) w := by
    have he : (c.args.map a.eval ++ #[] : Array Value) = (c.args.toList.map a.eval).toArray := by
      apply Array.ext'; simp
    simp only [execOp, ho, resolve, hc, Act.eval, Deferred.ofValue, Sem.run_bind, Sem.run_pure, Result.andThen_ok, invoke]
    have he2 : ((#[] : Array Value) ++ c.args.map a.eval ++ #[]) = (c.args.toList.map a.eval).toArray := by
      apply Array.ext'; simp
    have := run_enter (P := P) (w := w) (args := (#[] : Array Value) ++ c.args.map a.eval ++ #[]) hfn
    rw [he2] at this
    rw [← he2] at this ⊢
    exact this
  unfold Oper.wp
  rw [hrun]
  exact hco
end
end Go.Pv
end

section
namespace Go.Pv
open Go.RowKit
set_option linter.unusedVariables false
set_option linter.unusedSimpArgs false
structure MakerOk (P : Program) (f gf : Nat) : Prop where
  fn : FnOk P f
  makes : ∀ (vs : List Value) (w : World), (∀ F, P.funcs[f]? = some F → F.params.size = vs.length) → (∀ v ∈ vs, ∀ q, v ≠ .agg q) → Calls P f vs.toArray w fun e w' => ∃ bs : List Nat, e = .returned (.func (.func gf) #[] (bs.map fun b => Value.pointer (some ⟨b, 0, none⟩)).toArray) ∧ bs.length = vs.length ∧
    w.heap.size ≤ w'.heap.size ∧ (∀ b, b < w.heap.size → w'.heap[b]? = w.heap[b]?) ∧ w'.os = w.os ∧ w'.tape = w.tape ∧ w'.output = w.output ∧ ∀ (j b : Nat) (v : Value), bs[j]? = some b → vs[j]? = some v → w.heap.size ≤ b ∧ w'.cell? ⟨b, 0, none⟩ = some v
def MakersOk (P : Program) : Prop := ∀ f gf, makerOf P f = some gf → MakerOk P f gf
section
variable {P : Program} {I : World → Prop} {B : Base I} {K : Kills} {σ σ' σ1 : List AV} {vals vals' : Nat → Value} {w w' : World} {Fz Fz' : BSet} {S S' : Nat → BSet} {o : Oper} {callf : Nat → List AV → Option CRes}
theorem St.growF {N : BSet} (h : St B K σ vals w Fz S) (hw : ∀ b, b < w.heap.size → w'.heap[b]? = w.heap[b]?) (hs : w.heap.size ≤ w'.heap.size) (h1 : w'.os = w.os) (h2 : w'.tape = w.tape) (h3 : w'.output = w.output) (hN : ∀ b, N b → w.heap.size ≤ b ∧ b < w'.heap.size) :
    St B K σ vals w' (fun b => Fz b ∨ N b) S := by
  have hFS : ∀ t b, Fz b ∨ S t b → w'.heap[b]? = w.heap[b]? := fun t b q => hw b (q.elim (h.frz b) fun q => (h.tok t b q).1)
  refine ⟨fun t => ?_, h.dis, fun t b hb => ?_, h.hol, fun b hb => hb.elim (fun q => Nat.lt_of_lt_of_le (h.frz b q) hs) fun q => (hN b q).2, h1.trans h.os, h2.trans h.tape, h3.trans h.output, Nat.le_trans h.size hs, fun b hb hn => ?_, fun b q => .inl (h.fz0 b q), fun b hb => ?_⟩
  · exact (h.rep t).keep (fun _ q => .inl q) (hFS t) (fun _ q => q) fun h' hon => Held.same _ _ _ rfl (fun _ q => .inl q) fun b hb => hFS h' b (.inr hb)
  · obtain ⟨q1, q2, q3⟩ := h.tok t b hb
    exact ⟨Nat.lt_of_lt_of_le q1 hs, fun q => q.elim q2 fun q => absurd (hN b q).1 (by omega), q3⟩
  · exact (hw b (Nat.lt_of_lt_of_le hb h.size)).trans (h.old b hb hn)
  · rcases hb with q | q
    · exact h.fz1 b q
    · exact .inr (.inr (Nat.le_trans h.size (hN b q).1))
theorem St.dropAll (h : St B K σ vals w Fz S) : St B K σ vals w Fz (fun k => if k < σ.length then S k else fun _ => False) := by
  refine ⟨fun t => ?_, fun t u b htu ht hu => ?_, fun t b ht => ?_, h.hol, h.frz, h.os, h.tape, h.output, h.size, h.old, h.fz0, h.fz1⟩
  · rcases Nat.lt_or_ge t σ.length with htl | htl
    · refine (h.rep t).keep (fun _ h => h) (fun _ _ => rfl) (fun b hb => by rw [if_pos htl]; exact hb) (fun h' hon => Held.same _ _ _ rfl (fun b hb => .inl ?_) (fun _ _ => rfl))
      have := h.hol t h' hon
      rw [if_pos this]; exact hb
    · have : σ.getD t .u = .u := by simp [List.getD_eq_getElem?_getD, List.getElem?_eq_none htl]
      rw [this]; trivial
  · split at ht
    · split at hu
      · exact h.dis t u b htu ht hu
      · exact hu
    · exact ht
  · split at ht
    · exact h.tok t b ht
    · exact ht.elim
theorem toFps_on : ∀ {as cs : List AV} {x : Nat}, toFps as = some cs → (AV.clo 0 cs).on x = false
  | [], cs, x, h => by simp only [toFps, Option.some.injEq] at h; subst h; rfl
  | .w (.p c) :: r, cs, x, h => by
    simp only [toFps, Option.map_eq_some_iff] at h
    obtain ⟨l, hl, rfl⟩ := h
    have := toFps_on (x := x) hl
    simpa [AV.on] using this
  | .w (.own _ _) :: _, _, _, h => by simp [toFps] at h
  | .w .hole :: _, _, _, h => by simp [toFps] at h
  | .a _ :: _, _, _, h => by simp [toFps] at h
  | .u :: _, _, _, h => by simp [toFps] at h
  | .t _ :: _, _, _, h => by simp [toFps] at h
  | .box _ :: _, _, _, h => by simp [toFps] at h
  | .ptr _ :: _, _, _, h => by simp [toFps] at h
  | .fp _ :: _, _, _, h => by simp [toFps] at h
  | .al _ _ _ :: _, _, _, h => by simp [toFps] at h
  | .sv _ _ _ _ :: _, _, _, h => by simp [toFps] at h
  | .clo _ _ :: _, _, _, h => by simp [toFps] at h
  | .mp _ :: _, _, _, h => by simp [toFps] at h
  | .it _ _ :: _, _, _, h => by simp [toFps] at h
  | .ln _ :: _, _, _, h => by simp [toFps] at h
theorem toFps_ok {t : Nat} : ∀ {as cs : List AV} {vs : List Value} {bs : List Nat} {T : Nat → BSet}, toFps as = some cs → ArgsOk w Fz as vs T → bs.length = vs.length → (∀ b, Fz b → Fz' b) → (∀ b, Fz b → w'.heap[b]? = w.heap[b]?) →
    (∀ (j b : Nat) (v : Value), bs[j]? = some b → vs[j]? = some v → Fz' b ∧ w'.cell? ⟨b, 0, none⟩ = some v) → RepCaps vals w' Fz' S K t cs (bs.map fun b => Value.pointer (some ⟨b, 0, none⟩))
  | [], cs, vs, bs, T, h, ha, hb, _, _, _ => by
    simp only [toFps, Option.some.injEq] at h
    subst h
    have h0 : vs.length = 0 := ha.1
    have : bs = [] := List.eq_nil_of_length_eq_zero (by omega)
    subst this
    trivial
  | .w (.p c) :: r, cs, vs, bs, T, h, ha, hb, hF, hw, hc => by
    simp only [toFps, Option.map_eq_some_iff] at h
    obtain ⟨l, hl, rfl⟩ := h
    have hlen : vs.length = r.length + 1 := by simpa using ha.1
    match vs, bs, hlen, hb with
    | v :: vs, b :: bs, hlen, hb =>
      have h0 : ArgOk w Fz (.w (.p c)) v (T 0) := ha.2 0 _ v rfl rfl
      have hr : ArgsOk w Fz r vs (fun j => T (j + 1)) := ⟨by simpa using hlen, fun j A v' hA hv => ha.2 (j + 1) A v' (by simpa using hA) (by simpa using hv)⟩
      obtain ⟨f1, f2⟩ := hc 0 b v rfl rfl
      have ih := toFps_ok (t := t) hl hr (by simpa using hb) hF hw (fun j b' v' e1 e2 => hc (j + 1) b' v' (by simpa using e1) (by simpa using e2))
      refine ⟨⟨⟨b, 0, none⟩, [v], rfl, rfl, fun _ => f1, rfl, fun j x hj => ?_, fun j c' x hc' hx => ?_⟩, ih⟩
      · cases j with
        | zero => simp at hj; subst hj; exact f2
        | succ j => simp at hj
      · cases j with
        | zero =>
          simp at hc' hx
          subst hc'; subst hx
          cases h0 with
          | p hp => exact hp.keep hF hw
        | succ j => simp at hc'
  | .w (.own _ _) :: _, _, _, _, _, h, _, _, _, _, _ => by simp [toFps] at h
  | .w .hole :: _, _, _, _, _, h, _, _, _, _, _ => by simp [toFps] at h
  | .a _ :: _, _, _, _, _, h, _, _, _, _, _ => by simp [toFps] at h
  | .u :: _, _, _, _, _, h, _, _, _, _, _ => by simp [toFps] at h
  | .t _ :: _, _, _, _, _, h, _, _, _, _, _ => by simp [toFps] at h
  | .box _ :: _, _, _, _, _, h, _, _, _, _, _ => by simp [toFps] at h
  | .ptr _ :: _, _, _, _, _, h, _, _, _, _, _ => by simp [toFps] at h
  | .fp _ :: _, _, _, _, _, h, _, _, _, _, _ => by simp [toFps] at h
  | .al _ _ _ :: _, _, _, _, _, h, _, _, _, _, _ => by simp [toFps] at h
  | .sv _ _ _ _ :: _, _, _, _, _, h, _, _, _, _, _ => by simp [toFps] at h
  | .clo _ _ :: _, _, _, _, _, h, _, _, _, _, _ => by simp [toFps] at h
  | .mp _ :: _, _, _, _, _, h, _, _, _, _, _ => by simp [toFps] at h
  | .it _ _ :: _, _, _, _, _, h, _, _, _, _, _ => by simp [toFps] at h
  | .ln _ :: _, _, _, _, _, h, _, _, _, _, _ => by simp [toFps] at h
theorem argsO_len {H : List Nat} : ∀ {ts : List TypeId} {xs : List Operand} {j : Nat} {l : List (Od × Bool)}, argsO P H j ts xs = some l → ts.length = xs.length
  | [], [], _, _, _ => rfl
  | t :: ts, x :: xs, j, l, h => by
    simp only [argsO] at h
    split at h
    · rename_i o l' _ h2
      simp [argsO_len h2]
    · simp at h
  | [], _ :: _, _, _, h => by simp [argsO] at h
  | _ :: _, [], _, _, h => by simp [argsO] at h
theorem toFps_p : ∀ {as cs : List AV} {A : AV}, toFps as = some cs → A ∈ as → ∃ c, A = .w (.p c)
  | [], _, _, _, h => by simp at h
  | B :: r, cs, A, h, hA => by
    unfold toFps at h
    split at h
    · rename_i heq; simp at heq
    · rename_i c r' heq
      simp only [List.cons.injEq] at heq
      obtain ⟨rfl, rfl⟩ := heq
      simp only [Option.map_eq_some_iff] at h
      obtain ⟨l, hl, rfl⟩ := h
      rcases List.mem_cons.1 hA with rfl | hA
      · exact ⟨c, rfl⟩
      · exact toFps_p hl hA
    · cases h
theorem toFps_noagg {as cs : List AV} {vs : List Value} {T : Nat → BSet} (h : toFps as = some cs) (ha : ArgsOk w Fz as vs T) : ∀ v ∈ vs, ∀ q, v ≠ .agg q := by
  intro v hv q e
  obtain ⟨j, hj⟩ := List.getElem?_of_mem hv
  have hjl : j < as.length := ha.1 ▸ (List.getElem?_eq_some_iff.1 hj).1
  obtain ⟨c, hc⟩ := toFps_p h (List.getElem_mem hjl)
  have h0 : ArgOk w Fz (.w (.p c)) v (T j) := ha.2 j _ v (by rw [List.getElem?_eq_getElem hjl, hc]) hj
  subst e
  cases h0 with
  | p h => cases h
theorem sound_iter {c : Call} {f gf : FuncId} {H : List Nat} {ts : List TypeId} {l : List (Od × Bool)} (hmk : MakersOk P) (ho : o.op = .call c) (hc : c.callee = .value (.func f)) (hgf : makerOf P f = some gf) (hl : argsO P H 0 ts c.args.toList = some l)
    (hts : ∀ F, P.funcs[f]? = some F → F.params.size = c.args.toList.length) : Sound I P callf o (.iter gf l) := by
  intro B K σ σ' a w u hI hr Kt Q hk
  obtain ⟨hdf, hn, Fz, S, h, hfree⟩ := hI
  obtain ⟨⟨as, ls⟩, σ1, g1, r1⟩ := Pg.bind_some hr
  obtain ⟨e1, e2⟩ := argsO_ok (a := a) hl
  obtain ⟨hl1, F1, S1, m1, m2, m3, m4, m5, m6⟩ := (argsP_ok (hd := σ.length) (ys := c.args.toList.map a.eval) h (by simpa using e1) e2 g1 (Nat.le_refl _) hfree).out
  obtain ⟨hls, r2⟩ := Pg.guard_some r1
  obtain ⟨cs, hcs, r3⟩ := Pg.opt_some r2
  have hm := hmk f gf hgf
  have hrun : (execOp a.eval o).run P w = .ok (.enter f (c.args.toList.map a.eval).toArray) w := by
    have he : (c.args.map a.eval ++ #[] : Array Value) = (c.args.toList.map a.eval).toArray := by
      apply Array.ext'; simp
    simp only [execOp, ho, resolve, hc, Act.eval, Deferred.ofValue, Sem.run_bind, Sem.run_pure, Result.andThen_ok, invoke]
    have he2 : ((#[] : Array Value) ++ c.args.map a.eval ++ #[]) = (c.args.toList.map a.eval).toArray := by
      apply Array.ext'; simp
    have := run_enter (P := P) (w := w) (args := (#[] : Array Value) ++ c.args.map a.eval ++ #[]) hm.fn
    rw [he2] at this
    rw [← he2] at this ⊢
    exact this
  unfold Oper.wp
  rw [hrun]
  refine (hm.makes (c.args.toList.map a.eval) w (fun F hF => by rw [List.length_map]; exact hts F hF) (toFps_noagg hcs m3)).mono fun e w' he => ?_
  obtain ⟨bs, rfl, b1, b2, b3, b4, b5, b6, b7⟩ := he
  have hN : ∀ b, b ∈ bs → w.heap.size ≤ b ∧ b < w'.heap.size := fun b hb => by
    obtain ⟨j, hj⟩ := List.getElem?_of_mem hb
    have hjl := (List.getElem?_eq_some_iff.1 hj).1
    obtain ⟨q1, q2⟩ := b7 j b _ hj (List.getElem?_eq_getElem (by omega))
    refine ⟨q1, ?_⟩
    rcases Nat.lt_or_ge b w'.heap.size with q | q
    · exact q
    · simp [World.cell?, Array.getElem?_eq_none q] at q2
  have st2 := m1.dropAll.growF (w' := w') (N := fun b => b ∈ bs) b3 b2 b4 b5 b6 hN
  refine hk _ _ (fin (hd := σ1.length) (v := .clo gf cs) st2 hdf (hn.trans hl1.symm) (Nat.le_refl _) (fun k hk1 hk2 b q => by rw [if_neg (by omega)] at q; exact q) r3 (fun d _ => ⟨_, rfl, toFps_ok (w := w) (Fz := F1) hcs m3 b1 (fun _ q => .inl q) (fun b q => b3 b (m1.frz b q)) fun j b v hb hv => ⟨.inr (List.mem_of_getElem? hb), (b7 j b v hb hv).2⟩⟩) (fun y hy => ?_))
  rw [show (AV.clo gf cs).on y = (AV.clo 0 cs).on y from rfl, toFps_on hcs] at hy; simp at hy
end
end Go.Pv
end

section
namespace Go.Pv
open Go.RowKit
set_option linter.unusedVariables false
set_option linter.unusedSimpArgs false
def SlIs (w : World) (z : Nat) (v : Value) (len : Nat) (vs : List Value) : Prop :=
  ∃ a cap, v = .slice a len cap ∧ vs.length = len * z ∧ len ≤ cap ∧ ((len = 0) ∨ ∃ ad, a = some ad ∧ ad.spot = none ∧ CellsAt w ad.block ad.off vs)
def NewSl (w w' : World) (z : Nat) (x : Value) (len : Nat) (vs : List Value) : Prop :=
  (len = 0 ∧ ∃ a, x = .slice a 0 0) ∨ ∃ b cap c e fz, x = .slice (some ⟨b, 0, none⟩) len cap ∧ w.heap.size ≤ b ∧ w'.heap[b]? = some (.cells c e fz) ∧ (∀ o, o < c.size → ¬ (fz.1 ≤ o ∧ o < fz.2)) ∧ ¬ (fz.1 ≤ c.size ∧ c.size < fz.2) ∧ len ≤ cap ∧ cap * z ≤ c.size ∧ c.toList.take vs.length = vs
structure CloneRaw (P : Program) (f z bytes : Nat) : Prop where
  fn : FnOk P f
  pos : 0 < z
  runs : ∀ (w : World) (v : Value) (len : Nat) (vs : List Value), SlIs w z v len vs → len ≤ 140737488351232 → len * bytes ≤ 140737488351232 →
    Calls P f #[v] w fun e w' => ∃ x, e = .returned x ∧ Step (fun _ => False) w w' ∧ NewSl w w' z x len vs
section
variable {P : Program} {I : World → Prop} {B : Base I} {K : Kills} {σ σ' σ1 : List AV} {w w' : World} {Fz Fz' : BSet} {S S' : Nat → BSet} {a : Act} {o : Oper} {ops : Array Oper} {Kt : Act → World → Prop} {Q : Exit → Act → World → Prop} {callf : Nat → List AV → Option CRes}
theorem nil_eql (w : World) (t e : TypeId) (a : Option Addr) (n c : Nat) (h : P.underlying t = some (.slice e)) :
    (Go.binOp .eql t (.slice a n c) (.slice none 0 0)).run P w = .ok (.bool a.isNone) w := by
  simp only [Go.binOp]
  simp [Op.equal, Op.maxDepth, Lib.run_equalIn_slice_nil w 9999 t e a n c 0 0 h]
theorem wpOps1 {i : Nat} {rest : List Nat} (hi : ops[i]? = some o) (hg : o.guard = none) (h : o.wp P a w (wpOps P ops Q rest) Q) : wpOps P ops Q (i :: rest) a w := by
  rw [wpOps_cons]
  unfold wpOp
  rw [hi]
  simp only
  rw [if_pos (by simp [Region.wanted, hg])]
  exact .inl h
theorem ev_t (P : Program) {a : Act} {i : Nat} {v : Value} (h : a.tmps[i]? = some v) : a.eval (.tmp i) = v := by
  rw [← odOf_ok (P := P) (t := 0) (x := .tmp i) (od := .t i) (a := a) rfl]
  simp [valsOf, Array.getD_eq_getD_getElem?, h]
theorem ev_c {a : Act} {v : Value} : a.eval (.const v) = v := rfl
theorem w_mv {x : Operand} {v : Value} (hi : ∃ t p e d, o = ⟨d, .move x, t, p, e, none⟩ ∨ o = ⟨d, .assign x, t, p, e, none⟩) (hv : a.eval x = v) (h : Kt (a.put o.dst v) w) : o.wp P a w Kt Q := by
  subst hv
  obtain ⟨t, p, e, d, ho | ho⟩ := hi <;> subst ho <;> exact wp_value (by simp [execOp]) h
theorem w_eqnil {t e u t5 : TypeId} {p : String} {es : Array Edge} {d k : Nat} {ad : Option Addr} {len cap : Nat} (ho : o = ⟨some d, .binOp .eql t (.tmp k) (.const (.slice none 0 0)) u, t5, p, es, none⟩) (hv : a.eval (.tmp k) = .slice ad len cap) (ht : P.underlying t = some (.slice e))
    (h : Kt (a.put (some d) (.bool ad.isNone)) w) : o.wp P a w Kt Q := by
  subst ho
  have e5 : (eqGuard .eql t (.tmp k) (.const (.slice none 0 0)) (.slice ad len cap) (.slice none 0 0)).run P w = .ok () w := by
    unfold eqGuard; split <;> rfl
  refine wp_value (x := .bool ad.isNone) (w' := w) ?_ h
  simp only [execOp, hv, ev_c, Sem.run_bind, e5, Result.andThen_ok, nil_eql (P := P) w t e ad len cap ht, Sem.run_pure]
theorem w_bs0 {t e t5 : TypeId} {p : String} {es : Array Edge} {d : Nat} {i : TypeInfo} {zv : Value} (ho : o = ⟨some d, .buildSlice t 0 #[], t5, p, es, none⟩) (ht : P.underlying t = some (.slice e)) (hi : P.info? e = some i)
    (h : Kt (a.put (some d) (.slice (some ⟨w.heap.size, 0, none⟩) 0 0)) (w.alloc (.cells #[] e))) : o.wp P a w Kt Q := by
  subst ho
  refine wp_value (x := .slice (some ⟨w.heap.size, 0, none⟩) 0 0) (w' := w.alloc (.cells #[] e)) ?_ h
  have hsz : (sizeOf e).run P w = .ok i.size w := by simp [sizeOf, typeInfo, hi, program, Sem.run]
  simp only [execOp, Sem.run_bind, Instr.buildSlice, run_underlying ht, Result.andThen_ok, hsz]
  rw [if_neg (by simp)]
  simp only [Nat.zero_mul, if_true, Sem.run_bind, Sem.run_pure, Result.andThen_ok, Array.range_zero', Array.map_empty, newRow]
  simp [Instr.fill]
theorem w_app {t t5 : TypeId} {p : String} {es : Array Edge} {d k l : Nat} {x y r : Value} {w' : World} (ho : o = ⟨some d, .call { callee := .builtin .append, args := #[.tmp k, .tmp l], argTypes := #[t, t] }, t5, p, es, none⟩) (hx : a.eval (.tmp k) = x) (hy : a.eval (.tmp l) = y)
    (hr : (Builtin.append_ #[t, t] t5 #[x, y]).run P w = .ok r w') (h : Kt (a.put (some d) r) w') : o.wp P a w Kt Q := by
  subst ho
  refine wp_value (x := r) (w' := w') (run_call2 (b := .append) rfl ?_) h
  rw [hx, hy]; exact hr
def CloneTx (F : Func) (t : TypeId) : Prop := ∃ (u5 : TypeId) (i0 i1 i2 i3 : Nat) (p0 p1 p2 p3 p4 p5 p6 p7 : String) (e0 e1 e2 e3 e4 e5 e6 e7 : Array Edge), F.body = some
  ((Code.region i0 #[{ dst := some 2, op := Op.assign (Operand.const (Value.slice none 0 0)), type := t, pos := p0, after := e0, guard := none }] false).seq
    (((Code.region i1 #[{ dst := some 3, op := Op.move (Operand.tmp 0), type := t, pos := p1, after := e1, guard := none },
        { dst := some 4, op := Op.binOp BinOp.eql t (Operand.tmp 3) (Operand.const (Value.slice none 0 0)) t, type := u5, pos := p2, after := e2, guard := none }] false).seq
        (Code.cond (Operand.tmp 4) ((Code.region i2 #[{ dst := some 2, op := Op.assign (Operand.const (Value.slice none 0 0)), type := t, pos := p3, after := e3, guard := none }] false).seq Code.ret) Code.skip)).seq
      ((Code.region i3 #[{ dst := some 5, op := Op.buildSlice t 0 #[], type := t, pos := p4, after := e4, guard := none }, { dst := some 6, op := Op.move (Operand.tmp 0), type := t, pos := p5, after := e5, guard := none },
          { dst := some 7, op := Op.call { callee := Callee.builtin Builtin.append, args := #[Operand.tmp 5, Operand.tmp 6], argTypes := #[t, t] }, type := t, pos := p6, after := e6, guard := none },
          { dst := some 2, op := Op.assign (Operand.tmp 7), type := t, pos := p7, after := e7, guard := none }] false).seq Code.ret)))
theorem clone_raw {f t e : Nat} {F : Func} {i : TypeInfo} {zv : Value} (hf : P.funcs[f]? = some F) (hn : F.name ≠ "runtime.NumGoroutine") (hx : CloneTx F t) (hres : F.results = #[.tmp 2]) (hnt : F.ntmps = 8) (ht : P.underlying t = some (.slice e)) (hi : P.info? e = some i) (hz : i.zero = some zv)
    (hzs : zv.cells.size = i.size) (hz0 : 0 < i.size) (hb : 0 < i.bytes) : CloneRaw P f i.size i.bytes := by
  obtain ⟨u5, i0, i1, i2, i3, p0, p1, p2, p3, p4, p5, p6, p7, e0, e1, e2, e3, e4, e5, e6, e7, hx⟩ := hx
  refine ⟨⟨F, hf, by rw [hx]; rfl, hn⟩, hz0, fun w v len vs hv h63 hbytes => ?_⟩
  obtain ⟨ad, cap, rfl, hvl, hcap, had⟩ := hv
  refine calls_of_wp hf hx ?_
  rw [hnt]
  have htm : (#[Value.slice ad len cap] ++ Array.replicate (8 - #[Value.slice ad len cap].size) undef) = #[.slice ad len cap, undef, undef, undef, undef, undef, undef, undef] := by simp [Array.replicate, List.replicate]
  rw [htm]
  have hresv : ∀ (tm : Array Value) (x : Value) (w1 : World), tm[2]? = some x → (results F tm).run P w1 = .ok x w1 := by
    intro tm x w1 h
    simp [results, hres, Array.mapM_eq_mapM_toList, h, Array.getD_eq_getD_getElem?]
  refine wp_seq (wp_region (wpOps1 (o := _) rfl rfl (w_mv ⟨_, _, _, _, .inr rfl⟩ ev_c ?_)))
  show (Code.seq _ _).wp P _ ⟨#[.slice ad len cap, undef, .slice none 0 0, undef, undef, undef, undef, undef], []⟩ w
  refine wp_seq (wp_seq (wp_region (wpOps1 (o := _) rfl rfl (w_mv ⟨_, _, _, _, .inl rfl⟩ (ev_t P rfl) (wpOps1 (o := _) rfl rfl (w_eqnil rfl (ev_t P rfl) ht ?_))))))
  show (Code.cond _ _ _).wp P _ ⟨#[.slice ad len cap, undef, .slice none 0 0, .slice ad len cap, .bool ad.isNone, undef, undef, undef], []⟩ w
  refine wp_cond (t := ad.isNone) (ev_t P rfl) ?_
  cases ad with
  | none =>
    obtain rfl : len = 0 := by
      rcases had with h | ⟨q, h, _⟩
      · exact h
      · cases h
    rw [if_pos (show none.isNone = true from rfl)]
    refine wp_seq (wp_region (wpOps1 (o := _) rfl rfl (w_mv ⟨_, _, _, _, .inr rfl⟩ ev_c ?_)))
    refine wp_ret ⟨rfl, .slice none 0 0, hresv _ _ _ rfl, _, rfl, Step.refl _ _, .inl ⟨rfl, none, rfl⟩⟩
  | some q =>
    rw [if_neg (by simp)]
    refine wp_skip ?_
    refine wp_seq (wp_region (wpOps1 (o := _) rfl rfl (w_bs0 (zv := zv) rfl ht hi (wpOps1 (o := _) rfl rfl (w_mv ⟨_, _, _, _, .inl rfl⟩ (v := .slice (some q) len cap) (ev_t P rfl) (wpOps1 (o := _) rfl rfl ?_))))))
    have hnu : notInt P t := ⟨_, ht, fun k h => by cases h⟩
    have hst := alloc_step w (.cells #[] e) (fun _ => False)
    have hlen : (Builtin.lenOf (.slice (some q) len cap)).run P (w.alloc (.cells #[] e)) = .ok len (w.alloc (.cells #[] e)) := rfl
    have key : ∃ r w', Step (fun _ => False) w w' ∧ NewSl w w' i.size r len vs ∧ (Builtin.append_ #[t, t] t #[.slice (some ⟨w.heap.size, 0, none⟩) 0 0, .slice (some q) len cap]).run P (w.alloc (.cells #[] e)) = .ok r w' := by
      rcases Nat.eq_zero_or_pos len with h0 | h0
      · subst h0
        have hfc : (Builtin.firstCells i.size 0 (.slice (some q) 0 cap)).run P (w.alloc (.cells #[] e)) = .ok (([] : List Value)).toArray (w.alloc (.cells #[] e)) := by simp [Builtin.firstCells, loadCells, loadCellsFrom, Sem.run_pure]
        have hr := run_append_fit (P := P) (w := w.alloc (.cells #[] e)) (ty := t) (base := some ⟨w.heap.size, 0, none⟩) (sLen := 0) (sCap := 0) ht hnu hi hlen hfc (by omega)
        exact ⟨_, _, hst, .inl ⟨rfl, _, rfl⟩, by rw [hr]; rfl⟩
      · obtain ⟨q', hq, hq2, hq3⟩ := had.resolve_left (by omega)
        obtain rfl : q = q' := by simpa using hq
        have hqb : q.block < w.heap.size := by
          have h00 : 0 < vs.length := by rw [hvl]; exact Nat.mul_pos h0 hz0
          have := hq3 0 vs[0] (by simp [h00])
          rcases Nat.lt_or_ge q.block w.heap.size with h | h
          · exact h
          · simp [World.cell?, Array.getElem?_eq_none h] at this
        have hcell : ∀ w1 : World, w1.heap[q.block]? = w.heap[q.block]? → (Builtin.firstCells i.size len (.slice (some q) len cap)).run P w1 = .ok vs.toArray w1 := by
          intro w1 hw1
          refine run_firstCells_some (P := P) w1 i.size len q len cap vs hvl fun j v hj => ?_
          rw [addr_add hq2]
          exact (World.cell?_of_block (w := w) (a := ⟨q.block, q.off + j, none⟩) hw1).trans (hq3 j v hj)
        have hfc := hcell (w.alloc (.cells #[] e)).drew (hst.keep q.block hqb (fun h => h))
        have hfo : (Builtin.firstCells i.size 0 (.slice (some ⟨w.heap.size, 0, none⟩) 0 0)).run P (w.alloc (.cells #[] e)).drew = .ok ([] : List Value).toArray (w.alloc (.cells #[] e)).drew := by simp [Builtin.firstCells, loadCells, loadCellsFrom, Sem.run_pure]
        obtain ⟨cap', rest, c1, c2, c3⟩ := run_append_new (P := P) (w := w.alloc (.cells #[] e)) (ty := t) (base := some ⟨w.heap.size, 0, none⟩) (sLen := 0) (sCap := 0) ht hnu hi hz hb hlen hfc hfo (by omega) (by omega) (by simpa using hbytes)
        simp only [Nat.zero_add, List.nil_append] at c1 c2 c3
        refine ⟨_, _, (hst.trans (drew_step _ _)).trans (alloc_step _ _ _), .inr ⟨_, cap', _, e, (0, 0), rfl, ?_, heap_alloc_new (w.alloc (.cells #[] e)).drew _, fun o _ => by simp, by simp, c1, ?_, ?_⟩, c3⟩
        · exact hst.size
        · simp only [List.size_toArray, List.length_append, c2, hvl, hzs, ← Nat.add_mul]
          exact Nat.mul_le_mul_right _ (by omega)
        · show List.take _ (vs ++ rest) = _; exact List.take_left
    obtain ⟨r, w', k1, k2, k3⟩ := key
    refine w_app rfl (ev_t P rfl) (ev_t P rfl) k3 (wpOps1 (o := _) rfl rfl (w_mv ⟨_, _, _, _, .inr rfl⟩ (v := r) (ev_t P rfl) ?_))
    exact wp_ret ⟨rfl, r, hresv _ _ _ rfl, _, rfl, k1, k2⟩
def ClonersOk (P : Program) : Prop := ∀ f z b, clonerOf P f = some (z, b) → CloneRaw P f z b
structure LibOk (P : Program) : Prop where
  makers : MakersOk P
  cloners : ClonersOk P
theorem clonersOk (l : List (Nat × Nat × Nat)) (hl : ∀ p ∈ l, CloneRaw P p.1 p.2.1 p.2.2) (h : ((List.range P.funcs.size).all fun f => match clonerOf P f with | none => true | some q => l.contains (f, q)) = true) : ClonersOk P := by
  intro f z b hf
  have hfl : f < P.funcs.size := by
    unfold clonerOf at hf
    split at hf
    · rename_i F hF; exact (Array.getElem?_eq_some_iff.1 hF).1
    · simp at hf
  have := List.all_eq_true.1 h f (List.mem_range.2 hfl)
  rw [hf] at this
  exact hl (f, z, b) (by simpa using this)
theorem clEls_ok {z b : Nat} {cs : List OV} {els : List (List OV)} {v : Value} {T : BSet} (hz : 0 < z) (hF : ∀ b, Fz b → b < w.heap.size) (h : clEls z b cs = some els) (hL : RepL w Fz cs [v] T) :
    els.length ≤ 140737488351232 ∧ els.length * b ≤ 140737488351232 ∧ (∀ e ∈ els, e.length = z) ∧ ∃ vs, SlIs w z v els.length vs ∧ ∀ w', (∀ b, b < w.heap.size → w'.heap[b]? = w.heap[b]?) → RepL w' Fz els.flatten vs (fun _ => False) := by
  unfold clEls at h
  split at h
  · rename_i z' els'
    split at h
    case isFalse => simp at h
    rename_i hc
    obtain ⟨rfl, hp, h1, h2⟩ := hc
    obtain rfl := Option.some.inj h
    obtain ⟨xv, ex, hO⟩ := hL.of_one
    simp at ex
    subst ex
    have hpl : plainAll els'.flatten = true := by
      unfold plainAll at hp ⊢
      rw [List.all_eq_true] at hp ⊢
      intro c hc
      obtain ⟨l, hl, hcl⟩ := List.mem_flatten.1 hc
      exact List.all_eq_true.1 (hp l hl) c hcl
    refine ⟨h1, h2, ?_⟩
    rcases repO_own.1 hO with ⟨rfl, ad, rfl⟩ | ⟨ad, cap, vs, U, rfl, k1, k2, k3, k4, k5, k6, k7, k8, k9, k10⟩
    · exact ⟨fun e he => by simp at he, [], ⟨ad, 0, rfl, by simp, Nat.le_refl _, .inl rfl⟩, fun w' _ => trivial⟩
    · exact ⟨k4, vs, ⟨some ad, cap, rfl, by rw [k8.length, flatten_len k4], k5, .inr ⟨ad, rfl, k2, k7⟩⟩, fun w' hw => (k8.plain (T' := fun _ => False) hpl).keep (fun _ q => q) (fun b q => hw b (q.elim (hF b) fun q => q.elim)) fun _ q => q⟩
  · rename_i z' els'
    split at h
    case isFalse => simp at h
    rename_i hc
    obtain ⟨rfl, h1, h2⟩ := hc
    obtain rfl := Option.some.inj h
    obtain ⟨xv, ex, hO⟩ := hL.of_one
    simp at ex
    subst ex
    have epl : (plains els').length = els'.length := by simp [plains]
    rw [epl]
    refine ⟨h1, h2, ?_⟩
    cases hO with
    | p hP =>
      cases hP with
      | nil _ ad cap => exact ⟨fun e he => by simp [plains] at he, [], ⟨ad, cap, rfl, by simp, Nat.zero_le _, .inl rfl⟩, fun w' _ => trivial⟩
      | sl _ _ ad cap vs hf hs hz' hl hcap hn hc hr =>
        have hfl : (plains els').flatten = els'.flatten.map .p := flatten_map_map OV.p els'
        refine ⟨fun e he => ?_, vs, ⟨some ad, cap, rfl, by rw [hn, flatten_len hl], hcap, .inr ⟨ad, rfl, hs, hc⟩⟩, fun w' hw => ?_⟩
        · obtain ⟨l, hl', rfl⟩ := List.mem_map.1 he
          rw [List.length_map]; exact hl l hl'
        · rw [hfl]
          exact (RepL.ofP (T := fun _ => False) hn hr).keep (fun _ q => q) (fun b q => hw b (q.elim (hF b) fun q => q.elim)) fun _ q => q
  · simp at h
theorem raw_after {f z b : Nat} {M : BSet} {A : AV} {v : Value} {vs : List Value} {els : List (List OV)} (hA : isBox A = false) (hraw : CloneRaw P f z b) (hF : ∀ b, Fz b → b < w.heap.size) (h1 : els.length ≤ 140737488351232) (h2 : els.length * b ≤ 140737488351232) (h3 : ∀ e ∈ els, e.length = z)
    (h4 : SlIs w z v els.length vs) (h5 : ∀ w', (∀ b, b < w.heap.size → w'.heap[b]? = w.heap[b]?) → RepL w' Fz els.flatten vs (fun _ => False)) : Calls P f [v].toArray w (After w Fz M [A] [v] ([(false, [.own z els])], [])) := by
  have hbx : ∀ w' Tb, BoxesIs w' Fz Tb 0 [A] [v] [] := fun w' Tb => by cases A <;> first | (simp [isBox] at hA; done) | trivial
  refine (hraw.runs w v els.length vs h4 h1 h2).mono fun e w' hA => ?_
  obtain ⟨x', rfl, hs, hnew⟩ := hA
  have hM : Step M w w' := hs.mono fun _ q => q.elim
  have hkeep : ∀ b, b < w.heap.size → w'.heap[b]? = w.heap[b]? := fun b hb => hs.keep b hb fun q => q
  have hF2 : ∀ b, Fz b → (Fz b ∨ M b ∨ w.heap.size ≤ b) ∧ b < w'.heap.size := fun b hb => ⟨.inl hb, Nat.lt_of_lt_of_le (hF b hb) hs.size⟩
  rcases hnew with ⟨h0, ad, rfl⟩ | ⟨nb, cap, cc, ee, fz, rfl, n1, n2, n3, n3', n4, n5, n6⟩
  · obtain rfl := List.eq_nil_of_length_eq_zero h0
    exact ⟨_, Fz, fun _ => False, fun _ _ => False, rfl, hM, fun _ q => q, hF2, ⟨[.slice ad 0 0], .inr ⟨rfl, rfl⟩, fun _ => False, fun _ => False, .nil z ad _, trivial, fun _ q => q.elim, fun _ q => q.elim, fun _ q => q.elim⟩, hbx _ _, fun _ q => q.elim, fun _ _ q => q.elim, fun _ _ q => q.elim, fun _ _ _ _ q => q.elim⟩
  · have hlt : nb < w'.heap.size := (Array.getElem?_eq_some_iff.1 n2).1
    refine ⟨_, Fz, fun b => b = nb, fun _ _ => False, rfl, hM, fun _ q => q, hF2, ⟨[_], .inr ⟨rfl, rfl⟩, fun b => b = nb, fun _ => False, ?_, trivial, fun _ q => q, fun _ q => q.elim, fun _ _ q => q⟩, hbx _ _, fun b q => ?_, fun _ _ q => q.elim, fun _ _ q => q.elim, fun _ _ _ _ q => q.elim⟩
    · refine repO_own.2 (.inr ⟨⟨nb, 0, none⟩, cap, vs, fun _ => False, rfl, rfl, rfl, hraw.pos, h3, n4, ⟨⟨cc, ee, fz, n2, by simpa using n5, n3⟩, .inr ⟨cc, ee, fz, n2, n3'⟩⟩, fun j v hj => ?_, h5 w' hkeep, fun _ q => q.elim, fun q => q⟩)
      have hj' : cc.toList[j]? = some v := by
        rw [← n6, List.getElem?_take] at hj
        split at hj
        · exact hj
        · simp at hj
      simp only [World.cell?, n2]
      simpa using hj'
    · subst q
      exact ⟨.inr n1, hlt, fun q => by have := hF _ q; omega⟩
theorem sound_cln {c : Call} {f z b : Nat} {t : TypeId} {x : Operand} {ox : Od} (hcl : ClonersOk P) (ho : o.op = .call c) (hc : c.callee = .value (.func f)) (hgf : clonerOf P f = some (z, b)) (hx : odOf P t x = some ox) (hargs : c.args.toList = [x]) : Sound I P callf o (.cln z b ox) := by
  intro B K σ σ' a w u hI hr Kt Q hk
  obtain ⟨hdf, hn, Fz, S, h, hfree⟩ := hI
  obtain ⟨v, σ1, g1, r1⟩ := Pg.bind_some hr
  obtain ⟨rfl, hv⟩ := val_ok h (odOf_ok (a := a) hx) g1
  obtain ⟨hag, r2⟩ := Pg.guard_some r1
  simp only [Bool.not_eq_true'] at hag
  obtain ⟨els, he, r3⟩ := Pg.opt_some r2
  obtain ⟨vs1, T, q2, q3, q4⟩ := hv.rep h
  rw [hag] at q2
  rw [valIs_false q2] at q3
  have hraw := hcl f z b hgf
  obtain ⟨h1, h2, h3, vs, h4, h5⟩ := clEls_ok hraw.pos h.frz he q3
  have hrun : (execOp a.eval o).run P w = .ok (.enter f (c.args.toList.map a.eval).toArray) w := by
    have he : (c.args.map a.eval ++ #[] : Array Value) = (c.args.toList.map a.eval).toArray := by
      apply Array.ext'; simp
    simp only [execOp, ho, resolve, hc, Act.eval, Deferred.ofValue, Sem.run_bind, Sem.run_pure, Result.andThen_ok, invoke]
    have he2 : ((#[] : Array Value) ++ c.args.map a.eval ++ #[]) = (c.args.toList.map a.eval).toArray := by
      apply Array.ext'; simp
    have := run_enter (P := P) (w := w) (args := (#[] : Array Value) ++ c.args.map a.eval ++ #[]) hraw.fn
    rw [he2] at this
    rw [← he2] at this ⊢
    exact this
  have he3 : c.args.toList.map a.eval = [a.eval x] := by rw [hargs]; rfl
  rw [he3] at hrun
  unfold Oper.wp
  rw [hrun]
  refine afterP_ok (as := [.u]) (ls := []) (bs := []) (rs := [(false, [.own z els])]) (Kt := Kt) (Q := Q) hdf hn h rfl ?_ trivial (fun d hd => by simp at hd) r3 hk
  exact raw_after rfl hraw h.frz h1 h2 h3 h4 h5
theorem clone_raw2 {f t e z b : Nat} {F : Func} (hf : P.funcs[f]? = some F) (hn : F.name ≠ "runtime.NumGoroutine") (hx : CloneTx F t) (hres : F.results = #[.tmp 2]) (hnt : F.ntmps = 8) (ht : P.underlying t = some (.slice e))
    (hc : (match P.info? e with | some i => (match i.zero with | some zv => zv.cells.size == i.size && i.size == z && i.bytes == b && Nat.blt 0 i.size && Nat.blt 0 i.bytes | none => false) | none => false) = true) : CloneRaw P f z b := by
  split at hc
  · rename_i i hi
    split at hc
    · rename_i zv hz
      simp only [Bool.and_eq_true, beq_iff_eq, Nat.blt_eq] at hc
      obtain ⟨⟨⟨⟨h1, rfl⟩, rfl⟩, h4⟩, h5⟩ := hc
      exact clone_raw hf hn hx hres hnt ht hi hz h1 h4 h5
    · simp at hc
  · simp at hc
end
end Go.Pv
end

section
namespace Go.Pv
open Go.RowKit
set_option linter.unusedVariables false
set_option linter.unusedSimpArgs false
section
variable {P : Program} {I : World → Prop} {B : Base I} {K : Kills} {σ σ' σ1 : List AV} {vals vals' : Nat → Value} {w w' : World} {Fz Fz' : BSet} {S S' : Nat → BSet} {a : Act} {hd : Nat} {dst : Option Nat} {v : AV} {x y : Value} {o : Oper} {Kt : Act → World → Prop} {Q : Exit → Act → World → Prop} {callf : Nat → List AV → Option CRes}
theorem plain_w {c : OV} {T : BSet} (h : RepO w Fz c y T) (hc : c.plain = true) (T' : BSet) : RepO w Fz c y T' := by
  cases c <;> simp [OV.plain] at hc
  cases h with | p h => exact .p h
theorem capsP_ok {t0 : Nat} : ∀ {caps : List AV} {cvs : List Value} {σ σ' : List AV} {Fz : BSet} {S S0 : Nat → BSet} {hd : Nat} {as : List AV} {ls : List Nat}, St B K σ vals w Fz S → RepCaps vals w Fz S0 K t0 caps cvs →
    (capsP K caps).run σ = some ((as, ls), σ') → σ.length ≤ hd → (∀ k, hd ≤ k → ∀ b, ¬ S k b) → ArgsSt B K σ σ' vals w Fz S hd cvs as ls
  | [], [], σ, σ', Fz, S, S0, hd, as, ls, h, _, hr, h0, hf => by
    simp only [capsP, Pg.run_ret, Option.some.injEq, Prod.mk.injEq] at hr
    obtain ⟨⟨rfl, rfl⟩, rfl⟩ := hr
    exact ⟨rfl, Fz, S, h, fun _ q => q, ⟨rfl, fun j A v hA => by simp at hA⟩, fun _ _ _ => rfl, trivial, fun d hd => by simp at hd⟩
  | .w c :: r, v :: vs, σ, σ', Fz, S, S0, hd, as, ls, h, ⟨c1, c2, c3⟩, hr, h0, hf => by
    simp only [capsP] at hr
    rw [if_pos c2] at hr
    obtain ⟨⟨as', ls'⟩, σ2, g2, r2⟩ := Pg.bind_some hr
    simp only [Pg.run_ret, Option.some.injEq, Prod.mk.injEq] at r2
    obtain ⟨⟨rfl, rfl⟩, rfl⟩ := r2
    obtain ⟨hl2, F2, S2, m1, m2, m3, m4, m5, m6⟩ := (capsP_ok (hd := hd + 1) h c3 g2 (by omega) (fun k hk => hf k (by omega))).out
    refine ⟨hl2, F2, S2, m1, m2, ?_, fun k hk hk' => m4 k hk (by simp only [List.length_cons] at hk'; omega), lent_no rfl m5, m6⟩
    refine argsOk_cons (plain_w (c1.keep m2 (fun _ _ => rfl) (fun _ q => q)) c2 _) ?_
    have : (fun j => S2 (hd + (j + 1))) = fun j => S2 (hd + 1 + j) := by funext j; congr 1; omega
    rw [this]; exact m3
  | .a cs :: r, v :: vs, σ, σ', Fz, S, S0, hd, as, ls, h, ⟨⟨us, e1, c1⟩, c2, c3⟩, hr, h0, hf => by
    simp only [capsP] at hr
    rw [if_pos c2] at hr
    obtain ⟨⟨as', ls'⟩, σ2, g2, r2⟩ := Pg.bind_some hr
    simp only [Pg.run_ret, Option.some.injEq, Prod.mk.injEq] at r2
    obtain ⟨⟨rfl, rfl⟩, rfl⟩ := r2
    obtain ⟨hl2, F2, S2, m1, m2, m3, m4, m5, m6⟩ := (capsP_ok (hd := hd + 1) h c3 g2 (by omega) (fun k hk => hf k (by omega))).out
    refine ⟨hl2, F2, S2, m1, m2, ?_, fun k hk hk' => m4 k hk (by simp only [List.length_cons] at hk'; omega), lent_no rfl m5, m6⟩
    refine argsOk_cons ⟨us, e1, (c1.keep m2 (fun _ _ => rfl) (fun _ q => q)).plain c2⟩ ?_
    have : (fun j => S2 (hd + (j + 1))) = fun j => S2 (hd + 1 + j) := by funext j; congr 1; omega
    rw [this]; exact m3
  | .ptr (.b d 0) :: r, v :: vs, σ, σ', Fz, S, S0, hd, as, ls, h, ⟨⟨ad, ⟨b, p1, p1'⟩, p2⟩, p3, c3⟩, hr, h0, hf => by
    subst p1'
    simp only [capsP, Pg.run_get] at hr
    split at hr
    · rename_i cs hc
      obtain ⟨u, σ1, k1, r1⟩ := Pg.bind_some hr
      simp only [Pg.run_put] at r1
      obtain ⟨⟨as', ls'⟩, σ2, g2, r2⟩ := Pg.bind_some r1
      simp only [Pg.run_ret, Option.some.injEq, Prod.mk.injEq] at r2
      obtain ⟨⟨rfl, rfl⟩, rfl⟩ := r2
      have hdl : d < σ.length := lt_of_getD (by rw [hc]; simp)
      obtain ⟨n1, n2, n3⟩ := h.lend hc k1 h0 (hf hd (Nat.le_refl _))
      obtain ⟨hl2, F2, S2, m1, m2, m3, m4, m5, m6⟩ := (capsP_ok (hd := hd + 1) n1 c3 g2 (by omega) (fun k hk b hb => by
        simp only [updS, if_neg (show k ≠ hd by omega), if_neg (show k ≠ d by omega)] at hb; exact hf k (by omega) b hb)).out
      have hv : vals d = v := by rw [p1, p2]
      have e1 := m4 hd (by omega) (.inl (by omega))
      refine ⟨hl2.trans n2, F2, S2, m1, m2, ?_, fun k hk hk' => ?_, lent_box hv m5, fun d' hd' => ?_⟩
      · refine argsOk_cons ?_ ?_
        · rw [Nat.add_zero, e1]
          simp only [updS, if_true]
          rw [← hv]
          exact RepBox.keep n3 m2 (fun _ _ => rfl) (fun _ q => q)
        · have : (fun j => S2 (hd + (j + 1))) = fun j => S2 (hd + 1 + j) := by funext j; congr 1; omega
          rw [this]; exact m3
      · simp only [List.length_cons] at hk'
        rw [m4 k (by omega) (by omega)]
        simp only [updS, if_neg (show k ≠ hd by omega), if_neg (show k ≠ d by omega)]
      · rcases List.mem_cons.1 hd' with rfl | q
        · exact hdl
        · rw [← n2]; exact m6 d' q
    · simp at hr
  | .ptr (.b d (n + 1)) :: r, v :: vs, _, _, _, _, _, _, _, _, _, _, hr, _, _ => by simp [capsP] at hr
  | [], _ :: _, _, _, _, _, _, _, _, _, _, h, _, _, _ => by simp [RepCaps] at h
  | .w _ :: _, [], _, _, _, _, _, _, _, _, _, h, _, _, _ => by simp [RepCaps] at h
  | .a _ :: _, [], _, _, _, _, _, _, _, _, _, h, _, _, _ => by simp [RepCaps] at h
  | .ptr (.b _ _) :: _, [], _, _, _, _, _, _, _, _, _, h, _, _, _ => by simp [RepCaps] at h
  | .ptr (.r _) :: _, _, _, _, _, _, _, _, _, _, _, h, _, _, _ => by simp [RepCaps] at h
  | .ptr (.e _ _ _ _ _) :: _, _, _, _, _, _, _, _, _, _, _, h, _, _, _ => by simp [RepCaps] at h
  | .u :: _, _, _, _, _, _, _, _, _, _, _, h, _, _, _ => by simp [RepCaps] at h
  | .t _ :: _, _, _, _, _, _, _, _, _, _, _, h, _, _, _ => by simp [RepCaps] at h
  | .box _ :: _, _, _, _, _, _, _, _, _, _, _, h, _, _, _ => by simp [RepCaps] at h
  | .fp _ :: _, _, _, _, _, _, _, _, _, _, _, _, hr, _, _ => by simp [capsP] at hr
  | .al _ _ _ :: _, _, _, _, _, _, _, _, _, _, _, h, _, _, _ => by simp [RepCaps] at h
  | .sv _ _ _ _ :: _, _, _, _, _, _, _, _, _, _, _, h, _, _, _ => by simp [RepCaps] at h
  | .clo _ _ :: _, _, _, _, _, _, _, _, _, _, _, h, _, _, _ => by simp [RepCaps] at h
  | .mp _ :: _, _, _, _, _, _, _, _, _, _, _, h, _, _, _ => by simp [RepCaps] at h
  | .it _ _ :: _, _, _, _, _, _, _, _, _, _, _, h, _, _, _ => by simp [RepCaps] at h
  | .ln _ :: _, _, _, _, _, _, _, _, _, _, _, h, _, _, _ => by simp [RepCaps] at h
theorem lent_append : ∀ {as bs : List AV} {vs us : List Value} {ls ms : List Nat}, LentIs vals as vs ls → LentIs vals bs us ms → LentIs vals (as ++ bs) (vs ++ us) (ls ++ ms)
  | [], bs, vs, us, ls, ms, h, h2 => by
    cases vs <;> cases ls <;> first | exact h2 | (simp [LentIs] at h)
  | A :: as, bs, vs, us, ls, ms, h, h2 => by
    cases vs with
    | nil => cases A <;> simp [LentIs] at h
    | cons v vs =>
      by_cases hA : isBox A = true
      · cases A <;> simp [isBox] at hA
        cases ls with
        | nil => exact h.elim
        | cons d ds => exact ⟨h.1, lent_append h.2 h2⟩
      · have h3 : LentIs vals as vs ls := by cases A <;> simp [isBox] at hA <;> cases ls <;> exact h
        exact lent_no (by simpa using hA) (lent_append h3 h2)
theorem argsOk_append {as bs : List AV} {vs us : List Value} {T : Nat → BSet} (h1 : ArgsOk w Fz as vs T) (h2 : ArgsOk w Fz bs us (fun j => T (as.length + j))) : ArgsOk w Fz (as ++ bs) (vs ++ us) T := by
  refine ⟨by simp [h1.1, h2.1], fun j A v hA hv => ?_⟩
  rw [List.getElem?_append] at hA hv
  rw [h1.1] at hv
  split at hA
  · rename_i hj; rw [if_pos hj] at hv; exact h1.2 j A v hA hv
  · rename_i hj
    rw [if_neg hj] at hv
    have := h2.2 _ A v hA hv
    dsimp only at this
    rw [show as.length + (j - as.length) = j by omega] at this
    exact this
theorem sound_callv {c : Call} {t : Nat} {H : List Nat} {ts : List TypeId} {l : List (Od × Bool)} (hcall : ∀ f as r, callf f as = some r → FnOk P f ∧ CallOk I P f as r) (ho : o.op = .call c) (hc : c.callee = .value (.tmp t)) (hl : argsO P H 0 ts c.args.toList = some l) : Sound I P callf o (.callv (.t t) l) := by
  intro B K σ σ' a w u hI hr Kt Q hk
  obtain ⟨hdf, hn, Fz, S, h, hfree⟩ := hI
  simp only [opP, Pg.run_get] at hr
  split at hr
  case h_2 => simp at hr
  rename_i f caps hclo
  have hrep := h.rep t
  rw [hclo] at hrep
  obtain ⟨cvs, ev, hcaps⟩ := hrep
  obtain ⟨⟨as, ls⟩, σ1, g1, r1⟩ := Pg.bind_some hr
  obtain ⟨⟨cs, ms⟩, σ2, g2, r2⟩ := Pg.bind_some r1
  obtain ⟨e1, e2⟩ := argsO_ok (a := a) hl
  obtain ⟨hl1, F1, S1, m1, m2, m3, m4, m5, m6⟩ := (argsP_ok (hd := σ.length) (ys := c.args.toList.map a.eval) h (by simpa using e1) e2 g1 (Nat.le_refl _) hfree).out
  have hlen : as.length = l.length := by have := m3.1; rw [List.length_map] at this; omega
  have hcaps1 : RepCaps (valsOf a) w F1 S K t caps cvs := hcaps.keep m2 (fun _ _ => rfl) fun h' _ => Held.same _ _ _ rfl (fun b hb => .inl hb) (fun _ _ => rfl)
  obtain ⟨hl2, F2, S2, n1, n2, n3, n4, n5, n6⟩ := (capsP_ok (hd := σ.length + as.length) m1 hcaps1 g2 (by omega) (fun k hk b hb => by
    rw [m4 k (by omega) (.inr (by omega))] at hb; exact hfree k (by omega) b hb)).out
  have hargs : ArgsOk w F2 (as ++ cs) (c.args.toList.map a.eval ++ cvs) (fun j => S2 (σ2.length + j)) := by
    rw [hl2, hl1]
    refine argsOk_append ⟨m3.1, fun j A v hA hv => ?_⟩ ?_
    · have hj := (List.getElem?_eq_some_iff.1 hA).1
      dsimp only
      rw [n4 (σ.length + j) (by omega) (.inl (by omega))]
      exact (m3.2 j A v hA hv).keep n2 (fun _ _ => rfl) (fun _ q => q)
    · have : (fun j => S2 (σ.length + (as.length + j))) = fun j => S2 (σ.length + as.length + j) := by funext j; congr 1; omega
      rw [this]; exact n3
  obtain ⟨hfn, hco⟩ := callP_ok (Kt := Kt) (Q := Q) hcall hdf (hn.trans (hl2.trans hl1).symm) n1 hargs (lent_append m5 n5) (fun d hd => by
    rw [hl2, hl1]
    rcases List.mem_append.1 hd with q | q
    · exact m6 d q
    · rw [← hl1]; exact n6 d q) r2 hk
  have hrun : (execOp a.eval o).run P w = .ok (.enter f (c.args.toList.map a.eval ++ cvs).toArray) w := by
    have he2 : ((#[] : Array Value) ++ c.args.map a.eval ++ cvs.toArray) = (c.args.toList.map a.eval ++ cvs).toArray := by
      apply Array.ext'; simp
    have hev : a.eval (.tmp t) = .func (.func f) #[] cvs.toArray := ev
    simp only [execOp, ho, resolve, hc, hev, Deferred.ofValue, Sem.run_bind, Sem.run_pure, Result.andThen_ok, invoke]
    have := run_enter (P := P) (w := w) (args := (#[] : Array Value) ++ c.args.map a.eval ++ cvs.toArray) hfn
    rw [he2] at this
    rw [← he2] at this ⊢
    exact this
  unfold Oper.wp
  rw [hrun]
  exact hco
theorem capsM_ok {d : Nat} : ∀ {caps : List Operand} {l : List Od} {cs : List AV} {σ σ' : List AV}, capsO caps = some l → St B K σ (valsOf a) w Fz S → (opP.capsM l).run σ = some (cs, σ') → capsOn K d cs = true →
    σ' = σ ∧ RepCaps (valsOf a) w Fz S K d cs (caps.map a.eval) ∧ ∀ g, (AV.clo 0 cs).on g = true → g < σ.length
  | [], l, cs, σ, σ', hl, h, hr, hc => by
    simp only [capsO, Option.some.injEq] at hl
    subst hl
    simp only [opP.capsM, Pg.run_ret, Option.some.injEq, Prod.mk.injEq] at hr
    obtain ⟨rfl, rfl⟩ := hr
    exact ⟨rfl, trivial, fun g hg => by simp [AV.on] at hg⟩
  | .tmp i :: caps, l, cs, σ, σ', hl, h, hr, hc => by
    simp only [capsO] at hl
    split at hl
    case h_2 => simp at hl
    rename_i l' hl'
    simp only [Option.some.injEq] at hl
    subst hl
    simp only [opP.capsM, Pg.run_get] at hr
    have hrep := h.rep i
    have hol := h.hol i
    split at hr
    · rename_i bs hb
      obtain ⟨cs', σ1, g1, r1⟩ := Pg.bind_some hr
      simp only [Pg.run_ret, Option.some.injEq, Prod.mk.injEq] at r1
      obtain ⟨rfl, rfl⟩ := r1
      simp only [capsOn, Bool.and_eq_true, bne_iff_ne, ne_eq] at hc
      obtain ⟨rfl, e2, e3⟩ := capsM_ok hl' h g1 hc.2
      have hil : i < σ1.length := lt_of_getD (by rw [hb]; simp)
      rw [hb] at hrep
      obtain ⟨b, vs, p1, _⟩ := hrep
      refine ⟨rfl, ⟨⟨⟨b, 0, none⟩, ⟨b, p1, rfl⟩, p1⟩, ⟨hc.1.1, hc.1.2⟩, e2⟩, fun g hg => ?_⟩
      simp only [AV.on, List.any_cons, Bool.or_eq_true, Pl.holder, beq_iff_eq] at hg
      rcases hg with rfl | hg
      · exact hil
      · exact e3 g hg
    · obtain ⟨cs', σ1, g1, r1⟩ := Pg.bind_some hr
      simp only [Pg.run_ret, Option.some.injEq, Prod.mk.injEq] at r1
      obtain ⟨rfl, rfl⟩ := r1
      cases hA : σ.getD i .u with
      | w c =>
        rw [hA] at hc hrep
        simp only [capsOn, Bool.and_eq_true] at hc
        obtain ⟨e1, e2, e3⟩ := capsM_ok hl' h g1 hc.2
        refine ⟨e1, ⟨plain_w hrep hc.1 _, hc.1, e2⟩, fun g hg => e3 g (by simpa [AV.on] using hg)⟩
      | a bs =>
        rw [hA] at hc hrep
        simp only [capsOn, Bool.and_eq_true] at hc
        obtain ⟨e1, e2, e3⟩ := capsM_ok hl' h g1 hc.2
        obtain ⟨vs, q1, q2⟩ := hrep
        refine ⟨e1, ⟨⟨vs, q1, q2.plain hc.1⟩, hc.1, e2⟩, fun g hg => e3 g (by simpa [AV.on] using hg)⟩
      | ptr pl =>
        rw [hA] at hc hrep hol
        cases pl with
        | b g0 off =>
          cases off with
          | zero =>
            simp only [capsOn, Bool.and_eq_true, bne_iff_ne, ne_eq] at hc
            obtain ⟨e1, e2, e3⟩ := capsM_ok hl' h g1 hc.2
            refine ⟨e1, ⟨hrep.1, ⟨hc.1.1, hc.1.2⟩, e2⟩, fun g hg => ?_⟩
            simp only [AV.on, List.any_cons, Bool.or_eq_true] at hg
            rcases hg with hg | hg
            · exact hol g hg
            · exact e3 g hg
          | succ n => simp [capsOn] at hc
        | r d' => simp [capsOn] at hc
        | e d' c z j off => simp [capsOn] at hc
      | fp bs =>
        rw [hA] at hc hrep
        obtain ⟨e1, e2, e3⟩ := capsM_ok hl' h g1 (by simpa [capsOn] using hc)
        exact ⟨e1, ⟨hrep, e2⟩, fun g hg => e3 g (by simpa [AV.on] using hg)⟩
      | _ => rw [hA] at hc; simp [capsOn] at hc
  | .const _ :: _, _, _, _, _, hl, _, _, _ => by simp [capsO] at hl
  | .global _ :: _, _, _, _, _, hl, _, _, _ => by simp [capsO] at hl
  | .func _ :: _, _, _, _, _, hl, _, _, _ => by simp [capsO] at hl
theorem sound_mkf {f : FuncId} {first caps : Array Operand} {l : List Od} (ho : o.op = .makeFunc (.func f) first caps) (hf : first.isEmpty = true) (hl : capsO caps.toList = some l) : Sound I P callf o (.mkf f l) := by
  intro B K σ σ' a w u hI hr Kt Q hk
  obtain ⟨hdf, hn, Fz, S, h, hfree⟩ := hI
  have he : first = #[] := by simpa using hf
  have hrun : (execOp a.eval o).run P w = .ok (.value (.func (.func f) #[] (caps.toList.map a.eval).toArray)) w := by
    have : caps.map a.eval = (caps.toList.map a.eval).toArray := by apply Array.ext'; simp
    simp only [execOp, ho, Sem.run_bind, Instr.makeFunc, Sem.run_pure, Result.andThen_ok, he, this]
    simp
  refine wp_value hrun (hk _ _ ?_)
  simp only [opP] at hr
  cases hd : o.dst with
  | none =>
    rw [hd] at hr
    simp only [Pg.run_ret, Option.some.injEq, Prod.mk.injEq] at hr
    obtain ⟨_, rfl⟩ := hr
    exact ⟨hdf, hn, Fz, S, h, hfree⟩
  | some d =>
    rw [hd] at hr
    simp only at hr
    obtain ⟨cs, σ1, g1, r1⟩ := Pg.bind_some hr
    split at r1
    · rename_i hc
      obtain ⟨rfl, e2, e3⟩ := capsM_ok hl h g1 hc
      exact fin_clo h hdf hn hfree r1 e2 (fun g hg => e3 g (by simpa [AV.on] using hg))
    · simp at r1
end
end Go.Pv
end

section
namespace Go.Pv
open Go.RowKit
set_option linter.unusedVariables false
set_option linter.unusedSimpArgs false
section
variable {P : Program} {I : World → Prop} {o : Oper} {callf : Nat → List AV → Option CRes}
theorem map_some {α β : Type} {f : α → β} {x : Option α} {y : β} (h : x.map f = some y) : ∃ z, x = some z ∧ f z = y := Option.map_eq_some_iff.1 h
theorem list1 {α : Type} {l : Array α} {x : α} (h : l.toList = [x]) : l = #[x] := Array.ext' h
theorem list2 {α : Type} {l : Array α} {x y : α} (h : l.toList = [x, y]) : l = #[x, y] := Array.ext' h
set_option maxHeartbeats 1000000 in
theorem op_sound {H : List Nat} {io : IOp} (hcall : ∀ f as r, callf f as = some r → FnOk P f ∧ CallOk I P f as r) (hmk : LibOk P) (h : opOf P H o = some io) : Sound I P callf o io := by
  unfold opOf at h
  split at h
  case h_1 x ho =>
    split at h
    · obtain ⟨z, h1, rfl⟩ := map_some h; exact sound_frz ho h1
    · split at h
      · obtain ⟨z, h1, rfl⟩ := map_some h; exact sound_movl ho h1
      · split at h
        · obtain ⟨z, h1, rfl⟩ := map_some h; exact sound_movk ho h1
        · obtain ⟨z, h1, rfl⟩ := map_some h; exact sound_mov ho h1
  case h_2 x ho =>
    split at h
    · simp only [Option.some.injEq] at h; subst h; exact sound_nop ho
    · obtain ⟨z, h1, rfl⟩ := map_some h; exact sound_asg ho h1
  case h_3 c a b ho =>
    split at h <;> simp at h
    subst h
    exact sound_pick ho ‹_› ‹_› ‹_›
  case h_4 e ho => obtain ⟨z, h1, rfl⟩ := map_some h; exact sound_alloc ho h1
  case h_5 e x ho => obtain ⟨z, h1, rfl⟩ := map_some h; exact sound_box ho h1
  case h_6 t parts ho =>
    split at h <;> (try simp only [reduceCtorEq] at h)
    rename_i fs ht
    split at h <;> (try simp only [reduceCtorEq] at h)
    rename_i z l hz hl
    split at h <;> simp only [reduceCtorEq, Option.some.injEq] at h
    rename_i hall
    subst h
    exact sound_build ho ht hz hl hall
  case h_7 t len parts ho =>
    split at h <;> (try simp only [reduceCtorEq] at h)
    rename_i e ht
    split at h <;> (try simp only [reduceCtorEq] at h)
    rename_i z l hz hl
    split at h <;> simp only [reduceCtorEq, Option.some.injEq] at h
    rename_i hc
    subst h
    exact sound_bslice ho ht hz hl hc.1 hc.2.1 hc.2.2
  case h_8 t x ho =>
    split at h <;> (try simp only [reduceCtorEq] at h)
    rename_i ox hx
    split at h <;> (try simp only [reduceCtorEq] at h)
    rename_i hc
    split at h <;> simp only [Option.some.injEq] at h <;> subst h
    · exact sound_loadf ho hx hc.1 hc.2
    · exact sound_load ho hx hc.1 hc.2
  case h_9 t x v ho =>
    split at h <;> (try simp only [reduceCtorEq] at h)
    rename_i ox ov hx hv
    split at h <;> simp only [reduceCtorEq, Option.some.injEq] at h
    rename_i hc
    subst h
    simp only [Bool.and_eq_true, Option.isNone_iff_eq_none] at hc
    exact sound_store ho hc.2 hx hv hc.1
  case h_10 x ho => obtain ⟨z, h1, rfl⟩ := map_some h; exact sound_nilchk ho h1
  case h_11 op t x y u ho =>
    split at h
    case h_1 ht =>
      split at h <;> simp only [reduceCtorEq, Option.some.injEq] at h
      subst h
      exact sound_bin ho ‹_› ‹_›
    case h_2 ht =>
      split at h <;> simp only [reduceCtorEq, Option.some.injEq] at h
      subst h
      exact sound_bin ho ‹_› ‹_›
    case h_3 ht =>
      split at h <;> simp only [reduceCtorEq, Option.some.injEq] at h
      · subst h; exact sound_beq (neg := false) ho rfl ht ‹_› ‹_›
      · subst h; exact sound_beq (neg := true) ho rfl ht ‹_› ‹_›
    case h_4 ht =>
      split at h <;> (try simp only [reduceCtorEq] at h)
      · split at h <;> simp only [reduceCtorEq, Option.some.injEq] at h
        rename_i hg
        subst h; exact sound_eqs (neg := false) ho rfl ht ‹_› ‹_› ‹_› hg
      · split at h <;> simp only [reduceCtorEq, Option.some.injEq] at h
        rename_i hg
        subst h; exact sound_eqs (neg := true) ho rfl ht ‹_› ‹_› ‹_› hg
    all_goals simp at h
  case h_12 op t x ho => obtain ⟨z, h1, rfl⟩ := map_some h; exact sound_un ho h1
  case h_13 s d x ho =>
    split at h
    case h_1 hs hd => obtain ⟨z, h1, rfl⟩ := map_some h; exact sound_cvi ho hs hd h1
    case h_2 hs hd => obtain ⟨z, h1, rfl⟩ := map_some h; exact sound_i2s ho hs hd h1
    case h_3 hs hd => obtain ⟨z, h1, rfl⟩ := map_some h; exact sound_sid ho hs hd h1
    case h_4 hs hd =>
      split at h <;> (try simp only [reduceCtorEq] at h)
      rename_i hu
      obtain ⟨z, h1, rfl⟩ := map_some h; exact sound_b2s ho hs hd hu h1
    case h_5 hs hd =>
      split at h <;> (try simp only [reduceCtorEq] at h)
      rename_i hu
      simp only [Bool.and_eq_true] at hu
      obtain ⟨z, h1, rfl⟩ := map_some h; exact sound_s2b ho hs hd hu.1 h1
    all_goals simp at h
  case h_14 t x lo hi ho =>
    split at h
    case h_1 hlo hhi ht => obtain ⟨z, h1, rfl⟩ := map_some h; exact sound_sls ho ht h1 hlo hhi
    case h_2 hlo hhi ht =>
      split at h <;> (try simp only [reduceCtorEq] at h)
      rename_i hc
      simp only [Bool.and_eq_true, decide_eq_true_eq] at hc
      obtain ⟨z, h1, rfl⟩ := map_some h; exact sound_slc ho ht hc.1 hc.2 h1 hlo hhi
    all_goals simp at h
  case h_15 t x i ho =>
    split at h
    case h_1 ht hx =>
      split at h
      · split at h <;> simp only [reduceCtorEq, Option.some.injEq] at h
        rename_i hc
        subst h
        exact sound_fad ho ht ‹_› hc.1 hc.2 hx
      · simp at h
    all_goals simp at h
  case h_16 t x i ho =>
    split at h
    case h_1 ht hx =>
      split at h
      · split at h <;> simp only [reduceCtorEq, Option.some.injEq] at h
        rename_i hc
        subst h
        exact sound_fld ho ht ‹_› hc.1 hc.2 hx
      · simp at h
    all_goals simp at h
  case h_17 t x i ho =>
    split at h
    case h_1 ht hx hi =>
      split at h <;> simp only [reduceCtorEq, Option.some.injEq] at h
      rename_i hc
      subst h
      exact sound_iad ho ht hc hx hi
    all_goals simp at h
  case h_18 t x i ho =>
    split at h
    case h_1 ht hx hi => simp only [Option.some.injEq] at h; subst h; exact sound_ixs ho ht hx hi
    all_goals simp at h
  case h_19 x i ho =>
    split at h
    · obtain ⟨z, h1, rfl⟩ := map_some h; exact sound_extu ho h1
    · obtain ⟨z, h1, rfl⟩ := map_some h; exact sound_ext ho h1
  case h_20 t n c ho =>
    split at h <;> (try simp only [reduceCtorEq] at h)
    rename_i e ht
    split at h <;> (try simp only [reduceCtorEq] at h)
    rename_i z n' c' i hz hn hc hi
    split at h <;> simp only [reduceCtorEq, Option.some.injEq] at h
    rename_i hcond
    subst h
    exact sound_mks ho ht hz hi hn hc hcond.1 hcond.2
  case h_21 f first caps ho =>
    split at h <;> (try simp only [reduceCtorEq] at h)
    rename_i hf
    obtain ⟨z, h1, rfl⟩ := map_some h; exact sound_mkf ho hf h1
  case h_22 c ho =>
    obtain ⟨callee, args, argTypes⟩ := c
    split at h
    case h_1 hc =>
      simp only at hc
      subst hc
      split at h
      case h_1 ha ht =>
        simp only at ha ht
        obtain rfl := list1 ha
        obtain rfl := list1 ht
        split at h
        case h_1 hu => obtain ⟨z, h1, rfl⟩ := map_some h; exact sound_lenS ho hu h1
        case h_2 hu =>
          split at h
          · obtain ⟨z, h1, rfl⟩ := map_some h; exact sound_lenl ho hu h1
          · obtain ⟨z, h1, rfl⟩ := map_some h; exact sound_lenL ho hu h1
        all_goals simp at h
      all_goals simp at h
    case h_2 hc =>
      simp only at hc
      subst hc
      split at h
      case h_1 ha ht =>
        simp only at ha ht
        obtain rfl := list2 ha
        obtain rfl := list2 ht
        split at h
        case h_1 e e' hu hu' =>
          split at h <;> (try simp only [reduceCtorEq] at h)
          rename_i x' y' z i hx hy hz hi
          split at h <;> simp only [reduceCtorEq, Option.some.injEq] at h
          rename_i hcond
          subst h
          exact sound_app ho hu hu' hx hy hz hi hcond.1 hcond.2.1 hcond.2.2
        case h_2 e hu hu' =>
          split at h <;> (try simp only [reduceCtorEq] at h)
          rename_i x' y' z i hx hy hz hi
          split at h <;> simp only [reduceCtorEq, Option.some.injEq] at h
          rename_i hcond
          subst h
          exact sound_apps ho hu hu' hx hy hz hi hcond.2.1 hcond.2.2.1 hcond.2.2.2
        all_goals simp at h
      all_goals simp at h
    case h_3 hc =>
      simp only at hc
      subst hc
      split at h
      case h_1 ha =>
        simp only at ha
        obtain rfl := list2 ha
        split at h <;> simp only [reduceCtorEq, Option.some.injEq] at h
        subst h
        exact sound_mm (mx := true) ho ‹_› ‹_›
      all_goals simp at h
    case h_4 hc =>
      simp only at hc
      subst hc
      split at h
      case h_1 ha =>
        simp only at ha
        obtain rfl := list2 ha
        split at h <;> simp only [reduceCtorEq, Option.some.injEq] at h
        subst h
        exact sound_mm (mx := false) ho ‹_› ‹_›
      all_goals simp at h
    case h_5 f hc =>
      simp only at hc
      split at h <;> (try simp only [reduceCtorEq] at h)
      split at h <;> (try simp only [reduceCtorEq] at h)
      rename_i fn hfn hcnd
      split at h
      · split at h
        · rename_i gf hgf
          obtain ⟨z, h1, rfl⟩ := map_some h
          exact sound_iter hmk.makers ho hc hgf h1 fun F hF => by
            have := argsO_len h1
            rw [hfn] at hF
            cases hF
            simpa using this
        · simp at h
      · split at h
        · split at h
          · rename_i z b t x hgf htl hal
            obtain ⟨z', h1, rfl⟩ := map_some h
            exact sound_cln hmk.cloners ho hc hgf h1 hal
          · simp at h
        · obtain ⟨z, h1, rfl⟩ := map_some h
          exact sound_call hcall ho hc h1
    case h_6 t hc =>
      simp only at hc
      obtain ⟨z, h1, rfl⟩ := map_some h
      exact sound_callv hcall ho hc h1
    all_goals simp at h
  case h_23 t r ho => exact sound_mkmOf ho h
  case h_24 t m k v ho => exact sound_mupOf (.inl ho) h
  case h_25 t m k v ho => exact sound_mupOf (.inr ho) h
  case h_26 t m k c ho => exact sound_mlkOf ho h
  case h_27 t x ho =>
    split at h
    · rename_i hu; obtain ⟨z, h1, rfl⟩ := map_some h; exact sound_rng ho hu h1
    · simp at h
  case h_28 x ho => obtain ⟨z, h1, rfl⟩ := map_some h; exact sound_nxt ho h1
  all_goals simp at h
end
end Go.Pv
end

section
namespace Go.Pv
open Go.RowKit
set_option linter.unusedVariables false
set_option linter.unusedSimpArgs false
def GoodF (I : World → Prop) (P : Program) (callf : Nat → List AV → Option CRes) : Prop := (∀ f as r, callf f as = some r → FnOk P f ∧ CallOk I P f as r) ∧ LibOk P
structure InvK {I : World → Prop} (B : Base I) (K : Kills) (G : List Nat) (v0 : Nat → Option Value) (σ : List AV) (a : Act) (w : World) : Prop where
  inv : Inv B K σ a w
  keep : ∀ t ∈ G, a.tmps[t]? = v0 t
section
variable {G : List Nat} {v0 : Nat → Option Value} {P : Program} {I : World → Prop} {B : Base I} {K : Kills} {σ σ' σ1 : List AV} {w w' : World} {a : Act} {o : Oper} {Kt : Act → World → Prop} {Q : Exit → Act → World → Prop} {callf : Nat → List AV → Option CRes} {ops : Array Oper}
theorem Inv.bool {t : Nat} {b : Bool} (h : Inv B K σ a w) (ht : σ.getD t .u = .w (.p (.bool b))) : a.tmps[t]? = some (.bool b) := by
  obtain ⟨h1, h2, Fz, S, h3, h4⟩ := h
  have htl : t < σ.length := lt_of_getD (by rw [ht]; simp)
  have hr := h3.rep t
  rw [ht] at hr
  have hv : valsOf a t = .bool b := by
    cases hr with
    | p hp => exact repP_bool hp
  simp only [valsOf, Array.getD_eq_getD_getElem?] at hv
  rw [Array.getElem?_eq_getElem (by omega)] at hv ⊢
  simpa using hv
theorem Inv.undef {t : Nat} (h : Inv B K σ a w) (ht : σ.getD t .u = .t []) : a.tmps[t]? = some (.tuple #[]) := by
  obtain ⟨h1, h2, Fz, S, h3, h4⟩ := h
  have htl : t < σ.length := lt_of_getD (by rw [ht]; simp)
  have hr := h3.rep t
  rw [ht] at hr
  have hv : valsOf a t = .tuple #[] := by
    obtain ⟨us, e, hu⟩ := hr
    cases us with
    | nil => exact e
    | cons u us => exact hu.elim
  simp only [valsOf, Array.getD_eq_getD_getElem?] at hv
  rw [Array.getElem?_eq_getElem (by omega)] at hv ⊢
  simpa using hv
theorem put_keep {dst : Option Nat} {x : Value} (hs : sparesDst G dst = true) (h : ∀ t ∈ G, a.tmps[t]? = v0 t) : ∀ t ∈ G, (a.put dst x).tmps[t]? = v0 t := by
  intro t ht
  cases dst with
  | none => exact h t ht
  | some d =>
    have hne : d ≠ t := fun e => by subst e; simp [sparesDst] at hs; exact hs ht
    simp only [Act.put]
    rw [Array.getElem?_setIfInBounds_ne hne]
    exact h t ht
theorem wp_keep (hs : sparesDst G o.dst = true) (h : ∀ t ∈ G, a.tmps[t]? = v0 t) (hw : o.wp P a w Kt Q) : o.wp P a w (fun a' w' => Kt a' w' ∧ ∀ t ∈ G, a'.tmps[t]? = v0 t) Q := by
  unfold Oper.wp at *
  generalize (execOp a.eval o).run P w = r at *
  cases r with
  | ok n w' =>
    cases n <;> simp only [Oper.upon] at hw ⊢
    case value v => exact ⟨hw, put_keep hs h⟩
    case skip => exact ⟨hw, put_keep hs h⟩
    case defer d => exact ⟨hw, put_keep (a := { a with defers := d :: a.defers }) hs h⟩
    case enter f args => exact Calls.mono hw (fun e w'' he => by cases e <;> first | exact ⟨he, put_keep hs h⟩ | exact he)
    case row row args => exact Rows.mono hw (fun _ _ he => ⟨he, put_keep hs h⟩)
  | halt x w' => cases x <;> simp only [Oper.upon] at hw ⊢ <;> exact hw
theorem oper_sound {H : List Nat} {io : IOper} {i : Nat} {u : Unit} (hg : GoodF I P callf) (hi : ops[i]? = some o) (ho : operOf P G H ops o = some io) (h : InvK B K G v0 σ a w) (hr : (operP K callf io).run σ = some (u, σ')) (hk : ∀ a' w', InvK B K G v0 σ' a' w' → Kt a' w') :
    wpOp P ops Q i Kt a w := by
  unfold wpOp
  rw [hi]
  simp only
  unfold operOf at ho
  split at ho
  · simp at ho
  rename_i op hop
  split at ho
  case isFalse => simp at ho
  rename_i hsp
  obtain ⟨h, hkeep⟩ := h
  split at ho
  · rename_i hgd
    simp only [Option.some.injEq] at ho
    subst ho
    rw [if_pos (by simp [Region.wanted, hgd])]
    exact .inl (Oper.wp_mono (fun a' w' q => hk _ _ ⟨q.1, q.2⟩) (wp_keep hsp hkeep (op_sound hg.1 hg.2 hop h hr fun a' w' q => q)))
  · rename_i j want hgd
    split at ho
    · rename_i t ht
      simp only [Option.some.injEq] at ho
      subst ho
      simp only [operP, Pg.run_get] at hr
      split at hr
      · rename_i b hb
        have hbo := h.bool hb
        have hy : yielded ops a.tmps j = some b := by simp [yielded, ht, hbo]
        split at hr
        · rename_i hbw
          rw [if_pos (by simp [Region.wanted, hgd, hy]; simpa using hbw)]
          exact .inl (Oper.wp_mono (fun a' w' q => hk _ _ ⟨q.1, q.2⟩) (wp_keep hsp hkeep (op_sound hg.1 hg.2 hop h hr fun a' w' q => q)))
        · rename_i hbw
          rw [if_neg (by simp [Region.wanted, hgd, hy]; simpa using hbw)]
          refine hk _ _ ⟨?_, put_keep hsp hkeep⟩
          obtain ⟨h1, h2, Fz, S, h3, h4⟩ := h
          exact fin (v := .t []) (hd := σ.length) h3 h1 h2 (Nat.le_refl _) (Inv.free h4 _) hr (fun d e => ⟨[], rfl, trivial⟩) (fun y hy => by simp [AV.on] at hy)
      · rename_i hb
        have hbo := h.undef hb
        have hy : yielded ops a.tmps j = none := by simp [yielded, ht, hbo]
        rw [if_neg (by simp [Region.wanted, hgd, hy])]
        refine hk _ _ ⟨?_, put_keep hsp hkeep⟩
        obtain ⟨h1, h2, Fz, S, h3, h4⟩ := h
        exact fin (v := .t []) (hd := σ.length) h3 h1 h2 (Nat.le_refl _) (Inv.free h4 _) hr (fun d e => ⟨[], rfl, trivial⟩) (fun y hy => by simp [AV.on] at hy)
      · simp at hr
    · simp at ho
theorem opersOf_get {H : Hints} {id : Nat} : ∀ {os : List Oper} {k : Nat} {ios : List IOper}, opersOf P G H id ops k os = some ios → ios.length = os.length ∧ ∀ (j : Nat) (o : Oper), os[j]? = some o → ∃ io, ios[j]? = some io ∧ operOf P G (hintAt H id (k + j)) ops o = some io
  | [], k, ios, h => by simp [opersOf] at h; subst h; simp
  | o :: os, k, ios, h => by
    simp only [opersOf] at h
    split at h
    · rename_i x l hx hl
      simp only [Option.some.injEq] at h
      subst h
      obtain ⟨h1, h2⟩ := opersOf_get hl
      refine ⟨by simp [h1], fun j o' hj => ?_⟩
      cases j with
      | zero => simp at hj; subst hj; exact ⟨x, rfl, hx⟩
      | succ j => obtain ⟨io, e1, e2⟩ := h2 j o' (by simpa using hj); exact ⟨io, by simpa using e1, by rw [show k + (j + 1) = k + 1 + j by omega]; exact e2⟩
    · simp at h
theorem ops_sound {H : Hints} {id : Nat} {all : List IOper} (hg : GoodF I P callf) (hall : opersOf P G H id ops 0 ops.toList = some all) :
    ∀ (ios : List IOper) (k : Nat) (σ : List AV) (a : Act) (w : World), ios = all.drop k → InvK B K G v0 σ a w → runOps K callf ios σ = some σ' → (∀ a' w', InvK B K G v0 σ' a' w' → Q .normal a' w') → wpOps P ops Q (List.range' k ios.length) a w
  | [], k, σ, a, w, _, h, hr, hk => by
    simp only [runOps, Option.some.injEq] at hr
    subst hr
    exact hk _ _ h
  | io :: ios, k, σ, a, w, hd, h, hr, hk => by
    obtain ⟨h1, h2⟩ := opersOf_get hall
    simp only [runOps, Option.bind_eq_some_iff] at hr
    obtain ⟨⟨u, σ1⟩, hr1, hr2⟩ := hr
    have hio : all[k]? = some io := by
      have : (all.drop k)[0]? = some io := by rw [← hd]; rfl
      simpa using this
    have hkl : k < ops.size := by
      have := (List.getElem?_eq_some_iff.1 hio).1
      simpa [h1] using this
    obtain ⟨io', e1, e2⟩ := h2 k ops[k] (by simp [hkl])
    obtain rfl : io = io' := by rw [hio] at e1; simpa using e1
    simp only [List.length_cons, List.range'_succ]
    rw [wpOps_cons]
    exact oper_sound hg (by simp [hkl]) e2 h hr1 fun a' w' hi => ops_sound hg hall ios (k + 1) σ1 a' w' (by rw [← List.drop_drop, ← hd]; simp) hi hr2 hk
theorem region_sound {H : Hints} {id : Nat} {ios : List IOper} (hg : GoodF I P callf) (hall : opersOf P G H id ops 0 ops.toList = some ios) (h : InvK B K G v0 σ a w) (hr : runOps K callf ios σ = some σ') (hk : ∀ a' w', InvK B K G v0 σ' a' w' → Q .normal a' w') :
    (Code.region id ops false).wp P Q a w := by
  refine wp_region ?_
  have := ops_sound hg hall ios 0 σ a w (by simp) h hr hk
  rw [(opersOf_get hall).1] at this
  simpa [List.range_eq_range'] using this
end
end Go.Pv
end

section
namespace Go.Pv
open Go.RowKit
set_option linter.unusedVariables false
set_option linter.unusedSimpArgs false
theorem ext_getD {σ τ : List AV} (hl : τ.length = σ.length) (h : ∀ t, τ.getD t .u = σ.getD t .u) : τ = σ := by
  refine List.ext_getElem hl fun t h1 h2 => ?_
  have := h t
  simpa [List.getD_eq_getElem?_getD, List.getElem?_eq_getElem h1, List.getElem?_eq_getElem h2] using this
def Lg.app (L : Lg) (t : Nat) (v : AV) : AV := match L.W.lookup t with | some w => w | none => if L.kc t v then .u else v
theorem hasKey_lookup {t : Nat} : ∀ {l : List (Nat × AV)}, hasKey t l = (l.lookup t).isSome
  | [] => rfl
  | p :: l => by
    simp only [hasKey, List.lookup]
    by_cases h : p.1 = t
    · subst h; simp
    · have h1 : (p.1 == t) = false := by simpa using h
      have h2 : (t == p.1) = false := by simpa using fun e => h e.symm
      rw [h1, h2, Bool.false_or]; exact hasKey_lookup
theorem lookup_ki {t : Nat} (c : AV → Bool) (ts : List Nat) : ∀ (l : List (Nat × AV)), (l.map fun p => (p.1, if ts.contains p.1 && c p.2 then AV.u else p.2)).lookup t = (l.lookup t).map fun v => if ts.contains t && c v then .u else v
  | [] => rfl
  | p :: l => by
    simp only [List.map_cons, List.lookup]
    by_cases h : t = p.1
    · subst h; simp
    · have h1 : (t == p.1) = false := by simpa using h
      rw [h1]; exact lookup_ki c ts l
theorem mem_lookup {t : Nat} {v : AV} : ∀ {l : List (Nat × AV)}, l.lookup t = some v → (t, v) ∈ l
  | [], h => by simp at h
  | p :: l, h => by
    simp only [List.lookup] at h
    split at h
    · rename_i e
      simp at e h
      subst e; subst h; exact List.mem_cons_self
    · exact List.mem_cons_of_mem _ (mem_lookup h)
theorem mem_key {t : Nat} {v : AV} : ∀ {l : List (Nat × AV)}, (t, v) ∈ l → hasKey t l = true
  | [], h => by simp at h
  | p :: l, h => by
    rcases List.mem_cons.1 h with rfl | h
    · simp [hasKey]
    · simp [hasKey, mem_key h]
def At (L : Lg) (σ0 σ : List AV) : Prop := σ.length = σ0.length ∧ (∀ t, σ.getD t .u = L.app t (σ0.getD t .u)) ∧ (∀ p ∈ L.R, σ0.getD p.1 .u = p.2) ∧ (∀ p ∈ L.W, p.1 < σ0.length) ∧ (∀ p ∈ L.RL, (σ0.getD p.1 .u).rowLen = p.2) ∧ ∀ t w, L.W.lookup t = some w → L.full t = false → w.rowLen = (σ0.getD t .u).rowLen
theorem At.emp (σ : List AV) : At .emp σ σ := ⟨rfl, fun t => by simp [Lg.app, Lg.emp, Lg.kc], by simp [Lg.emp], by simp [Lg.emp], by simp [Lg.emp], by simp [Lg.emp]⟩
def Rds (L : Lg) (σ : List AV) : Prop := (∀ p ∈ L.R, σ.getD p.1 .u = p.2) ∧ ∀ p ∈ L.RL, (σ.getD p.1 .u).rowLen = p.2
def noU (L : Lg) : Prop := (∀ p ∈ L.R, p.2.isU = false) ∧ ∀ p ∈ L.RL, p.2.isSome = true
theorem touch_kc {L : Lg} {t : Nat} (h : L.touch t = false) (v : AV) : L.kc t v = false := by
  simp only [Lg.touch, List.any_eq_false, Bool.not_eq_true] at h
  simp only [Lg.kc, List.any_eq_false, Bool.and_eq_true, not_and, Bool.not_eq_true]
  intro k hk hc
  rw [h k hk] at hc; simp at hc
theorem full_touch {L : Lg} {t : Nat} (h : L.full t = false) : L.FW.contains t = false ∧ L.touch t = false := by
  simpa only [Lg.full, Bool.or_eq_false_iff] using h
theorem rd_R {L : Lg} {t : Nat} {v : AV} {q : Nat × AV} (h : q ∈ L.R) : q ∈ (L.rd t v).R := by
  unfold Lg.rd; split
  · exact h
  · exact List.mem_cons_of_mem _ h
theorem rl_R {L : Lg} {t : Nat} {v : AV} {q : Nat × AV} (h : q ∈ L.R) : q ∈ (L.rl t v).R := by
  unfold Lg.rl; split
  · exact rd_R h
  · split <;> exact h
theorem rd_RL {L : Lg} {t : Nat} {v : AV} : (L.rd t v).RL = L.RL := by unfold Lg.rd; split <;> rfl
theorem rl_RL {L : Lg} {t : Nat} {v : AV} {q : Nat × Option (Bool × Nat)} (h : q ∈ L.RL) : q ∈ (L.rl t v).RL := by
  unfold Lg.rl; split
  · rw [rd_RL]; exact h
  · split
    · exact h
    · exact List.mem_cons_of_mem _ h
theorem rd_rest (L : Lg) (t : Nat) (v : AV) : (L.rd t v).W = L.W ∧ (L.rd t v).Kl = L.Kl ∧ (L.rd t v).FW = L.FW := by unfold Lg.rd; split <;> exact ⟨rfl, rfl, rfl⟩
theorem rl_rest (L : Lg) (t : Nat) (v : AV) : (L.rl t v).W = L.W ∧ (L.rl t v).Kl = L.Kl ∧ (L.rl t v).FW = L.FW := by
  unfold Lg.rl; split
  · exact rd_rest L t v
  · split <;> exact ⟨rfl, rfl, rfl⟩
theorem log_R {α : Type} : ∀ {p : Pg α} {σ : List AV} {L : Lg}, ∀ q ∈ L.R, q ∈ (p.log σ L).R
  | .ret _, σ, L, q, h => h
  | .fail, σ, L, q, h => h
  | .get t k, σ, L, q, h => by
    simp only [Pg.log]
    exact log_R q (rd_R h)
  | .put t v k, σ, L, q, h => by
    simp only [Pg.log]
    refine log_R q ?_
    split <;> exact h
  | .kill c ts k, σ, L, q, h => log_R (p := k) q h
  | .getl t k, σ, L, q, h => by
    simp only [Pg.log]
    exact log_R q (rl_R h)
  | .pute t v k, σ, L, q, h => by
    simp only [Pg.log]
    split
    · exact log_R q (rl_R (L := L) h)
    · exact h
theorem log_RL {α : Type} : ∀ {p : Pg α} {σ : List AV} {L : Lg}, ∀ q ∈ L.RL, q ∈ (p.log σ L).RL
  | .ret _, σ, L, q, h => h
  | .fail, σ, L, q, h => h
  | .get t k, σ, L, q, h => by
    simp only [Pg.log]
    exact log_RL q (by rw [rd_RL]; exact h)
  | .put t v k, σ, L, q, h => by
    simp only [Pg.log]
    refine log_RL q ?_
    split <;> exact h
  | .kill c ts k, σ, L, q, h => log_RL (p := k) q h
  | .getl t k, σ, L, q, h => by
    simp only [Pg.log]
    exact log_RL q (rl_RL h)
  | .pute t v k, σ, L, q, h => by
    simp only [Pg.log]
    split
    · exact log_RL q (rl_RL (L := L) h)
    · exact h
theorem At.put {L : Lg} {σ0 σ : List AV} {t : Nat} {v : AV} (h : At L σ0 σ) : At (if t < σ.length then L.wt t v else L) σ0 (σ.set t v) := by
  by_cases hl : t < σ.length
  · rw [if_pos hl]
    refine ⟨by simp [h.1], fun r => ?_, h.2.2.1, fun p hp => ?_, h.2.2.2.2.1, fun r w hw hf => ?_⟩
    · rw [getD_set]
      simp only [Lg.app, Lg.wt, List.lookup]
      by_cases hr : r = t
      · subst hr; simp [hl]
      · have h1 : (r == t) = false := by simpa using hr
        rw [if_neg hr, h1, h.2.1 r]; rfl
    · rcases List.mem_cons.1 hp with rfl | hp
      · rw [← h.1]; exact hl
      · exact h.2.2.2.1 p hp
    · have hc : (r == t) = false ∧ L.FW.contains r = false := by
        have := (full_touch hf).1
        simpa only [Lg.wt, List.contains_cons, Bool.or_eq_false_iff] using this
      simp only [Lg.wt, List.lookup, hc.1] at hw
      refine h.2.2.2.2.2 r w hw ?_
      have := (full_touch hf).2
      simp only [Lg.full, hc.2, Bool.false_or]
      exact this
  · rw [if_neg hl]
    have e : σ.set t v = σ := List.set_eq_of_length_le (by omega)
    rw [e]; exact h
theorem At.len {L : Lg} {σ0 σ : List AV} {t : Nat} (h : At L σ0 σ) (hf : L.full t = false) : (σ.getD t .u).rowLen = (σ0.getD t .u).rowLen := by
  rw [h.2.1 t]
  unfold Lg.app
  split
  · rename_i w hw
    exact h.2.2.2.2.2 t w hw hf
  · rw [touch_kc (full_touch hf).2]; rfl
theorem At.we {L : Lg} {σ0 σ : List AV} {t : Nat} {v : AV} (h : At L σ0 σ) (hs : sameRow v (σ.getD t .u) = true) : At (L.we t v) σ0 (σ.set t v) := by
  have hl : t < σ.length := lt_of_getD (fun e => by
    have := (sameRow_iff hs).2
    rw [e] at this; simp [AV.rowLen] at this)
  refine ⟨by simp [h.1], fun r => ?_, h.2.2.1, fun p hp => ?_, h.2.2.2.2.1, fun r w hw hf => ?_⟩
  · rw [getD_set]
    simp only [Lg.app, Lg.we, List.lookup]
    by_cases hr : r = t
    · subst hr; simp [hl]
    · have h1 : (r == t) = false := by simpa using hr
      rw [if_neg hr, h1, h.2.1 r]; rfl
  · rcases List.mem_cons.1 hp with rfl | hp
    · rw [← h.1]; exact hl
    · exact h.2.2.2.1 p hp
  · have hf' : L.full r = false := hf
    by_cases hr : r = t
    · subst hr
      simp only [Lg.we, List.lookup, beq_self_eq_true, Option.some.injEq] at hw
      subst hw
      rw [(sameRow_iff hs).1]
      exact h.len hf'
    · have h1 : (r == t) = false := by simpa using hr
      simp only [Lg.we, List.lookup, h1] at hw
      exact h.2.2.2.2.2 r w hw hf'
theorem At.kill {L : Lg} {σ0 σ : List AV} {c : AV → Bool} {ts : List Nat} (h : At L σ0 σ) : At (L.ki c ts) σ0 (killL c ts σ) := by
  refine ⟨by rw [killL_len]; exact h.1, fun r => ?_, h.2.2.1, fun p hp => ?_, h.2.2.2.2.1, fun r w hw hf => ?_⟩
  · rw [killL_get, h.2.1 r]
    have e : (L.ki c ts).W.lookup r = (L.W.lookup r).map fun v => if ts.contains r && c v then .u else v := lookup_ki c ts L.W
    have e2 : (L.ki c ts).kc r (σ0.getD r .u) = ((ts.contains r && c (σ0.getD r .u)) || L.kc r (σ0.getD r .u)) := rfl
    generalize σ0.getD r .u = s at e2 ⊢
    have h1 : ∀ o, L.W.lookup r = o → (if (ts.contains r && c (match o with | some w => w | none => if L.kc r s = true then .u else s)) = true then AV.u else (match o with | some w => w | none => if L.kc r s = true then .u else s)) = (match o.map fun v => if ts.contains r && c v then AV.u else v with | some w => w | none => if (L.ki c ts).kc r s = true then .u else s) := by
      intro o _
      cases o with
      | some w => rfl
      | none =>
        simp only [Option.map_none, e2]
        cases L.kc r s <;> simp
    have := h1 _ rfl
    rw [← e] at this
    exact this
  · simp only [Lg.ki, List.mem_map] at hp
    obtain ⟨q, hq, rfl⟩ := hp
    exact h.2.2.2.1 q hq
  · have e : (L.ki c ts).W.lookup r = (L.W.lookup r).map fun v => if ts.contains r && c v then .u else v := lookup_ki c ts L.W
    rw [e] at hw
    obtain ⟨h1, h2⟩ := full_touch hf
    have h3 : ts.contains r = false ∧ L.touch r = false := by simpa only [Lg.touch, Lg.ki, List.any_cons, Bool.or_eq_false_iff] using h2
    obtain ⟨v, hv, rfl⟩ := Option.map_eq_some_iff.1 hw
    rw [h3.1]
    refine h.2.2.2.2.2 r v hv ?_
    simp only [Lg.full, h3.2, Bool.or_false]
    exact h1
theorem At.same {L L' : Lg} {σ0 σ : List AV} (h : At L σ0 σ) (e : L'.W = L.W ∧ L'.Kl = L.Kl ∧ L'.FW = L.FW) (h1 : ∀ p ∈ L'.R, σ0.getD p.1 .u = p.2) (h2 : ∀ p ∈ L'.RL, (σ0.getD p.1 .u).rowLen = p.2) : At L' σ0 σ := by
  obtain ⟨e1, e2, e3⟩ := e
  refine ⟨h.1, fun t => ?_, h1, by rw [e1]; exact h.2.2.2.1, h2, fun t w hw hf => ?_⟩
  · rw [h.2.1 t]; simp only [Lg.app, Lg.kc, e1, e2]; rfl
  · rw [e1] at hw
    refine h.2.2.2.2.2 t w hw ?_
    simpa only [Lg.full, Lg.touch, e2, e3] using hf
theorem At.rd {L : Lg} {σ0 σ : List AV} {t : Nat} (hA : At L σ0 σ) (hu : hasKey t L.W = false → (σ.getD t .u).isU = false) : At (L.rd t (σ.getD t .u)) σ0 σ := by
  refine hA.same (rd_rest ..) (fun p hp => ?_) (by rw [rd_RL]; exact hA.2.2.2.2.1)
  unfold Lg.rd at hp
  split at hp
  · exact hA.2.2.1 p hp
  · rename_i hk
    rw [Bool.not_eq_true] at hk
    rcases List.mem_cons.1 hp with rfl | hp
    · dsimp only
      have h1 := hA.2.1 t
      have hnu := hu hk
      simp only [Lg.app] at h1
      rw [hasKey_lookup, Option.isSome_eq_false_iff, Option.isNone_iff_eq_none] at hk
      rw [hk] at h1
      simp only at h1
      split at h1
      · rw [h1] at hnu; simp [AV.isU] at hnu
      · exact h1.symm
    · exact hA.2.2.1 p hp
theorem At.rl {L : Lg} {σ0 σ : List AV} {t : Nat} (hA : At L σ0 σ) (hu : hasKey t L.W = false → L.touch t = true → (σ.getD t .u).isU = false) : At (L.rl t (σ.getD t .u)) σ0 σ := by
  unfold Lg.rl
  split
  · rename_i hk
    exact hA.rd fun q => hu q hk
  · rename_i hk
    rw [Bool.not_eq_true] at hk
    split
    · exact hA
    · rename_i hw
      rw [Bool.not_eq_true] at hw
      refine hA.same ⟨rfl, rfl, rfl⟩ hA.2.2.1 fun p hp => ?_
      rcases List.mem_cons.1 hp with rfl | hp
      · dsimp only
        have h1 := hA.2.1 t
        simp only [Lg.app] at h1
        rw [hasKey_lookup, Option.isSome_eq_false_iff, Option.isNone_iff_eq_none] at hw
        rw [hw] at h1
        simp only [touch_kc hk, Bool.false_eq_true, if_false] at h1
        rw [h1]
      · exact hA.2.2.2.2.1 p hp
theorem At.agree {L L' : Lg} {σ0 σ τ0 τ : List AV} {t : Nat} (hA : At L σ0 σ) (hT : At L τ0 τ) (h : hasKey t L.W = false → σ0.getD t .u = τ0.getD t .u) : τ.getD t .u = σ.getD t .u := by
  have h1 := hA.2.1 t
  have h2 := hT.2.1 t
  simp only [Lg.app] at h1 h2
  cases hk : L.W.lookup t with
  | some w => rw [hk] at h1 h2; rw [h1, h2]
  | none =>
    rw [hk] at h1 h2
    simp only at h1 h2
    rw [h1, h2, h (by rw [hasKey_lookup, hk]; rfl)]
theorem At.agreeL {L : Lg} {σ0 σ τ0 τ : List AV} {t : Nat} (hA : At L σ0 σ) (hT : At L τ0 τ) (h1 : hasKey t L.W = false → L.touch t = true → σ0.getD t .u = τ0.getD t .u) (h2 : hasKey t L.W = false → L.touch t = false → (σ0.getD t .u).rowLen = (τ0.getD t .u).rowLen) : (τ.getD t .u).rowLen = (σ.getD t .u).rowLen := by
  cases hw : hasKey t L.W with
  | true => rw [hA.agree (L' := L) hT fun q => by rw [hw] at q; simp at q]
  | false =>
    cases ht : L.touch t with
    | true => rw [hA.agree (L' := L) hT fun q => h1 hw ht]
    | false =>
      have e1 := hA.2.1 t
      have e2 := hT.2.1 t
      have hn : L.W.lookup t = none := by rw [hasKey_lookup] at hw; simpa using hw
      simp only [Lg.app, hn, touch_kc ht, Bool.false_eq_true, if_false] at e1 e2
      rw [e1, e2, h2 hw ht]
theorem run_log {α : Type} {x : α} : ∀ {p : Pg α} {σ0 σ σ' : List AV} {L : Lg}, p.run σ = some (x, σ') → At L σ0 σ → noU (p.log σ L) → At (p.log σ L) σ0 σ' ∧ ∀ {τ0 τ : List AV}, At L τ0 τ → τ.length = σ.length → Rds (p.log σ L) τ0 →
    ∃ τ', p.run τ = some (x, τ') ∧ p.log τ L = p.log σ L ∧ At (p.log σ L) τ0 τ'
  | .ret y, σ0, σ, σ', L, h, hA, hu => by
    simp only [Pg.run, Option.some.injEq, Prod.mk.injEq] at h
    obtain ⟨rfl, rfl⟩ := h
    exact ⟨hA, fun hT _ _ => ⟨_, rfl, rfl, hT⟩⟩
  | .fail, σ0, σ, σ', L, h, hA, hu => by simp [Pg.run] at h
  | .get t k, σ0, σ, σ', L, h, hA, hu => by
    simp only [Pg.run] at h
    simp only [Pg.log] at hu ⊢
    have hm : hasKey t L.W = false → (t, σ.getD t .u) ∈ ((k (σ.getD t .u)).log σ (L.rd t (σ.getD t .u))).R := fun hk => log_R _ (by
      unfold Lg.rd
      rw [hk]; simp)
    have hA' : At (L.rd t (σ.getD t .u)) σ0 σ := hA.rd fun hk => hu.1 _ (hm hk)
    obtain ⟨r1, r2⟩ := run_log (p := k (σ.getD t .u)) h hA' hu
    refine ⟨r1, fun {τ0 τ} hT hl hR => ?_⟩
    have e : τ.getD t .u = σ.getD t .u := hA.agree (L' := L) hT fun hk => by
      rw [hR.1 _ (hm hk), r1.2.2.1 _ (hm hk)]
    have hT' : At (L.rd t (σ.getD t .u)) τ0 τ := hT.same (rd_rest ..) (fun p hp => hR.1 p (log_R p hp)) (fun p hp => hR.2 p (log_RL p hp))
    obtain ⟨τ', a1, a2, a3⟩ := r2 hT' hl hR
    refine ⟨τ', ?_, ?_, a3⟩
    · show (k (τ.getD t .u)).run τ = _
      rw [e]; exact a1
    · show (k (τ.getD t .u)).log τ (L.rd t (τ.getD t .u)) = _
      rw [e]; exact a2
  | .put t v k, σ0, σ, σ', L, h, hA, hu => by
    simp only [Pg.run] at h
    simp only [Pg.log] at hu ⊢
    obtain ⟨r1, r2⟩ := run_log (p := k) h hA.put hu
    refine ⟨r1, fun {τ0 τ} hT hl hR => ?_⟩
    have hp := hT.put (t := t) (v := v)
    rw [hl] at hp
    obtain ⟨τ', a1, a2, a3⟩ := r2 hp (by simp [hl]) hR
    refine ⟨τ', a1, ?_, a3⟩
    show k.log (τ.set t v) (if t < τ.length then L.wt t v else L) = _
    rw [hl]; exact a2
  | .kill c ts k, σ0, σ, σ', L, h, hA, hu => by
    simp only [Pg.run] at h
    simp only [Pg.log] at hu ⊢
    obtain ⟨r1, r2⟩ := run_log (p := k) h hA.kill hu
    exact ⟨r1, fun {τ0 τ} hT hl hR => r2 hT.kill (by rw [killL_len, killL_len]; exact hl) hR⟩
  | .getl t k, σ0, σ, σ', L, h, hA, hu => by
    simp only [Pg.run] at h
    simp only [Pg.log] at hu ⊢
    have hm : hasKey t L.W = false → L.touch t = true → (t, σ.getD t .u) ∈ ((k (σ.getD t .u).rowLen).log σ (L.rl t (σ.getD t .u))).R := fun hk ht => log_R _ (by
      unfold Lg.rl Lg.rd
      rw [ht, hk]; simp)
    have hm2 : hasKey t L.W = false → L.touch t = false → (t, (σ.getD t .u).rowLen) ∈ ((k (σ.getD t .u).rowLen).log σ (L.rl t (σ.getD t .u))).RL := fun hk ht => log_RL _ (by
      unfold Lg.rl
      rw [ht, hk]; simp)
    have hA' : At (L.rl t (σ.getD t .u)) σ0 σ := hA.rl fun hk ht => hu.1 _ (hm hk ht)
    obtain ⟨r1, r2⟩ := run_log (p := k (σ.getD t .u).rowLen) h hA' hu
    refine ⟨r1, fun {τ0 τ} hT hl hR => ?_⟩
    have e : (τ.getD t .u).rowLen = (σ.getD t .u).rowLen := hA.agreeL hT (fun hk ht => by rw [hR.1 _ (hm hk ht), r1.2.2.1 _ (hm hk ht)]) fun hk ht => by rw [hR.2 _ (hm2 hk ht), r1.2.2.2.2.1 _ (hm2 hk ht)]
    have eL : L.rl t (τ.getD t .u) = L.rl t (σ.getD t .u) := by
      unfold Lg.rl
      cases ht : L.touch t with
      | true =>
        simp only [if_true]
        unfold Lg.rd
        cases hk : hasKey t L.W with
        | true => rfl
        | false => rw [hA.agree (L' := L) hT fun hk => by rw [hR.1 _ (hm hk ht), r1.2.2.1 _ (hm hk ht)]]
      | false => simp only [Bool.false_eq_true, if_false, e]
    have hT' : At (L.rl t (σ.getD t .u)) τ0 τ := hT.same (rl_rest ..) (fun p hp => hR.1 p (log_R p hp)) (fun p hp => hR.2 p (log_RL p hp))
    obtain ⟨τ', a1, a2, a3⟩ := r2 hT' hl hR
    refine ⟨τ', ?_, ?_, a3⟩
    · show (k (τ.getD t .u).rowLen).run τ = _
      rw [e]; exact a1
    · show (k (τ.getD t .u).rowLen).log τ (L.rl t (τ.getD t .u)) = _
      rw [e, eL]; exact a2
  | .pute t v k, σ0, σ, σ', L, h, hA, hu => by
    simp only [Pg.run] at h
    simp only [Pg.log] at hu ⊢
    split at h
    case isFalse => simp at h
    rename_i hs
    rw [if_pos hs] at hu ⊢
    have hm : hasKey t L.W = false → L.touch t = true → (t, σ.getD t .u) ∈ (k.log (σ.set t v) ((L.rl t (σ.getD t .u)).we t v)).R := fun hk ht => log_R _ (by
      show _ ∈ (L.rl t (σ.getD t .u)).R
      unfold Lg.rl Lg.rd
      rw [ht, hk]; simp)
    have hm2 : hasKey t L.W = false → L.touch t = false → (t, (σ.getD t .u).rowLen) ∈ (k.log (σ.set t v) ((L.rl t (σ.getD t .u)).we t v)).RL := fun hk ht => log_RL _ (by
      show _ ∈ (L.rl t (σ.getD t .u)).RL
      unfold Lg.rl
      rw [ht, hk]; simp)
    have hA' : At (L.rl t (σ.getD t .u)) σ0 σ := hA.rl fun hk ht => hu.1 _ (hm hk ht)
    obtain ⟨r1, r2⟩ := run_log (p := k) h (hA'.we hs) hu
    refine ⟨r1, fun {τ0 τ} hT hl hR => ?_⟩
    have e : (τ.getD t .u).rowLen = (σ.getD t .u).rowLen := hA.agreeL hT (fun hk ht => by rw [hR.1 _ (hm hk ht), r1.2.2.1 _ (hm hk ht)]) fun hk ht => by rw [hR.2 _ (hm2 hk ht), r1.2.2.2.2.1 _ (hm2 hk ht)]
    have eL : L.rl t (τ.getD t .u) = L.rl t (σ.getD t .u) := by
      unfold Lg.rl
      cases ht : L.touch t with
      | true =>
        simp only [if_true]
        unfold Lg.rd
        cases hk : hasKey t L.W with
        | true => rfl
        | false => rw [hA.agree (L' := L) hT fun hk => by rw [hR.1 _ (hm hk ht), r1.2.2.1 _ (hm hk ht)]]
      | false => simp only [Bool.false_eq_true, if_false, e]
    have hs' : sameRow v (τ.getD t .u) = true := by
      unfold sameRow at hs ⊢
      rw [e]; exact hs
    have hT' : At (L.rl t (σ.getD t .u)) τ0 τ := hT.same (rl_rest ..) (fun p hp => hR.1 p (log_R p hp)) (fun p hp => hR.2 p (log_RL p hp))
    obtain ⟨τ', a1, a2, a3⟩ := r2 (hT'.we hs') (by simp [hl]) hR
    refine ⟨τ', ?_, ?_, a3⟩
    · show (if sameRow v (τ.getD t .u) = true then k.run (τ.set t v) else none) = _
      rw [if_pos hs']; exact a1
    · show (if sameRow v (τ.getD t .u) = true then k.log (τ.set t v) ((L.rl t (τ.getD t .u)).we t v) else L) = _
      rw [if_pos hs', eL]; exact a2
theorem kc_u {L : Lg} (h : L.ok = true) (t : Nat) : L.kc t .u = false := by
  simp only [Lg.ok, Bool.and_eq_true, List.all_eq_true, Bool.not_eq_true'] at h
  replace h := h.1
  simp only [Lg.kc, List.any_eq_false, Bool.and_eq_true, not_and, Bool.not_eq_true]
  intro k hk _
  exact h.1 k hk
theorem ok_noU {L : Lg} (h : L.ok = true) : noU L := by
  simp only [Lg.ok, Bool.and_eq_true, List.all_eq_true, Bool.not_eq_true'] at h
  exact ⟨h.1.2, h.2⟩
theorem run_comm {α β : Type} {p : Pg α} {q : Pg β} {x : α} {y : β} {σ σ1 σ2 : List AV} (hp : p.run σ = some (x, σ1)) (hq : q.run σ1 = some (y, σ2)) (ha : apartL (p.log σ .emp) (q.log σ1 .emp) = true) :
    ∃ τ, q.run σ = some (y, τ) ∧ q.log σ .emp = q.log σ1 .emp ∧ p.run τ = some (x, σ2) ∧ p.log τ .emp = p.log σ .emp := by
  simp only [apartL, Bool.and_eq_true, List.all_eq_true, Bool.not_eq_true'] at ha
  obtain ⟨⟨⟨⟨⟨⟨⟨ok1, ok2⟩, h1⟩, h2⟩, h3⟩, h4⟩, h5⟩, h6⟩ := ha
  obtain ⟨A1, B1⟩ := run_log hp (.emp σ) (ok_noU ok1)
  obtain ⟨A2, B2⟩ := run_log hq (.emp σ1) (ok_noU ok2)
  have keyf : ∀ {t : Nat} {l : List (Nat × AV)}, hasKey t l = false → l.lookup t = none := fun {t l} h => by
    rw [hasKey_lookup] at h; simpa using h
  have hq1 : Rds (q.log σ1 .emp) σ := ⟨fun r hr => by
    have e := A2.2.2.1 r hr
    have hnu := (ok_noU ok2).1 r hr
    rw [A1.2.1 r.1] at e
    unfold Lg.app at e
    split at e
    · rename_i w hw
      have := (h1 _ (mem_lookup hw)).1.1
      rw [mem_key (t := r.1) (v := r.2) hr] at this
      simp at this
    · split at e
      · rw [← e] at hnu; simp [AV.isU] at hnu
      · exact e, fun r hr => by rw [← A1.len (h6 r hr)]; exact A2.2.2.2.2.1 r hr⟩
  obtain ⟨τ, a1, a2, a3⟩ := B2 (.emp σ) A1.1.symm hq1
  have hp1 : Rds (p.log σ .emp) τ := ⟨fun r hr => by
    rw [a3.2.1 r.1, A1.2.2.1 r hr]
    unfold Lg.app
    split
    · rename_i w hw
      have := (h2 _ (mem_lookup hw)).1
      rw [mem_key (t := r.1) (v := r.2) hr] at this
      simp at this
    · rw [h3 r hr]; rfl, fun r hr => by rw [a3.len (h5 r hr)]; exact A1.2.2.2.2.1 r hr⟩
  obtain ⟨τ', b1, b2, b3⟩ := B1 (.emp τ) a3.1 hp1
  refine ⟨τ, a1, a2, ?_, b2⟩
  have : τ' = σ2 := by
    refine ext_getD (by rw [b3.1, a3.1, A2.1, A1.1]) fun t => ?_
    rw [b3.2.1 t, a3.2.1 t, A2.2.1 t, A1.2.1 t]
    generalize σ.getD t .u = s
    cases hw : (p.log σ .emp).W.lookup t with
    | some w =>
      obtain ⟨⟨_, n2⟩, n3⟩ := h1 _ (mem_lookup hw)
      simp only [Lg.app, hw, keyf n2, n3, Bool.false_eq_true, if_false]
    | none =>
      cases hw2 : (q.log σ1 .emp).W.lookup t with
      | some w =>
        obtain ⟨_, n3⟩ := h2 _ (mem_lookup hw2)
        simp only [Lg.app, hw, hw2, n3, Bool.false_eq_true, if_false]
      | none =>
        simp only [Lg.app, hw, hw2]
        cases k1 : (p.log σ .emp).kc t s <;> cases k2 : (q.log σ1 .emp).kc t s <;> simp [k1, k2, kc_u ok1, kc_u ok2]
  rw [← this]
  exact b1
section
variable {G : List Nat} {v0 : Nat → Option Value} {P : Program} {I : World → Prop} {B : Base I} {K : Kills} {σ σ' σ1 : List AV} {w w' : World} {a : Act} {o : Oper} {Kt : Act → World → Prop} {Q : Exit → Act → World → Prop} {callf : Nat → List AV → Option CRes} {ops : Array Oper}
inductive Runs (K : Kills) (callf : Nat → List AV → Option CRes) (ios : List IOper) (L : Nat → Lg) : List Nat → List AV → List AV → Prop where
  | nil {σ : List AV} : Runs K callf ios L [] σ σ
  | cons {i : Nat} {is : List Nat} {io : IOper} {u : Unit} {σ σ1 σ' : List AV} (hi : ios[i]? = some io) (hr : (operP K callf io).run σ = some (u, σ1)) (hl : (operP K callf io).log σ .emp = L i) (h : Runs K callf ios L is σ1 σ') : Runs K callf ios L (i :: is) σ σ'
theorem Runs.front {ios : List IOper} {L : Nat → Lg} {i : Nat} {post : List Nat} : ∀ {pre : List Nat} {σ : List AV}, Runs K callf ios L (pre ++ i :: post) σ σ' → (∀ p ∈ pre, apartL (L p) (L i) = true) →
    ∃ io u σ1, ios[i]? = some io ∧ (operP K callf io).run σ = some (u, σ1) ∧ (operP K callf io).log σ .emp = L i ∧ Runs K callf ios L (pre ++ post) σ1 σ'
  | [], σ, .cons (io := io) (u := u) (σ1 := σ1) hi hr hl h, _ => ⟨io, u, σ1, hi, hr, hl, h⟩
  | p :: pre, σ, .cons (io := io) (u := u) (σ1 := σ1) hi hr hl h, ha => by
    obtain ⟨jo, v, σ2, a1, a2, a3, a4⟩ := Runs.front (pre := pre) h fun q hq => ha q (by simp [hq])
    obtain ⟨τ, b1, b2, b3, b4⟩ := run_comm hr a2 (by rw [hl, a3]; exact ha p (by simp))
    exact ⟨jo, v, τ, a1, b1, b2.trans a3, .cons hi b3 (b4.trans hl) a4⟩
theorem runs_of_ops {all : List IOper} {L : Nat → Lg} : ∀ (ios : List IOper) (k : Nat) (σ : List AV), ios = all.drop k → runOps K callf ios σ = some σ' → (∀ j, j < ios.length → L (k + j) = (logs K callf ios σ).getD j .emp) → Runs K callf all L (List.range' k ios.length) σ σ'
  | [], k, σ, _, hr, _ => by
    simp only [runOps, Option.some.injEq] at hr
    subst hr
    exact .nil
  | io :: ios, k, σ, hd, hr, hL => by
    simp only [runOps, Option.bind_eq_some_iff] at hr
    obtain ⟨⟨u, σ1⟩, hr1, hr2⟩ := hr
    have hio : all[k]? = some io := by
      have : (all.drop k)[0]? = some io := by rw [← hd]; rfl
      simpa using this
    simp only [List.length_cons, List.range'_succ]
    refine .cons hio hr1 ?_ (runs_of_ops ios (k + 1) σ1 (by rw [← List.drop_drop, ← hd]; simp) hr2 fun j hj => ?_)
    · have := hL 0 (by simp)
      simpa [logs] using this.symm
    · have := hL (j + 1) (by simp; omega)
      rw [show k + 1 + j = k + (j + 1) by omega, this]
      simp only [logs, List.getD_cons_succ]
      rw [hr1]
theorem apartAll_spec {bfs : List (List Nat)} {ls : List Lg} (h : apartAll bfs ls = true) {p q : Nat} (hpq : p < q) (hq : q < ls.length) : p ∈ bfs.getD q [] ∨ apartL (ls.getD p .emp) (ls.getD q .emp) = true := by
  simp only [apartAll, List.all_eq_true] at h
  have h1 := h (ls[q], q) (List.mem_of_getElem? (i := q) (by simp [hq]))
  simp only at h1
  have h2 := h1 (ls[p], p) (List.mem_of_getElem? (i := p) (by rw [List.getElem?_take, if_pos hpq]; simp [show p < ls.length by omega]))
  simp only [Bool.or_eq_true, List.contains_iff_mem] at h2
  simpa [List.getD_eq_getElem?_getD, hq, show p < ls.length by omega] using h2
theorem aheadOf_in {D : Nat → Prop} {acc : List (List Nat)} {o : Oper} (hacc : ∀ j, D j → ∀ p ∈ acc.getD j [], D p) (ho : ∀ e ∈ o.after, Region.binds .any e = true → D e.on) : ∀ p ∈ aheadOf acc o, D p := by
  unfold aheadOf
  have key : ∀ (l : List Edge) (s : List Nat), (∀ e ∈ l, D e.on) → (∀ p ∈ s, D p) → ∀ p ∈ l.foldl (fun s e => if s.contains e.on then s else e.on :: ((acc.getD e.on []).filter (!s.contains ·) ++ s)) s, D p := by
    intro l
    induction l with
    | nil => intro s _ hs; simpa using hs
    | cons e l ih =>
      intro s hl hs
      simp only [List.foldl_cons]
      refine ih _ (fun e he => hl e (by simp [he])) fun p hp => ?_
      split at hp
      · exact hs p hp
      · simp only [List.mem_cons, List.mem_append, List.mem_filter] at hp
        rcases hp with rfl | hp | hp
        · exact hl e (by simp)
        · exact hacc _ (hl e (by simp)) p hp.1
        · exact hs p hp
  refine key _ [] (fun e he => ?_) (by simp)
  simp only [List.mem_filter, Array.mem_toList_iff] at he
  exact ho e he.1 he.2
theorem aheads_in {D : Nat → Prop} {os : List Oper} (hD : ∀ j, D j → ∀ o, os[j]? = some o → ∀ e ∈ o.after, Region.binds .any e = true → D e.on) {i : Nat} {o : Oper} (hi : os[i]? = some o) (ho : ∀ e ∈ o.after, Region.binds .any e = true → D e.on) :
    ∀ p ∈ (aheads os).getD i [], D p := by
  have key : ∀ (l : List Oper) (acc : List (List Nat)) (done : List Oper), acc.length = done.length → os = done ++ l → (∀ j, (∀ o, os[j]? = some o → ∀ e ∈ o.after, Region.binds .any e = true → D e.on) → ∀ p ∈ acc.getD j [], D p) →
      ∀ j, (∀ o, os[j]? = some o → ∀ e ∈ o.after, Region.binds .any e = true → D e.on) → ∀ p ∈ (l.foldl (fun acc o => acc ++ [aheadOf acc o]) acc).getD j [], D p := by
    intro l
    induction l with
    | nil => intro acc done _ _ h; simpa using h
    | cons x l ih =>
      intro acc done hl hos h
      simp only [List.foldl_cons]
      refine ih (acc ++ [aheadOf acc x]) (done ++ [x]) (by simp [hl]) (by simp [hos]) fun j hj p hp => ?_
      rw [List.getD_eq_getElem?_getD, List.getElem?_append] at hp
      split at hp
      · exact h j hj p (by rw [List.getD_eq_getElem?_getD]; exact hp)
      · rename_i hge
        by_cases hjl : j = acc.length
        · subst hjl
          simp at hp
          have hx : os[acc.length]? = some x := by rw [hos, hl]; simp
          exact aheadOf_in (fun k hk => h k (fun o ho => hD k hk o ho)) (hj x hx) p hp
        · have : ([aheadOf acc x] : List (List Nat))[j - acc.length]? = none := List.getElem?_eq_none (by simp; omega)
          rw [this] at hp
          simp at hp
  exact key os [] [] rfl rfl (fun j _ p hp => by simp at hp) i fun o' ho' => by rw [hi] at ho'; simp at ho'; subst ho'; exact ho
theorem edgesOk_spec {os : List Oper} (h : edgesOk os = true) {i : Nat} {o : Oper} (hi : os[i]? = some o) : ∀ e ∈ o.after, Region.binds .any e = true → e.on < i := by
  simp only [edgesOk, List.all_eq_true] at h
  have h1 := h (o, i) (List.mem_of_getElem? (i := i) (by simp [hi]))
  simp only [List.all_eq_true, Array.mem_toList_iff, Bool.or_eq_true, Bool.not_eq_true', decide_eq_true_eq] at h1
  intro e he hb
  rcases h1 e he with q | q
  · rw [hb] at q; simp at q
  · exact q
theorem Inv.drew (h : Inv B K σ a w) : Inv B K σ a { w with drawn := w.drawn + 1 } := by
  obtain ⟨h1, h2, Fz, S, h3, h4⟩ := h
  refine ⟨h1, h2, Fz, S, ?_, h4⟩
  exact ⟨fun t => (h3.rep t).keep (fun _ h => h) (fun _ _ => rfl) (fun _ h => h) (fun h' hon => Held.same _ _ _ rfl (fun b hb => .inl hb) (fun _ _ => rfl)), h3.dis, h3.tok, h3.hol, h3.frz, h3.os, h3.tape, h3.output, h3.size, h3.old, h3.fz0, h3.fz1⟩
theorem InvK.drew (h : InvK B K G v0 σ a w) : InvK B K G v0 σ a { w with drawn := w.drawn + 1 } := ⟨h.inv.drew, h.keep⟩
theorem any_sound {H : Hints} {id : Nat} {ios : List IOper} {L : Nat → Lg} (hg : GoodF I P callf) (hall : opersOf P G H id ops 0 ops.toList = some ios) (he : edgesOk ops.toList = true)
    (hL : ∀ p q, p < q → q < ops.size → p ∈ (aheads ops.toList).getD q [] ∨ apartL (L p) (L q) = true) (hk : ∀ a' w', InvK B K G v0 σ' a' w' → Q .normal a' w') :
    ∀ (fuel : Nat) (listed : Array Bool) (rem : List Nat) (σ : List AV) (a : Act) (w : World), listed.size = ops.size → rem.length ≤ fuel → rem.Pairwise (· < ·) → (∀ j, j ∈ rem ↔ j < ops.size ∧ listed.getD j true = false) →
      (∀ j, j < ops.size → listed.getD j true = true → ∀ o, ops[j]? = some o → ∀ e ∈ o.after, Region.binds .any e = true → listed.getD e.on false = true) →
      Runs K callf ios L rem σ σ' → InvK B K G v0 σ a w → wpAny P .any ops Q fuel listed a w := by
  have stop : ∀ (listed : Array Bool) (rem : List Nat) (σ : List AV) (a : Act) (w : World), listed.size = ops.size → rem.Pairwise (· < ·) → (∀ j, j ∈ rem ↔ j < ops.size ∧ listed.getD j true = false) →
      Runs K callf ios L rem σ σ' → InvK B K G v0 σ a w → Region.ready .any ops listed = [] → Q .normal a w := by
    intro listed rem σ a w hsz hp hrem hR hI hr
    cases hR with
    | nil => exact hk _ _ hI
    | @cons i is io u _ σ1 _ hi _ _ _ =>
      have him := (hrem i).1 (by simp)
      have : i ∈ Region.ready .any ops listed := by
        rw [mem_ready]
        refine ⟨him.2, ops[i]'him.1, by simp [him.1], fun e hee hb => ?_⟩
        have hlt := edgesOk_spec he (i := i) (o := ops[i]'him.1) (by simp [him.1]) e hee hb
        cases hle : listed.getD e.on false with
        | true => rfl
        | false =>
          have hm : e.on ∈ i :: is := (hrem e.on).2 ⟨by omega, by
            have : e.on < listed.size := by omega
            simp [Array.getD_eq_getD_getElem?, this] at hle ⊢
            exact hle⟩
          simp only [List.mem_cons] at hm
          rcases hm with q | q
          · omega
          · have := (List.pairwise_cons.1 hp).1 _ q
            omega
      rw [hr] at this
      simp at this
  intro fuel
  induction fuel with
  | zero =>
    intro listed rem σ a w hsz hl hp hrem hcl hR hI
    have h0 : rem = [] := List.length_eq_zero_iff.1 (by omega)
    have hnil : Region.ready .any ops listed = [] := by
      rw [List.eq_nil_iff_forall_not_mem]
      intro j hj
      rw [mem_ready] at hj
      obtain ⟨h1, o, h2, _⟩ := hj
      have := (hrem j).2 ⟨(Array.getElem?_eq_some_iff.1 h2).1, h1⟩
      rw [h0] at this
      simp at this
    exact ⟨hnil, stop listed rem σ a w hsz hp hrem hR hI hnil⟩
  | succ fuel ih =>
    intro listed rem σ a w hsz hl hp hrem hcl hR hI
    refine ⟨fun hr => stop listed rem σ a w hsz hp hrem hR hI hr, fun i hi => ?_⟩
    obtain ⟨hi1, o, hi2, hi3⟩ := mem_ready.1 hi
    have hil : i < ops.size := (Array.getElem?_eq_some_iff.1 hi2).1
    have him : i ∈ rem := (hrem i).2 ⟨hil, hi1⟩
    obtain ⟨pre, post, hpp⟩ := List.append_of_mem him
    subst hpp
    have hpre : ∀ p ∈ pre, p < i := fun p hpm => (List.pairwise_append.1 hp).2.2 p hpm i (by simp)
    have hin := aheads_in (D := fun j => listed.getD j false = true) (os := ops.toList) (fun j hj o ho e hee hb => by
      have hjl : j < ops.size := by have := (List.getElem?_eq_some_iff.1 ho).1; simpa using this
      refine hcl j hjl ?_ o (by simpa using ho) e hee hb
      have : j < listed.size := by omega
      simp [Array.getD_eq_getD_getElem?, this] at hj ⊢
      exact hj) (i := i) (o := o) (by simpa using hi2) hi3
    have hap : ∀ p ∈ pre, apartL (L p) (L i) = true := fun p hpm => by
      rcases hL p i (hpre p hpm) hil with q | q
      · have h1 := hin p q
        have h2 := ((hrem p).1 (by simp [hpm])).2
        have h3 : p < listed.size := by have := ((hrem p).1 (by simp [hpm])).1; omega
        simp [Array.getD_eq_getD_getElem?, h3] at h1 h2
        rw [h1] at h2
        simp at h2
      · exact q
    obtain ⟨io, u, σ1, r1, r2, r3, r4⟩ := hR.front hap
    obtain ⟨io', e1, e2⟩ := (opersOf_get hall).2 i o (by simpa using hi2)
    obtain rfl : io = io' := by rw [r1] at e1; simpa using e1
    refine oper_sound hg hi2 e2 hI r2 fun a' w' hI' => ih (listed.setIfInBounds i true) (pre ++ post) σ1 a' w' (by simpa using hsz) (by simp at hl ⊢; omega) ?_ (fun j => ?_) (fun j hj hlj o' ho' e hee hb => ?_) r4 hI'
    · exact hp.sublist (List.Sublist.append_left (List.sublist_cons_self i post) pre)
    · have hnd : (pre ++ i :: post).Nodup := hp.imp (fun h => Nat.ne_of_lt h)
      by_cases hji : j = i
      · subst hji
        constructor
        · intro hm
          rw [List.nodup_append] at hnd
          simp only [List.mem_append] at hm
          rcases hm with q | q
          · exact absurd rfl (hnd.2.2 _ q _ (by simp))
          · exact absurd q (List.nodup_cons.1 hnd.2.1).1
        · intro hm
          have := hm.2
          simp [Array.getD_eq_getD_getElem?, show j < listed.size by omega] at this
      · have := hrem j
        simp only [List.mem_append, List.mem_cons, hji, false_or] at this ⊢
        rw [this, getD_set_ne true (fun e => hji e.symm)]
    · by_cases hji : j = i
      · subst hji
        rw [hi2] at ho'
        simp at ho'
        subst ho'
        exact getD_set_true (hi3 e hee hb)
      · rw [getD_set_ne true (fun e => hji e.symm)] at hlj
        exact getD_set_true (hcl j hj hlj o' ho' e hee hb)
theorem logs_length : ∀ (ios : List IOper) (σ : List AV), runOps K callf ios σ = some σ' → (logs K callf ios σ).length = ios.length
  | [], σ, _ => rfl
  | io :: ios, σ, hr => by
    simp only [runOps, Option.bind_eq_some_iff] at hr
    obtain ⟨⟨u, σ1⟩, hr1, hr2⟩ := hr
    simp only [logs, hr1, List.length_cons]
    rw [logs_length ios σ1 hr2]
theorem draw_sound {H : Hints} {id : Nat} {ios : List IOper} (hm : P.follows .mixedOrders = true) (hg : GoodF I P callf) (hall : opersOf P G H id ops 0 ops.toList = some ios) (he : edgesOk ops.toList = true) (h : InvK B K G v0 σ a w)
    (ha : apartAll (aheads ops.toList) (logs K callf ios σ) = true) (hr : runOps K callf ios σ = some σ') (hk : ∀ a' w', InvK B K G v0 σ' a' w' → Q .normal a' w') : (Code.region id ops true).wp P Q a w := by
  have hlen : ios.length = ops.size := by simpa using (opersOf_get hall).1
  refine wp_region_any hm (any_sound (L := fun i => (logs K callf ios σ).getD i .emp) (ios := ios) (H := H) (id := id) hg hall he (fun p q hpq hq => apartAll_spec ha hpq (by rw [logs_length ios σ hr, hlen]; exact hq)) hk ops.size _ (List.range ops.size) σ a _ (by simp) (by simp) ?_ (fun j => ?_) (fun j hj hl => ?_) ?_ h.drew)
  · exact List.pairwise_lt_range
  · constructor
    · intro hj
      have hj' : j < ops.size := by simpa using hj
      exact ⟨hj', by simp [Array.getD_eq_getD_getElem?, hj']⟩
    · intro hj
      simpa using hj.1
  · simp [Array.getD_eq_getD_getElem?, hj] at hl
  · rw [List.range_eq_range', ← hlen]
    exact runs_of_ops ios 0 σ (by simp) hr fun j hj => by simp
end
end Go.Pv
end

section
namespace Go.Pv
def LeapsGo (P : Program) (c : Code) (Q : Exit → Act → World → Prop) (l : Nat) (a : Act) (w : World) : Prop :=
  ∀ S : Nat → Act → World → Prop,
    (∀ l rest a w, findLabel c l = some rest → rest.wp P (fun e a w => match e with | .goto l => S l a w | e => Q e a w) a w → S l a w) → S l a w
def Leaps (P : Program) (c : Code) (Q : Exit → Act → World → Prop) : Exit → Act → World → Prop
  | .goto l, a, w => LeapsGo P c Q l a w
  | e, a, w => Q e a w
section
variable {P : Program} {c rest : Code} {Q : Exit → Act → World → Prop} {K : Act → World → Prop} {e : Exit} {a : Act} {w : World} {l id : Nat}
theorem Leaps.ret (h : Q .ret a w) : Leaps P c Q .ret a w := h
theorem Leaps.normal (h : Q .normal a w) : Leaps P c Q .normal a w := h
theorem Leaps.leap (hf : findLabel c l = some rest) (h : rest.wp P (Leaps P c Q) a w) : Leaps P c Q (.goto l) a w := by
  intro S hS
  refine hS l rest a w hf (wp_mono h fun e a w hj => ?_)
  cases e with
  | goto l => exact hj S hS
  | normal => exact hj
  | exit id => exact hj
  | ret => exact hj
  | panic ch => exact hj
  | outgrown => exact hj
theorem wp_scope_leaps (h : c.wp P (Leaps P c Q) a w) : (Code.scope c).wp P Q a w := by
  intro b k cs
  obtain ⟨e, a₁, w₁, hl, harr⟩ := h b (.inScope c :: k) cs
  have other : ∀ (e : Exit) (a : Act) (w : World) (m : Machine), (∀ l, e ≠ .goto l) → Q e a w → Arrives P m b (.inScope c :: k) cs e a w → ∃ e' a' w', Q e' a' w' ∧ Arrives P m b k cs e' a' w' := by
    intro e a w m hne hq harr
    cases e with
    | normal => exact ⟨.normal, a, w, hq, Steps.trans harr (.one step_inScope)⟩
    | exit id => exact ⟨.exit id, a, w, hq, fun k' hk => harr k' (by simp [exitTo, hk])⟩
    | goto l => exact absurd rfl (hne l)
    | ret => exact ⟨_, a, w, hq, harr⟩
    | panic ch => exact ⟨_, a, w, hq, harr⟩
    | outgrown => exact ⟨_, a, w, hq, harr⟩
  have jump : ∀ l a w, LeapsGo P c Q l a w → ∀ m, Arrives P m b (.inScope c :: k) cs (.goto l) a w → ∃ e' a' w', Q e' a' w' ∧ Arrives P m b k cs e' a' w' := by
    intro l a w hg
    refine hg (fun l a w => ∀ m, Arrives P m b (.inScope c :: k) cs (.goto l) a w → ∃ e' a' w', Q e' a' w' ∧ Arrives P m b k cs e' a' w') ?_
    intro l rest a w hf hw m harr
    have hg : gotoIn l (.inScope c :: k) = some (.code rest :: .inScope c :: k) := by simp [gotoIn, hf]
    obtain ⟨e2, a2, w2, h2, harr2⟩ := hw b (.inScope c :: k) cs
    have done : ∃ e' a' w', Q e' a' w' ∧ Arrives P (lone (b.at a (.code rest :: .inScope c :: k)) cs w) b k cs e' a' w' := by
      cases e2 with
      | goto l2 => exact h2 _ harr2
      | normal => exact other .normal _ _ _ (fun _ h => Exit.noConfusion h) h2 harr2
      | exit id => exact other (.exit id) _ _ _ (fun _ h => Exit.noConfusion h) h2 harr2
      | ret => exact other .ret _ _ _ (fun _ h => Exit.noConfusion h) h2 harr2
      | panic ch => exact other (.panic ch) _ _ _ (fun _ h => Exit.noConfusion h) h2 harr2
      | outgrown => exact other .outgrown _ _ _ (fun _ h => Exit.noConfusion h) h2 harr2
    obtain ⟨e', a', w', hq, h'⟩ := done
    exact ⟨e', a', w', hq, .of_steps (harr _ hg) h'⟩
  have done : ∃ e' a' w', Q e' a' w' ∧ Arrives P (lone (b.at a (.code c :: .inScope c :: k)) cs w) b k cs e' a' w' := by
    cases e with
    | goto l => exact jump l _ _ hl _ harr
    | normal => exact other .normal _ _ _ (fun _ h => Exit.noConfusion h) hl harr
    | exit id => exact other (.exit id) _ _ _ (fun _ h => Exit.noConfusion h) hl harr
    | ret => exact other .ret _ _ _ (fun _ h => Exit.noConfusion h) hl harr
    | panic ch => exact other (.panic ch) _ _ _ (fun _ h => Exit.noConfusion h) hl harr
    | outgrown => exact other .outgrown _ _ _ (fun _ h => Exit.noConfusion h) hl harr
  obtain ⟨e', a', w', hq, h'⟩ := done
  exact ⟨e', a', w', hq, .of_steps (.one step_scope) h'⟩
end
end Go.Pv
end

section
namespace Go.Pv
open Go.RowKit
set_option linter.unusedVariables false
set_option linter.unusedSimpArgs false
def Ex.exit' : Ex → Exit
  | .nor => .normal
  | .exit id => .exit id
  | .goto l => .goto l
  | .ret => .ret
def mkD (D : Nat) : Deferred := { target := .collected D, args := #[] }
section
variable {G : List Nat} {v0 : Nat → Option Value} {P : Program} {I : World → Prop} {B : Base I} {K : Kills} {σ σ' σ1 : List AV} {w w' : World} {a a' : Act} {Q : Exit → Act → World → Prop} {Fz Fz' : BSet} {S S' : Nat → BSet} {vals vals' : Nat → Value}
def Base.at_ (B : Base I) (h : St B K σ vals w Fz S) (ds : List Deferred) : Base I :=
  ⟨w, Fz, fun b => ∃ t, S t b, B.O, B.hI, ⟨h.oldO.1, h.oldO.2⟩, fun b ⟨t, hb⟩ => (h.tok t b hb).2.2.elim (B.hT b) fun q => Nat.le_trans B.hO.1 q, ds⟩
theorem St.rebase (h : St B K σ vals w Fz S) (ds : List Deferred) : St (B.at_ h ds) K σ vals w Fz S :=
  ⟨h.rep, h.dis, fun t b hb => ⟨(h.tok t b hb).1, (h.tok t b hb).2.1, .inl ⟨t, hb⟩⟩, h.hol, h.frz, rfl, rfl, rfl, Nat.le_refl _, fun _ _ _ => rfl, fun _ q => q, fun _ q => .inl q⟩
theorem St.unbase {ds : List Deferred} (h : St B K σ vals w Fz S) (h' : St (B.at_ h ds) K σ' vals' w' Fz' S') : St B K σ' vals' w' Fz' S' := by
  refine ⟨h'.rep, h'.dis, fun t b hb => ?_, h'.hol, h'.frz, h'.os.trans h.os, h'.tape.trans h.tape, h'.output.trans h.output, Nat.le_trans h.size h'.size, fun b hb hn => ?_, fun b hb => h'.fz0 b (h.fz0 b hb), fun b hb => ?_⟩
  · obtain ⟨q1, q2, q3⟩ := h'.tok t b hb
    refine ⟨q1, q2, ?_⟩
    rcases q3 with ⟨u, q⟩ | q
    · exact (h.tok u b q).2.2
    · exact .inr (Nat.le_trans h.size q)
  · have hno : ¬ ∃ t, S t b := fun ⟨t, q⟩ => by
      rcases (h.tok t b q).2.2 with e | e
      · exact hn e
      · exact absurd hb (by omega)
    exact (h'.old b (Nat.lt_of_lt_of_le hb h.size) hno).trans (h.old b hb hn)
  · rcases h'.fz1 b hb with q | ⟨t, q⟩ | q
    · exact h.fz1 b q
    · rcases (h.tok t b q).2.2 with e | e
      · exact .inr (.inl e)
      · exact .inr (.inr e)
    · exact .inr (.inr (Nat.le_trans h.size q))
structure ApartO (B : Base I) (w : World) (Fz : BSet) (S : Nat → BSet) (o : Obj) (D : Nat) : Prop where
  obj : w.heap[D]? = some o
  nf : ¬ Fz D
  no : ∀ t, ¬ S t D
  new : B.w0.heap.size ≤ D
abbrev Apart (B : Base I) (w : World) (Fz : BSet) (S : Nat → BSet) (D : Nat) : Prop := ApartO B w Fz S (.deferred (some [])) D
theorem ApartO.lt {D : Nat} {o : Obj} (h : ApartO B w Fz S o D) : D < w.heap.size := (Array.getElem?_eq_some_iff.1 h.obj).1
theorem ApartO.step {ds : List Deferred} {D : Nat} {o : Obj} (hD : ApartO B w Fz S o D) (h : St B K σ vals w Fz S) (h' : St (B.at_ h ds) K σ' vals' w' Fz' S') : ApartO B w' Fz' S' o D := by
  have hno : ¬ ∃ t, S t D := fun ⟨t, q⟩ => hD.no t q
  refine ⟨(h'.old D hD.lt hno).trans hD.obj, fun q => ?_, fun t q => ?_, hD.new⟩
  · rcases h'.fz1 D q with e | e | e
    · exact hD.nf e
    · exact hno e
    · exact absurd hD.lt (Nat.not_lt.2 e)
  · rcases (h'.tok t D q).2.2 with e | e
    · exact hno e
    · exact absurd hD.lt (Nat.not_lt.2 e)
structure InvM (B : Base I) (K : Kills) (G : List Nat) (v0 : Nat → Option Value) (σ : List AV) (a : Act) (w : World) : Prop where
  out : ∃ Ds : List Nat, a.defers = Ds.map mkD ∧ Ds.Nodup ∧ a.tmps.size = σ.length ∧ (∀ t ∈ G, a.tmps[t]? = v0 t) ∧ ∃ Fz S, St B K σ (valsOf a) w Fz S ∧ (∀ k, σ.length ≤ k → ∀ b, ¬ S k b) ∧ ∀ D ∈ Ds, Apart B w Fz S D
theorem InvK.m (h : InvK B K G v0 σ a w) (hds : B.ds = []) : InvM B K G v0 σ a w := by
  obtain ⟨⟨h1, h2, Fz, S, h3, h4⟩, h5⟩ := h
  exact ⟨[], by rw [h1, hds]; rfl, List.nodup_nil, h2, h5, Fz, S, h3, h4, fun D hD => by simp at hD⟩
theorem leafM {code : Code} {ex : Exit} (hl : ∀ (B1 : Base I) (Q : Exit → Act → World → Prop), InvK B1 K G v0 σ a w → (∀ a' w', InvK B1 K G v0 σ' a' w' → Q ex a' w') → code.wp P Q a w) (h : InvM B K G v0 σ a w)
    (hk : ∀ a' w', InvM B K G v0 σ' a' w' → Q ex a' w') : code.wp P Q a w := by
  obtain ⟨Ds, h1, h2, h3, h4, Fz, S, h5, h6, h7⟩ := h
  refine hl (B.at_ h5 a.defers) Q ⟨⟨rfl, h3, Fz, S, h5.rebase _, h6⟩, h4⟩ fun a' w' hI => hk a' w' ?_
  obtain ⟨⟨k1, k2, Fz', S', k3, k4⟩, k5⟩ := hI
  exact ⟨Ds, k1.trans h1, h2, k2, k5, Fz', S', h5.unbase k3, k4, fun D hD => (h7 D hD).step h5 k3⟩
theorem InvM.st (h : InvM B K G v0 σ a w) : a.tmps.size = σ.length ∧ ∃ Fz S, St B K σ (valsOf a) w Fz S ∧ ∀ k, σ.length ≤ k → ∀ b, ¬ S k b := by
  obtain ⟨Ds, h1, h2, h3, h4, Fz, S, h5, h6, h7⟩ := h.out
  exact ⟨h3, Fz, S, h5, h6⟩
theorem St.turn {D : Nat} {o o1 : Obj} (h : St B K σ vals w Fz S) (hD : ApartO B w Fz S o1 D) : St B K σ vals (w.putObj D o) Fz S := by
  have hne : ∀ b, b ≠ D → (w.putObj D o).heap[b]? = w.heap[b]? := fun b hb => World.putObj_heap_other hb
  refine ⟨fun t => ?_, h.dis, fun t b hb => ?_, h.hol, fun b hb => ?_, h.os, h.tape, h.output, ?_, fun b hb hn => ?_, h.fz0, h.fz1⟩
  · refine (h.rep t).keep (fun _ q => q) (fun b q => hne b fun e => ?_) (fun _ q => q) fun h' hon => Held.same _ _ _ rfl (fun _ q => .inl q) fun b hb => hne b fun e => ?_
    · subst e; exact q.elim hD.nf (hD.no t)
    · subst e; exact hD.no h' hb
  · have := h.tok t b hb
    simpa [World.putObj] using this
  · have := h.frz b hb
    simpa [World.putObj] using this
  · have := h.size
    simpa [World.putObj] using this
  · rw [← h.old b hb hn]
    exact hne b fun e => by subst e; exact absurd hD.new (by omega)
theorem ApartO.turn {D D' : Nat} {o o1 : Obj} (h : ApartO B w Fz S o1 D') (hne : D' ≠ D) : ApartO B (w.putObj D o) Fz S o1 D' :=
  ⟨(World.putObj_heap_other hne).trans h.obj, h.nf, h.no, h.new⟩
theorem leavesM {F : Fence} {n : Nat} {fn : Func} {tmps : Array Value} {R : Ending → World → Prop} : ∀ (Ds : List Nat) {w : World}, Ds.Nodup → St B K σ vals w Fz S → (∀ D ∈ Ds, Apart B w Fz S D) →
    (∀ w', St B K σ vals w' Fz S → ∃ v, (results fn tmps).run P w' = .ok v w' ∧ R (.returned v) w') → LeavesInM F n P fn tmps R (Ds.map mkD) .returning w
  | [], w, _, hs, _, hk => hk w hs
  | D :: Ds, w, hn, hs, hD, hk => by
    obtain ⟨n1, n2⟩ := List.nodup_cons.1 hn
    refine ⟨by simp, .inl ⟨D, _, rfl, run_takeDeferred (hD D (by simp)).obj, ?_⟩⟩
    exact leavesM Ds n2 (hs.turn (hD D (by simp))) (fun D' hD' => (hD D' (by simp [hD'])).turn fun e => by subst e; exact n1 hD') hk
end
end Go.Pv
end

section
namespace Go.Pv
open Go.RowKit
set_option linter.unusedVariables false
set_option linter.unusedSimpArgs false
section
variable {P : Program} {l n : Nat} {o : Oper} {ops : Array Oper} {a : Act} {w : World} {Kt Kt' : Act → World → Prop} {Q : Exit → Act → World → Prop}
theorem rows_round {row : String} {args : Array Value} {R : Value → World → Prop} (h : Rows P row args w R) : RowsIn (Fence.wide.inRound l) n P row args w R :=
  fun c cs _ => let ⟨v, w', r, s⟩ := h c cs; ⟨v, w', r, stepsIn_wide.2 s⟩
theorem oper_round (hd : ∀ c, o.op ≠ .defer c) (hk : ∀ a w, Kt a w → Kt' a w) (h : o.wp P a w Kt Q) : o.wpIn (Fence.wide.inRound l) n P a w Kt' Q := by
  refine ⟨fun _ _ => trivial, ?_⟩
  rw [show (Fence.wide.inRound l).round = some l from rfl, Oper.semAt_eq _ _ _ hd]
  unfold Oper.wp at h
  generalize (execOp a.eval o).run P w = r at h
  unfold Oper.upon at h
  unfold Oper.uponIn
  split at h
  · exact hk _ _ h
  · exact hk _ _ h
  · exact hk _ _ h
  · refine ⟨fun q => by simp [Fence.wide, Fence.inRound] at q, CallsIn.inRound l (callsIn_wide.2 (h.mono fun e w' hq => ?_))⟩
    cases e with
    | returned v => exact hk _ _ hq
    | panicked c => exact hq
    | outgrown => exact hq
  · exact ⟨fun q => by simp [Fence.wide, Fence.inRound] at q, rows_round (h.mono fun v w' hq => hk _ _ hq)⟩
  · exact h
  · exact h.elim
theorem ops_round (hno : ¬ LetsOut Q) (hd : ∀ (i : Nat) (o : Oper), ops[i]? = some o → ∀ c, o.op ≠ .defer c) : ∀ (is : List Nat) (a : Act) (w : World), wpOps P ops Q is a w → wpOpsIn (Fence.wide.inRound l) n P ops Q is a w
  | [], a, w, h => h
  | i :: is, a, w, h => by
    simp only [wpOps, wpOpsIn] at h ⊢
    cases ho : ops[i]? with
    | none => simp only [ho] at h ⊢; exact ops_round hno hd is a w h
    | some o =>
      simp only [ho] at h ⊢
      split
      · rename_i hw
        rw [if_pos hw] at h
        exact oper_round (hd i o ho) (fun a w q => ops_round hno hd is a w q) (h.resolve_right fun q => hno q.2)
      · rename_i hw
        rw [if_neg hw] at h
        exact ⟨fun _ _ => trivial, ops_round hno hd is _ w h⟩
end
section
variable {G : List Nat} {v0 : Nat → Option Value} {P : Program} {I : World → Prop} {B : Base I} {K : Kills} {σ σ' σ1 : List AV} {w w' : World} {a : Act} {l n : Nat} {callf : Nat → List AV → Option CRes}
theorem opOf_no {H : List Nat} {o : Oper} {io : IOp} (h : opOf P H o = some io) : ∀ c, o.op ≠ .defer c := by
  intro c hc
  unfold opOf at h
  rw [hc] at h
  simp at h
theorem opersOf_no {H : Hints} {id : Nat} {all : Array Oper} : ∀ {os : List Oper} {j : Nat} {ios : List IOper}, opersOf P G H id all j os = some ios → ∀ o ∈ os, ∀ c, o.op ≠ .defer c
  | [], _, _, _, o, ho => by simp at ho
  | o1 :: os, j, ios, h, o, ho => by
    simp only [opersOf] at h
    split at h
    · rename_i x y hx hy
      rcases List.mem_cons.1 ho with rfl | q
      · unfold operOf at hx
        split at hx
        · simp at hx
        · rename_i i hi; exact opOf_no hi
      · exact opersOf_no hy o q
    · simp at h
theorem region_round {H : Hints} {id : Nat} {ops : Array Oper} {ios : List IOper} (hg : GoodF I P callf) (hall : opersOf P G H id ops 0 ops.toList = some ios) (h : InvK B K G v0 σ a w) (hr : runOps K callf ios σ = some σ') :
    (Code.region id ops false).wpIn (Fence.wide.inRound l) n P (fun e a' w' => e = .normal ∧ InvK B K G v0 σ' a' w') a w := by
  refine wpIn_region ?_
  have := ops_sound (Q := fun e a' w' => e = .normal ∧ InvK B K G v0 σ' a' w') hg hall ios 0 σ a w (by simp) h hr fun a' w' q => ⟨rfl, q⟩
  rw [(opersOf_get hall).1] at this
  refine ops_round (fun ⟨_, _, q⟩ => by simp at q) (fun i o ho => opersOf_no hall o (Array.mem_toList_iff.2 (Array.mem_of_getElem? ho))) _ _ _ ?_
  simpa [List.range_eq_range'] using this
end
end Go.Pv
end

section
namespace Go.Pv
open Go.RowKit
set_option linter.unusedVariables false
set_option linter.unusedSimpArgs false
def KeepB (F : Nat → Prop) (W W' : World) : Prop := ∀ b, F b → W'.heap[b]? = W.heap[b]?
theorem KeepB.trans {F : Nat → Prop} {A B C : World} (h : KeepB F A B) (h' : KeepB F B C) : KeepB F A C := fun b hb => (h' b hb).trans (h b hb)
theorem KeepB.put {F : Nat → Prop} {W : World} {l : Nat} {o : Obj} (h : ¬ F l) : KeepB F W (W.putObj l o) := fun b hb => World.putObj_heap_other fun e => by subst e; exact h hb
def Yields (P : Program) (g : Nat) (lb : Array Value) (encs : Nat → Array Value) (N : Nat) (F : Nat → Prop) (w : World) : Prop :=
  ∀ (l : Nat) (J : Nat → World → Prop) (W : World), KeepB F w W →
    (∀ k W1, J k W1 → k < N → YieldAt Fence.wide 0 P l (encs k) W1 fun e W' => e = .returned (.bool true) ∧ J (k + 1) W' ∧ KeepB F W1 W') → J 0 W →
    CallsIn Fence.wide 0 P g (#[.func (.yield l) #[] #[]] ++ lb) W fun e W' => (∃ v, e = .returned v) ∧ J N W'
theorem yields_range {P : Program} {g : Operand} {ps : Array Tmp} {assign body : Code} {Q : Exit → Act → World → Prop} {a : Act} {w : World} {gf : Nat} {lb : Array Value} {encs : Nat → Array Value} {N : Nat} {F : Nat → Prop}
    (hg : a.eval g = .func (.func gf) #[] lb) (eg : ∀ args w, (callFunc gf args).run P w = .ok (.enter gf args) w) (hps : ∀ k, k < N → (encs k).size = ps.size) (hF : ∀ b, F b → b < w.heap.size) (hY : Yields P gf lb encs N F w)
    (J : Nat → World → Prop) (A : Nat → Act → World → Prop)
    (h0 : ∀ o, J 0 ((w.alloc (.deferred (some []))).alloc o))
    (hJp : ∀ k W o, J k W → J k (W.putObj (w.heap.size + 1) o)) (hAp : ∀ k a1 W o, A k a1 W → A k a1 (W.putObj (w.heap.size + 1) o))
    (hassign : ∀ k W, J k W → k < N → assign.wpIn (Fence.wide.inRound (w.heap.size + 1)) 0 P (fun e a1 W1 => e = .normal ∧ A k a1 W1 ∧ KeepB (fun b => F b ∨ b = w.heap.size ∨ b = w.heap.size + 1) W W1)
      { tmps := (ps.zip (encs k)).foldl (fun t (p, v) => t.setIfInBounds p v) a.tmps, defers := [] } W)
    (hbody : ∀ k a1 W, A k a1 W → k < N → body.wpIn (Fence.wide.inRound (w.heap.size + 1)) 0 P (fun e a2 W2 => e = .normal ∧ J (k + 1) W2 ∧ KeepB (fun b => F b ∨ b = w.heap.size ∨ b = w.heap.size + 1) W W2) a1 W)
    (hdone : ∀ W, J N W → W.heap[w.heap.size]? = some (.deferred (some [])) → Q .normal { a with defers := { target := .collected w.heap.size, args := #[] } :: a.defers } W) :
    (Code.rangeFunc g ps assign body).wp P Q a w := by
  refine (wpIn_wide (n := 0)).1 (wpIn_rangeFunc fun fn _ => ?_)
  have hnl : ¬ F (w.heap.size + 1) := fun q => absurd (hF _ q) (by omega)
  obtain ⟨rec, hrec⟩ : ∃ rec : LoopState → Loop, rec = fun st => { state := st, pending := none, fn, tmps := a.tmps, params := ps, assign, body, defers := w.heap.size } := ⟨_, rfl⟩
  obtain ⟨W1, hW1⟩ : ∃ W1, (w.alloc (.deferred (some []))).alloc (.loop (rec .ready)) = W1 := ⟨_, rfl⟩
  have e1 : W1.heap[w.heap.size + 1]? = some (.loop (rec .ready)) := by
    subst hW1
    simpa using World.alloc_heap_new (w.alloc (.deferred (some []))) (.loop (rec .ready))
  have e2 : W1.heap[w.heap.size]? = some (.deferred (some [])) := by
    subst hW1
    exact (Below.heap_alloc _ _ _ (by simp)).trans (World.alloc_heap_new w _)
  have e3 : KeepB F w W1 := fun b hb => by
    subst hW1
    have := hF b hb
    exact (Below.heap_alloc _ _ _ (by simp; omega)).trans (Below.heap_alloc _ _ _ this)
  refine ⟨w.heap.size + 1, [{ target := .collected w.heap.size, args := #[] }], W1, ⟨.fn (.func gf) lb, #[.func (.yield (w.heap.size + 1)) #[] #[]]⟩, W1, gf, #[.func (.yield (w.heap.size + 1)) #[] #[]] ++ lb, W1, ?_, ?_, fun _ _ => trivial, ?_, fun _ => by simp_all [Fence.wide], ?_⟩
  · subst hW1; subst hrec; exact run_enterLoop_outer fn a.tmps ps assign body
  · simp only [resolve, hg]
    simp [go_sem]
  · simp [invoke, go_sem, eg]
  · refine (hY (w.heap.size + 1) (fun k W => J k W ∧ W.heap[w.heap.size + 1]? = some (.loop (rec .ready)) ∧ W.heap[w.heap.size]? = some (.deferred (some []))) W1 e3 ?_ ⟨by subst hW1; exact h0 _, e1, e2⟩).mono ?_
    · rintro k W ⟨hJ, hl, hD⟩ hk
      have hy := run_yield (P := P) (args := encs k) hl (by rw [hrec]; exact hps k hk)
      refine ⟨_, _, _, _, hy, roundIn_of_wpIn trivial ?_⟩
      rw [show (rec LoopState.ready).assign = assign by rw [hrec], show (rec LoopState.ready).body = body by rw [hrec], show (rec LoopState.ready).params = ps by rw [hrec], show (rec LoopState.ready).tmps = a.tmps by rw [hrec]]
      refine wpIn_mono (hassign k W hJ hk) ?_
      rintro e a1 Wa ⟨rfl, hA, hka⟩
      have hla := (hka _ (.inr (.inr rfl))).trans hl
      have hDa := (hka _ (.inr (.inl rfl))).trans hD
      have hlt : w.heap.size + 1 < Wa.heap.size := (Array.getElem?_eq_some_iff.1 hla).1
      refine ⟨_, run_beginRound hla (by rw [hrec]), wpIn_mono (hbody k a1 _ (hAp k a1 Wa _ hA) hk) ?_⟩
      rintro e a2 Wb ⟨rfl, hJ2, hkb⟩
      have hlb := (hkb _ (.inr (.inr rfl))).trans (World.putObj_heap_same hlt)
      have hDb := ((hkb _ (.inr (.inl rfl))).trans (World.putObj_heap_other (by omega))).trans hDa
      have hltb : w.heap.size + 1 < Wb.heap.size := (Array.getElem?_eq_some_iff.1 hlb).1
      refine ⟨_, _, run_endRound none hlb, rfl, ⟨hJp _ _ _ hJ2, ?_, (World.putObj_heap_other (by omega)).trans hDb⟩, ?_⟩
      · rw [World.putObj_heap_same hltb, hrec]; rfl
      · have k1 : KeepB F W Wa := fun b hb => hka b (.inl hb)
        have k2 : KeepB F _ Wb := fun b hb => hkb b (.inl hb)
        exact ((k1.trans (KeepB.put hnl)).trans k2).trans (KeepB.put hnl)
    · rintro e W ⟨⟨v, rfl⟩, hJ, hl, hD⟩
      have hlt : w.heap.size + 1 < W.heap.size := (Array.getElem?_eq_some_iff.1 hl).1
      refine ⟨none, W.putObj (w.heap.size + 1) (.loop { rec .ready with state := .exhausted }), ?_, hdone _ (hJp _ _ _ hJ) ((World.putObj_heap_other (by omega)).trans hD)⟩
      have := run_endLoop (P := P) hl (by rw [hrec]; simp)
      rw [hrec] at this ⊢
      exact this
end Go.Pv
end
