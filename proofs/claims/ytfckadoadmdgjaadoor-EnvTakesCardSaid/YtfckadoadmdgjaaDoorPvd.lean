/- Own words of these sessions: a small interpreter over plain values, and the proof that the model computes what it answers. -/
import Derived.Test.YtfckadoadmdgjaaDoorPvc
import Derived.IntWalk
set_option linter.all false
section
namespace Go.Pv
set_option linter.unusedVariables false
set_option linter.unusedSimpArgs false
def obind {α β : Type} (x : Option α) (f : α → Option β) : Option β := x.bind f
@[congr] theorem obind_congr {α β : Type} {x x' : Option α} {f : α → Option β} (h : x = x') : obind x f = obind x' f := by rw [h]
theorem obind_some {α β : Type} (x : α) (f : α → Option β) : obind (some x) f = f x := rfl
def ogo {β : Type} (v : AV) (f : AV → Option β) : Option β := f v
@[congr] theorem ogo_congr {β : Type} {v v' : AV} {f : AV → Option β} (h : v = v') : ogo v f = ogo v' f := by rw [h]
theorem ogo_w {β : Type} (c : OV) (f : AV → Option β) : ogo (.w c) f = f (.w c) := rfl
theorem ogo_a {β : Type} (c : List OV) (f : AV → Option β) : ogo (.a c) f = f (.a c) := rfl
theorem ogo_t {β : Type} (c : List (Bool × List OV)) (f : AV → Option β) : ogo (.t c) f = f (.t c) := rfl
theorem ogo_box {β : Type} (c : List OV) (f : AV → Option β) : ogo (.box c) f = f (.box c) := rfl
theorem ogo_it {β : Type} (s : List UInt8) (pos : Nat) (f : AV → Option β) : ogo (.it s pos) f = f (.it s pos) := rfl
theorem ogo_ptr {β : Type} (c : Pl) (f : AV → Option β) : ogo (.ptr c) f = f (.ptr c) := rfl
theorem ogo_fp {β : Type} (c : List PV) (f : AV → Option β) : ogo (.fp c) f = f (.fp c) := rfl
theorem ogo_al {β : Type} (pl : Pl) (m : Nat) (ag : Bool) (f : AV → Option β) : ogo (.al pl m ag) f = f (.al pl m ag) := rfl
theorem ogo_sv {β : Type} (pl : Pl) (z lo hi : Nat) (f : AV → Option β) : ogo (.sv pl z lo hi) f = f (.sv pl z lo hi) := rfl
theorem ogo_clo {β : Type} (g : Nat) (caps : List AV) (f : AV → Option β) : ogo (.clo g caps) f = f (.clo g caps) := rfl
def oif {β : Type} (c : Bool) (x : Option β) : Option β := if c then x else none
@[congr] theorem oif_congr {β : Type} {c c' : Bool} {x : Option β} (h : c = c') : oif c x = oif c' x := by rw [h]
theorem oif_true {β : Type} (x : Option β) : oif true x = x := rfl
def ocond {β : Type} (c : Bool) (x y : Option β) : Option β := if c then x else y
@[congr] theorem ocond_congr {β : Type} {c c' : Bool} {x y : Option β} (h : c = c') : ocond c x y = ocond c' x y := by rw [h]
theorem ocond_true {β : Type} (x y : Option β) : ocond true x y = x := rfl
theorem ocond_false {β : Type} (x y : Option β) : ocond false x y = y := rfl
def ogcond {β : Type} (c : Bool) (x y : Option β) : Option β := if c then x else y
@[congr] theorem ogcond_congr {β : Type} {c c' : Bool} {x x' y y' : Option β} (h : c = c') (hx : c' = true → x = x') (hy : c' = false → y = y') : ogcond c x y = ogcond c' x' y' := by
  subst h
  cases c with
  | true => exact hx rfl
  | false => exact hy rfl
def ochk {β : Type} (c : Prop) [Decidable c] (x : Option β) : Option β := if c then x else none
@[congr] theorem ochk_congr {β : Type} {c c' : Prop} {d : Decidable c} [d' : Decidable c'] {x : Option β} (h : c = c') : @ochk β c d x = @ochk β c' d' x := by subst h; rw [Subsingleton.elim d d']
theorem ochk_pos {β : Type} {c : Prop} {d : Decidable c} {x : Option β} (h : c) : @ochk β c d x = x := if_pos h
def oSc : Val → Option PV
  | ⟨false, [.p c], _⟩ => some c
  | _ => none
theorem oSc_eq (c : PV) (s : Src) : oSc ⟨false, [.p c], s⟩ = some c := rfl
def oInt : PV → Option Int
  | .int _ n => some n
  | _ => none
theorem oInt_eq (k : IntKind) (n : Int) : oInt (.int k n) = some n := rfl
def onOk (K : Kills) (h d : Nat) : Bool := (K.getD h []).contains d && d != h
def oBox (m : Nat) : AV → Option (List OV)
  | .box cs => if cs.length = m then some cs else none
  | _ => none
theorem oBox_eq (m : Nat) (cs : List OV) : oBox m (.box cs) = if cs.length = m then some cs else none := rfl
def oBoxA : AV → Option (List OV)
  | .box cs => some cs
  | _ => none
theorem oBoxA_eq (cs : List OV) : oBoxA (.box cs) = some cs := rfl
theorem ob_congr {α β : Type} {x : Option α} {f g : α → Option β} (h : ∀ y, f y = g y) : obind x f = obind x g := by rw [show f = g from funext h]
theorem ob_assoc {α β γ : Type} (x : Option α) (f : α → Option β) (g : β → Option γ) : obind (obind x f) g = obind x fun y => obind (f y) g := by cases x <;> rfl
theorem oif_c {β : Type} {c : Bool} {x y : Option β} (h : x = y) : oif c x = oif c y := by rw [h]
theorem oif_b {α β : Type} (c : Bool) (x : Option α) (f : α → Option β) : obind (oif c x) f = oif c (obind x f) := by cases c <;> rfl
theorem ochk_c {β : Type} {c : Prop} [Decidable c] {x y : Option β} (h : x = y) : ochk c x = ochk c y := by rw [h]
theorem oif_dec {β : Type} (c : Prop) [Decidable c] (x : Option β) : oif (decide c) x = ochk c x := by unfold oif ochk; by_cases h : c <;> simp [h]
theorem ochk_beq {β : Type} (a b : Nat) (x : Option β) : ochk (a = b) x = oif (a == b) x := by unfold oif ochk; by_cases h : a = b <;> simp [h]
theorem gS {n : Nat} {l : Asc} (c : Bool) : Pg.runS n (Pg.guard c) l = oif c (some ((), l)) := by cases c <;> rfl
theorem gL {n : Nat} {l : Asc} {L : Lg} (c : Bool) : Pg.runL n (Pg.guard c) l L = oif c (some ((), l, L)) := by cases c <;> rfl
theorem oS {α : Type} {n : Nat} {l : Asc} (x : Option α) : Pg.runS n (Pg.opt x) l = obind x fun y => some (y, l) := by cases x <;> rfl
theorem oL {α : Type} {n : Nat} {l : Asc} {L : Lg} (x : Option α) : Pg.runL n (Pg.opt x) l L = obind x fun y => some (y, l, L) := by cases x <;> rfl
theorem iS {α : Type} {n : Nat} {l : Asc} (c : Prop) [Decidable c] (p : Pg α) : Pg.runS n (if c then p else .fail) l = ochk c (Pg.runS n p l) := by unfold ochk; split <;> rfl
theorem iL {α : Type} {n : Nat} {l : Asc} {L : Lg} (c : Prop) [Decidable c] (p : Pg α) : Pg.runL n (if c then p else .fail) l L = ochk c (Pg.runL n p l L) := by unfold ochk; split <;> rfl
theorem cS {α : Type} {n : Nat} {l : Asc} (c : Bool) (p q : Pg α) : Pg.runS n (if c then p else q) l = ocond c (Pg.runS n p l) (Pg.runS n q l) := by cases c <;> rfl
theorem cL {α : Type} {n : Nat} {l : Asc} {L : Lg} (c : Bool) (p q : Pg α) : Pg.runL n (if c then p else q) l L = ocond c (Pg.runL n p l L) (Pg.runL n q l L) := by cases c <;> rfl
def mkRep {α : Type} (n : Nat) (x : α) : List α := List.replicate n x
def copyS (s : Src) (cs : List OV) : Pg (List PV) :=
  match s with
  | .no => .ret (OV.frzs cs)
  | .at_ pl => (putPl pl (cs.map fun c => .p c.frz)).bind fun _ => .ret (OV.frzs cs)
  | .sub pl _ => (getPl pl 1).bind fun c => (Pg.guard (OV.wholes c)).bind fun _ => (putPl pl (c.map fun c => .p c.frz)).bind fun _ => .ret (OV.frzs cs)
def takeS (K : Kills) (s : Src) (cs : List OV) : Pg (List OV) :=
  match s with
  | .no => .ret cs
  | .at_ (.r d) => (wr K d .u).bind fun _ => .ret cs
  | .at_ pl => (putPl pl (cs.map fun _ => .hole)).bind fun _ => (killIf (AV.onEl pl.holder) (K.getD pl.holder [])).bind fun _ => .ret cs
  | .sub (.r d) _ => (wr K d .u).bind fun _ => .ret cs
  | .sub pl _ => (putPl pl [.hole]).bind fun _ => (killIf (AV.onEl pl.holder) (K.getD pl.holder [])).bind fun _ => .ret cs
def argW (K : Kills) (mv : Bool) (v : Val) : Pg (AV × Option Nat) := if mv then (take K v).bind fun cs => (Pg.opt (AV.mk v.ag cs)).bind fun x => .ret (x, none)
      else (copy v).bind fun cs => (Pg.opt (AV.mk v.ag (cs.map .p))).bind fun x => .ret (x, none)
def argV (K : Kills) (i : Nat) (mv : Bool) : AV → Pg (AV × Option Nat)
    | .box cs => (killMem K i).bind fun _ => .put i .u (.ret (.box cs, some i))
    | .ptr (.b d 0) => .get d fun | .box cs => (killMem K d).bind fun _ => .put d .u (.ret (.box cs, some d)) | _ => .fail
    | .fp cs => .ret (.fp cs, none)
    | .clo f caps => if caps.all (fun | .w c => c.plain | .a cs => plainAll cs | _ => false) then .ret (.clo f caps, none) else .fail
    | a => (valOf i a).bind (argW K mv)
def asgA (K : Kills) (dst : Option Nat) (i : Nat) : AV → Pg Unit
    | .mp _ => outOn K dst i (.al (.r i) 1 false)
    | .al (.r d) n false => .get d fun
      | .mp _ => outOn K dst d (.al (.r d) 1 false)
      | .u => .fail
      | _ => (valOf i (.al (.r d) n false)).bind fun v => (take K v).bind (outVal K dst v.ag)
    | a => movPtr K dst i ((valOf i a).bind fun v => (take K v).bind (outVal K dst v.ag)) a
def asgV (K : Kills) (dst : Option Nat) (i : Nat) (a : AV) : Pg Unit := (valOf i a).bind fun v => (take K v).bind (outVal K dst v.ag)
def frzV (K : Kills) (dst : Option Nat) (i : Nat) (a : AV) : Pg Unit := (valOf i a).bind fun v => (copy v).bind fun ps => outVal K dst v.ag (ps.map .p)
def frzA (K : Kills) (dst : Option Nat) (i : Nat) : AV → Pg Unit
    | .t vs => (Pg.guard (vs.all fun p => OV.wholes p.2)).bind fun _ => .put i (.t (frzT vs)) (movVal K dst i (.t (frzT vs)))
    | a => movPtr K dst i (frzV K dst i a) a
def movkA (K : Kills) (dst : Option Nat) (i : Nat) : AV → Pg Unit
    | .w (.own z els) => (valOf i (.w (.own z els))).bind fun v => (take K v).bind fun cs => .put i (.ln els.length) (outVal K dst v.ag cs)
    | _ => .fail
def nxtA (K : Kills) (dst : Option Nat) (i : Nat) : AV → Pg Unit
    | .it s pos => if pos < s.length then (killMem K i).bind fun _ => .put i (.it s (pos + (Utf8.decode ⟨s.toArray⟩ pos).2)) (out K dst (.t [(false, [.p (.bool true)]), (false, [.p (.int .i64 pos)]), (false, [.p (.int .i32 (Utf8.decode ⟨s.toArray⟩ pos).1)])]))
      else out K dst (.t [(false, [.p (.bool false)])])
    | _ => .fail
def loadfV (K : Kills) (dst : Option Nat) (n : Nat) (ag : Bool) : Pl ⊕ List PV → Pg Unit
    | .inl pl => (getPl pl n).bind fun cs => (copy ⟨ag, cs, .at_ pl⟩).bind fun ps => outVal K dst ag (ps.map .p)
    | .inr cs => (Pg.guard (decide (n ≤ cs.length))).bind fun _ => outVal K dst ag ((cs.take n).map .p)
def loadV (K : Kills) (dst : Option Nat) (n : Nat) (ag : Bool) : Pl ⊕ List PV → Pg Unit
    | .inl pl => (getPl pl n).bind fun cs => if plainAll cs then outVal K dst ag cs else outOn K dst pl.holder (.al pl n ag)
    | .inr cs => (Pg.guard (decide (n ≤ cs.length))).bind fun _ => outVal K dst ag ((cs.take n).map .p)
def storeC (K : Kills) (pl : Pl) (keep : Bool) (v : Val) : Pg (List OV) :=
      match pl, keep with
       | .e _ _ _ _ _, false => (copy v).bind fun cs => .ret (cs.map OV.p)
       | _, _ => take K v
def storeV (K : Kills) (n : Nat) (y : Od) (keep : Bool) : Pl ⊕ List PV → Pg Unit
    | .inl pl => (val y).bind fun v => (Pg.guard (v.cs.length == n && OV.wholes v.cs)).bind fun _ => (storeC K pl keep v).bind fun cs => (putPl pl cs).bind fun _ => killMem K pl.holder
    | .inr _ => .fail
def slcV (K : Kills) (dst : Option Nat) (z : Nat) (cs : List OV) (s : Src) (l h : Nat) : Pg Unit := match cs with
    | [.p (.sl z' els)] => if z' = z then out K dst (.w (.p (.sl z ((els.take h).drop l)))) else .fail
    | [.own z' els] => if z' = z then match s with
      | .no => out K dst (.w (.own z ((els.take h).drop l)))
      | .at_ pl => outOn K dst pl.holder (.sv pl z l h)
      | .sub _ _ => .fail else .fail
    | _ => .fail
def fadV (K : Kills) (dst : Option Nat) (off : Nat) : Pl ⊕ List PV → Pg Unit
  | .inl pl => outOn K dst pl.holder (.ptr (pl.plus off))
  | .inr cs => out K dst (.fp (cs.drop off))
def iadV (K : Kills) (dst : Option Nat) (z : Nat) (v : Val) (i : Nat) : Pg Unit := match v.cs with
    | [.p (.sl z' els)] => if z' = z then (Pg.opt els[i]?).bind fun e => out K dst (.fp e) else .fail
    | [.own z' els] => if z' = z then (Pg.guard (decide (i < els.length))).bind fun _ => match v.src with
      | .at_ (.r d) => outOn K dst d (.ptr (.e d none z i 0))
      | .at_ (.b d off) => outOn K dst d (.ptr (.e d (some off) z i 0))
      | .sub (.r d) lo => outOn K dst d (.ptr (.e d none z (lo + i) 0))
      | .sub (.b d off) lo => outOn K dst d (.ptr (.e d (some off) z (lo + i) 0))
      | _ => (copy v).bind fun | [.sl _ els] => (Pg.opt els[i]?).bind fun e => out K dst (.fp e) | _ => .fail else .fail
    | _ => .fail
def extuK (K : Kills) (dst : Option Nat) (i : Nat) : Option (Bool × Nat) → Pg Unit
  | some (true, m) => if i < m then out K dst .u else .fail
  | _ => .fail
def extV (K : Kills) (dst : Option Nat) (x i : Nat) (vs : List (Bool × List OV)) : Pg Unit := (Pg.opt vs[i]?).bind fun (ag, cs) => if plainAll cs then outVal K dst ag cs
      else .pute x (.t (vs.set i (ag, cs.map fun _ => .hole))) (outVal K dst ag cs)
def callvV (K : Kills) (cf : Nat → List AV → Option CRes) (dst : Option Nat) (f : Nat) (caps : List AV) (args : List (Od × Bool)) : Pg Unit := (argsP K args).bind fun (as, ls) => (capsP K caps).bind fun (cs, ms) => callP K cf dst f (as ++ cs) (ls ++ ms)
def appC (K : Kills) (keep : Bool) (u : Val) : Pg (List OV) := if keep then take K u else (copy u).bind fun cs => .ret (cs.map OV.p)
def skipP (K : Kills) (d : Option Nat) : Pg Unit := match d with | some d => wr K d (.t []) | none => .ret ()
def oBool : PV → Option Bool
  | .bool b => some b
  | _ => none
theorem oBool_eq (b : Bool) : oBool (.bool b) = some b := rfl
def oStr : PV → Option (List UInt8)
  | .str s => some s
  | _ => none
theorem oStr_eq (s : List UInt8) : oStr (.str s) = some s := rfl
def oBit : AV → Option Bool
  | .w (.p (.bool b)) => some b
  | _ => none
def oBitT : AV → Option Bool
  | .w (.p (.bool b)) => some b
  | .t [] => some false
  | _ => none
def oBitF : AV → Option Bool
  | .w (.p (.bool b)) => some b
  | .t [] => some true
  | _ => none
theorem oBitT_eq (b : Bool) : oBitT (.w (.p (.bool b))) = some b := rfl
theorem oBitF_eq (b : Bool) : oBitF (.w (.p (.bool b))) = some b := rfl
theorem oBitT_t : oBitT (.t []) = some false := rfl
theorem oBitF_t : oBitF (.t []) = some true := rfl
def oB2s : List OV → Option (List UInt8)
  | [.p (.sl 1 els)] => bytesOf els
  | [.own 1 els] => if OV.wholess els then bytesOf (OV.frzss els) else none
  | _ => none
def oOwn (z : Nat) : List OV → Option (List (List OV))
  | [.own z' els] => if z' == z then some els else none
  | _ => none
theorem oOwn_eq (z : Nat) (els : List (List OV)) : oOwn z [.own z els] = some els := by simp [oOwn]
def oEl (z : Nat) : List OV → Option (List (List OV))
  | [.p (.sl z' els)] => if z' == z then some (plains els) else none
  | [.own z' els] => if z' == z && OV.wholess els then some els else none
  | _ => none
theorem oEl_o (z : Nat) (els : List (List OV)) : oEl z [.own z els] = if OV.wholess els then some els else none := by simp [oEl]
def oEls : List PV → Option (List (List PV))
  | [.sl _ els] => some els
  | _ => none
def mmPV (max : Bool) : PV → PV → Option PV
  | .int k a, .int k' b => if k = k' then some (.int k (if max then (if b > a then b else a) else (if b < a then b else a))) else none
  | _, _ => none
theorem mmPV_max (k : IntKind) (a b : Int) : mmPV true (.int k a) (.int k b) = some (.int k (if b > a then b else a)) := by simp [mmPV]
def capV (i : Nat) : AV → AV
  | .box _ => .ptr (.b i 0)
  | v => v
theorem plains_length (els : List (List PV)) : (plains els).length = els.length := by simp [plains]
theorem xS_bind {n : Nat} {l : Asc} {α β : Type} (p : Pg α) (f : α → Pg β) : (Pg.runS n (p.bind f) l) = obind ((Pg.runS n (p) l)) fun q => (Pg.runS n (f q.1) q.2) := by first | rfl | exact runS_bind .. | exact (runS_bind ..).trans rfl
theorem xS_ret {n : Nat} {l : Asc} {α : Type} (x : α) : (Pg.runS n (Pg.ret x) l) = some (x, l) := rfl
theorem xS_opt {n : Nat} {l : Asc} {α : Type} (x : α) : (Pg.runS n (Pg.opt (some x)) l) = some (x, l) := rfl
theorem xS_val_t {n : Nat} {l : Asc} (i : Nat) : (Pg.runS n (val (.t i)) l) = ogo (look l i) fun v => (Pg.runS n (valOf i v) l) := rfl
theorem xS_val_cw {n : Nat} {l : Asc} (c : OV) : (Pg.runS n (val (.c (.w c))) l) = some ((⟨false, [c], .no⟩ : Val), l) := rfl
theorem xS_valOf_w {n : Nat} {l : Asc} (x : Nat) (c : OV) : (Pg.runS n (valOf x (.w c)) l) = some ((⟨false, [c], .at_ (.r x)⟩ : Val), l) := rfl
theorem xS_valOf_a {n : Nat} {l : Asc} (x : Nat) (c : List OV) : (Pg.runS n (valOf x (.a c)) l) = some ((⟨true, c, .at_ (.r x)⟩ : Val), l) := rfl
theorem xS_valOf_alr {n : Nat} {l : Asc} (x d m : Nat) (ag : Bool) : (Pg.runS n (valOf x (.al (.r d) m ag)) l) = ogo (look l d) fun v => (Pg.runS n (match v.cells with | some (ag', cs) => if ag' = ag then .ret ⟨ag, cs, .at_ (.r d)⟩ else .fail | none => .fail) l) := rfl
theorem xS_valOf_alb {n : Nat} {l : Asc} (x d o m : Nat) (ag : Bool) : (Pg.runS n (valOf x (.al (.b d o) m ag)) l) = obind ((Pg.runS n (getPl (.b d o) m) l)) fun q => some ((⟨ag, q.1, .at_ (.b d o)⟩ : Val), q.2) := by first | rfl | exact runS_bind .. | exact (runS_bind ..).trans rfl
theorem xS_valOf_svb {n : Nat} {l : Asc} (x d o z lo hi : Nat) : (Pg.runS n (valOf x (.sv (.b d o) z lo hi)) l) = obind ((Pg.runS n (getPl (.b d o) 1) l)) fun q => obind (subOf z lo hi q.1) fun cs' => some ((⟨false, cs', .sub (.b d o) lo⟩ : Val), q.2) := by
  all_goals (try (simp only [valOf, xS_bind, xS_ret, gS, oS, ob_assoc, oif_b, obind_some]))
  repeat' (first | with_reducible rfl | (with_reducible refine ob_congr fun _ => ?_) | (with_reducible refine oif_c ?_) | (with_reducible refine ochk_c ?_) | (simp only [xS_bind, xS_ret, gS, oS, iS, ob_assoc, oif_b, obind_some]))
  all_goals first | rfl | skip
  all_goals (rfl)
theorem xS_getPl_b {n : Nat} {l : Asc} (d o m : Nat) : (Pg.runS n (getPl (.b d o) m) l) = ogo (look l d) fun v => (Pg.runS n (Pg.opt (getIn v (.b d o) m)) l) := rfl
theorem xS_getPl_e {n : Nat} {l : Asc} (d : Nat) (c : Option Nat) (z i o m : Nat) : (Pg.runS n (getPl (.e d c z i o) m) l) = ogo (look l d) fun v => (Pg.runS n (Pg.opt (getIn v (.e d c z i o) m)) l) := rfl
theorem xS_putPl_r {n : Nat} {l : Asc} (d : Nat) (cs : List OV) : (Pg.runS n (putPl (.r d) cs) l) = ogo (look l d) fun v => obind (putIn v (.r d) cs) fun v' => (Pg.runS n (Pg.put d v' (.ret ())) l) := by
  exact (xS_bind (Pg.opt (putIn (look l d) _ cs)) (fun v' => Pg.put d v' (.ret ()))).trans (by rw [oS, ob_assoc]; rfl)
theorem xS_putPl_b {n : Nat} {l : Asc} (d o : Nat) (cs : List OV) : (Pg.runS n (putPl (.b d o) cs) l) = ogo (look l d) fun v => obind (putIn v (.b d o) cs) fun v' => (Pg.runS n (Pg.put d v' (.ret ())) l) := by
  exact (xS_bind (Pg.opt (putIn (look l d) _ cs)) (fun v' => Pg.put d v' (.ret ()))).trans (by rw [oS, ob_assoc]; rfl)
theorem xS_putPl_e {n : Nat} {l : Asc} (d c z i o : Nat) (cs : List OV) : (Pg.runS n (putPl (.e d (some c) z i o) cs) l) = ogo (look l d) fun v => obind (putIn v (.e d (some c) z i o) cs) fun v' => (Pg.runS n (Pg.put d v' (.ret ())) l) := by
  exact (xS_bind (Pg.opt (putIn (look l d) _ cs)) (fun v' => Pg.put d v' (.ret ()))).trans (by rw [oS, ob_assoc]; rfl)
theorem xS_putPl_e0 {n : Nat} {l : Asc} (d z i o : Nat) (cs : List OV) : (Pg.runS n (putPl (.e d none z i o) cs) l) = ogo (look l d) fun v => obind (putIn v (.e d none z i o) cs) fun v' => (Pg.runS n (Pg.pute d v' (.ret ())) l) := by
  exact (xS_bind (Pg.opt (putIn (look l d) _ cs)) (fun v' => Pg.pute d v' (.ret ()))).trans (by rw [oS, ob_assoc]; rfl)
theorem xS_pute {n : Nat} {l : Asc} {α : Type} (t : Nat) (v : AV) (k : Pg α) : (Pg.runS n (Pg.pute t v k) l) = oif (sameRow v (look l t)) (oif (decide (t < n)) ((Pg.runS n (k) (ins t v l)))) := by
  exact congrArg (oif _) (oif_dec (_ < n) _).symm
theorem xS_put {n : Nat} {l : Asc} {α : Type} (t : Nat) (v : AV) (k : Pg α) : (Pg.runS n (Pg.put t v k) l) = oif (decide (t < n)) ((Pg.runS n (k) (ins t v l))) := by
  exact (oif_dec (_ < n) _).symm
theorem xS_wr {n : Nat} {l : Asc} (K : Kills) (d : Nat) (v : AV) : (Pg.runS n (wr K d v) l) = oif (decide (d < n)) (some ((), ins d v (killF (AV.on d) (K.getD d []) l))) := by
  exact (oif_dec (_ < n) _).symm
theorem xS_copy {n : Nat} {l : Asc} (ag : Bool) (cs : List OV) (s : Src) : (Pg.runS n (copy ⟨ag, cs, s⟩) l) = ocond (plainAll cs) (some (OV.frzs cs, l)) (oif (OV.wholes cs) ((Pg.runS n (copyS s cs) l))) := by
  exact (cS ..).trans (congrArg (ocond _ _) (cS ..))
theorem xS_copyS_at {n : Nat} {l : Asc} (pl : Pl) (cs : List OV) : (Pg.runS n (copyS (.at_ pl) cs) l) = obind ((Pg.runS n (putPl pl (cs.map fun c => .p c.frz)) l)) fun q => some (OV.frzs cs, q.2) := by first | rfl | exact runS_bind .. | exact (runS_bind ..).trans rfl
theorem xS_take {n : Nat} {l : Asc} (K : Kills) (ag : Bool) (cs : List OV) (s : Src) : (Pg.runS n (take K ⟨ag, cs, s⟩) l) = ocond (plainAll cs) (some (cs, l)) ((Pg.runS n (takeS K s cs) l)) := by
  exact cS ..
theorem xS_takeS_no {n : Nat} {l : Asc} (K : Kills) (cs : List OV) : (Pg.runS n (takeS K .no cs) l) = some (cs, l) := rfl
theorem xS_takeS_atr {n : Nat} {l : Asc} (K : Kills) (d : Nat) (cs : List OV) : (Pg.runS n (takeS K (.at_ (.r d)) cs) l) = obind ((Pg.runS n (wr K d .u) l)) fun q => some (cs, q.2) := by first | rfl | exact runS_bind .. | exact (runS_bind ..).trans rfl
theorem xS_takeS_atb {n : Nat} {l : Asc} (K : Kills) (d o : Nat) (cs : List OV) : (Pg.runS n (takeS K (.at_ (.b d o)) cs) l) = obind ((Pg.runS n (putPl (.b d o) (cs.map fun _ => .hole)) l)) fun q => obind ((Pg.runS n (killIf (AV.onEl d) (K.getD d [])) q.2)) fun q => some (cs, q.2) := by
  all_goals (try (simp only [takeS, xS_bind, xS_ret, gS, oS, ob_assoc, oif_b, obind_some]))
  repeat' (first | with_reducible rfl | (with_reducible refine ob_congr fun _ => ?_) | (with_reducible refine oif_c ?_) | (with_reducible refine ochk_c ?_) | (simp only [xS_bind, xS_ret, gS, oS, iS, ob_assoc, oif_b, obind_some]))
  all_goals first | rfl | skip
  all_goals (rfl)
theorem xS_takeS_subb {n : Nat} {l : Asc} (K : Kills) (d o lo : Nat) (cs : List OV) : (Pg.runS n (takeS K (.sub (.b d o) lo) cs) l) = obind ((Pg.runS n (putPl (.b d o) [.hole]) l)) fun q => obind ((Pg.runS n (killIf (AV.onEl d) (K.getD d [])) q.2)) fun q => some (cs, q.2) := by
  all_goals (try (simp only [takeS, xS_bind, xS_ret, gS, oS, ob_assoc, oif_b, obind_some]))
  repeat' (first | with_reducible rfl | (with_reducible refine ob_congr fun _ => ?_) | (with_reducible refine oif_c ?_) | (with_reducible refine ochk_c ?_) | (simp only [xS_bind, xS_ret, gS, oS, iS, ob_assoc, oif_b, obind_some]))
  all_goals first | rfl | skip
  all_goals (rfl)
theorem xS_out_some {n : Nat} {l : Asc} (K : Kills) (d : Nat) (v : AV) : (Pg.runS n (out K (some d) v) l) = (Pg.runS n (wr K d v) l) := rfl
theorem xS_outOn_some {n : Nat} {l : Asc} (K : Kills) (h d : Nat) (v : AV) (hc : onOk K h d = true) : (Pg.runS n (outOn K (some d) h v) l) = (Pg.runS n (wr K d v) l) := by
  all_goals (try (simp only [outOn, xS_bind, xS_ret, gS, oS, ob_assoc, oif_b, obind_some]))
  repeat' (first | with_reducible rfl | (with_reducible refine ob_congr fun _ => ?_) | (with_reducible refine oif_c ?_) | (with_reducible refine ochk_c ?_) | (simp only [xS_bind, xS_ret, gS, oS, iS, ob_assoc, oif_b, obind_some]))
  all_goals first | rfl | skip
  all_goals (exact ochk_pos hc)
theorem xS_outVal_w {n : Nat} {l : Asc} (K : Kills) (dst : Option Nat) (c : OV) : (Pg.runS n (outVal K dst false [c]) l) = (Pg.runS n (out K dst (.w c)) l) := rfl
theorem xS_outVal_a {n : Nat} {l : Asc} (K : Kills) (dst : Option Nat) (cs : List OV) : (Pg.runS n (outVal K dst true cs) l) = (Pg.runS n (out K dst (.a cs)) l) := rfl
theorem xS_sc {n : Nat} {l : Asc} (x : Od) : (Pg.runS n (sc x) l) = obind ((Pg.runS n (val x) l)) fun q => obind (oSc q.1) fun c => some (c, q.2) := by
  all_goals (try (simp only [sc, xS_bind, xS_ret, gS, oS, ob_assoc, oif_b, obind_some]))
  repeat' (first | with_reducible rfl | (with_reducible refine ob_congr fun _ => ?_) | (with_reducible refine oif_c ?_) | (with_reducible refine ochk_c ?_) | (simp only [xS_bind, xS_ret, gS, oS, iS, ob_assoc, oif_b, obind_some]))
  all_goals first | rfl | skip
  all_goals (rename_i y; rcases y with ⟨⟨ag, cs, s⟩, z⟩; cases ag <;> first | rfl | (rcases cs with _ | ⟨c, _ | ⟨c', cs⟩⟩ <;> first | rfl | (cases c <;> rfl)))
theorem xS_scInt {n : Nat} {l : Asc} (x : Od) : (Pg.runS n (scInt x) l) = obind ((Pg.runS n (sc x) l)) fun q => obind (oInt q.1) fun c => some (c, q.2) := by
  all_goals (try (simp only [scInt, xS_bind, xS_ret, gS, oS, ob_assoc, oif_b, obind_some]))
  repeat' (first | with_reducible rfl | (with_reducible refine ob_congr fun _ => ?_) | (with_reducible refine oif_c ?_) | (with_reducible refine ochk_c ?_) | (simp only [xS_bind, xS_ret, gS, oS, iS, ob_assoc, oif_b, obind_some]))
  all_goals first | rfl | skip
  all_goals (rename_i y; rcases y with ⟨y, z⟩; cases y <;> rfl)
theorem xS_movPtr_box {n : Nat} {l : Asc} (K : Kills) (dst : Option Nat) (i : Nat) (els : Pg Unit) (cs : List OV) : (Pg.runS n (movPtr K dst i els (.box cs)) l) = (Pg.runS n (outOn K dst i (.ptr (.b i 0))) l) := rfl
theorem xS_movPtr_ptr {n : Nat} {l : Asc} (K : Kills) (dst : Option Nat) (i : Nat) (els : Pg Unit) (pl : Pl) : (Pg.runS n (movPtr K dst i els (.ptr pl)) l) = (Pg.runS n (outOn K dst pl.holder (.ptr pl)) l) := rfl
theorem xS_movPtr_clo {n : Nat} {l : Asc} (K : Kills) (d i : Nat) (els : Pg Unit) (g : Nat) (caps : List AV) : (Pg.runS n (movPtr K (some d) i els (.clo g caps)) l) = oif (capsOn K d caps) ((Pg.runS n (wr K d (.clo g caps)) l)) := by
  all_goals (try (simp only [movPtr, xS_bind, xS_ret, gS, oS, ob_assoc, oif_b, obind_some]))
  repeat' (first | with_reducible rfl | (with_reducible refine ob_congr fun _ => ?_) | (with_reducible refine oif_c ?_) | (with_reducible refine ochk_c ?_) | (simp only [xS_bind, xS_ret, gS, oS, iS, ob_assoc, oif_b, obind_some]))
  all_goals first | rfl | skip
  all_goals (rfl)
theorem xS_movPtr_w {n : Nat} {l : Asc} (K : Kills) (dst : Option Nat) (i : Nat) (els : Pg Unit) (c : OV) : (Pg.runS n (movPtr K dst i els (.w c)) l) = (Pg.runS n (els) l) := rfl
theorem xS_movVal_w {n : Nat} {l : Asc} (K : Kills) (dst : Option Nat) (i : Nat) (c : OV) : (Pg.runS n (movVal K dst i (.w c)) l) = ocond c.plain ((Pg.runS n (out K dst (.w c)) l)) ((Pg.runS n (outOn K dst i (.al (.r i) 1 false)) l)) := by
  all_goals (try (simp only [movVal, xS_bind, xS_ret, gS, oS, ob_assoc, oif_b, obind_some]))
  repeat' (first | with_reducible rfl | (with_reducible refine ob_congr fun _ => ?_) | (with_reducible refine oif_c ?_) | (with_reducible refine ochk_c ?_) | (simp only [xS_bind, xS_ret, gS, oS, iS, ob_assoc, oif_b, obind_some]))
  all_goals first | rfl | skip
  all_goals (exact cS ..)
theorem xS_movVal_t {n : Nat} {l : Asc} (K : Kills) (dst : Option Nat) (i : Nat) (vs : List (Bool × List OV)) : (Pg.runS n (movVal K dst i (.t vs)) l) = obind ((Pg.runS n (wr K i .u) l)) fun q => (Pg.runS n (out K dst (.t vs)) q.2) := by first | rfl | exact runS_bind .. | exact (runS_bind ..).trans rfl
theorem xS_movPtr_t {n : Nat} {l : Asc} (K : Kills) (dst : Option Nat) (i : Nat) (els : Pg Unit) (vs : List (Bool × List OV)) : (Pg.runS n (movPtr K dst i els (.t vs)) l) = (Pg.runS n (els) l) := rfl
theorem xS_adr {n : Nat} {l : Asc} (i : Nat) : (Pg.runS n (adr (.t i)) l) = ogo (look l i) fun v => (Pg.runS n (match v with | .box _ => .ret (.inl (.b i 0)) | .ptr pl => .ret (.inl pl) | .fp cs => .ret (.inr cs) | _ => .fail) l) := rfl
theorem xS_build_nil {n : Nat} {l : Asc} (K : Kills) (cs : List OV) : (Pg.runS n (buildP K cs []) l) = some (cs, l) := rfl
theorem xS_build_cons {n : Nat} {l : Asc} (K : Kills) (cs : List OV) (off m : Nat) (x : Od) (ps : List (Nat × Nat × Od)) : (Pg.runS n (buildP K cs ((off, m, x) :: ps)) l) = obind ((Pg.runS n (val x) l)) fun q => oif (q.1.cs.length == m && OV.wholes q.1.cs) (obind ((Pg.runS n (take K q.1) q.2)) fun q => obind (cellsPut cs off q.1) fun cs' => (Pg.runS n (buildP K cs' ps) q.2)) := by
  all_goals (try (simp only [buildP, xS_bind, xS_ret, gS, oS, ob_assoc, oif_b, obind_some]))
  repeat' (first | with_reducible rfl | (with_reducible refine ob_congr fun _ => ?_) | (with_reducible refine oif_c ?_) | (with_reducible refine ochk_c ?_) | (simp only [xS_bind, xS_ret, gS, oS, iS, ob_assoc, oif_b, obind_some]))
  all_goals first | rfl | skip
  all_goals (rfl)
theorem xS_bslice_nil {n : Nat} {l : Asc} (K : Kills) (z : Nat) (els : List (List OV)) : (Pg.runS n (bsliceP K z els []) l) = some (els, l) := rfl
theorem xS_bslice_cons {n : Nat} {l : Asc} (K : Kills) (z : Nat) (els : List (List OV)) (i : Nat) (x : Od) (ps : List (Nat × Od)) : (Pg.runS n (bsliceP K z els ((i, x) :: ps)) l) = obind ((Pg.runS n (val x) l)) fun q => oif (q.1.cs.length == z && decide (i < els.length) && OV.wholes q.1.cs) (obind ((Pg.runS n (take K q.1) q.2)) fun q => (Pg.runS n (bsliceP K z (els.set i q.1) ps) q.2)) := by
  all_goals (try (simp only [bsliceP, xS_bind, xS_ret, gS, oS, ob_assoc, oif_b, obind_some]))
  repeat' (first | with_reducible rfl | (with_reducible refine ob_congr fun _ => ?_) | (with_reducible refine oif_c ?_) | (with_reducible refine ochk_c ?_) | (simp only [xS_bind, xS_ret, gS, oS, iS, ob_assoc, oif_b, obind_some]))
  all_goals first | rfl | skip
  all_goals (rfl)
theorem xS_ends_ns {n : Nat} {l : Asc} (len : Nat) (y : Od) : (Pg.runS n (ends len none (some y)) l) = obind ((Pg.runS n (scInt y) l)) fun q => ochk (0 ≤ q.1 ∧ q.1 ≤ (len : Int)) (some ((0, q.1.toNat), q.2)) := by
  all_goals (try (simp only [ends, xS_bind, xS_ret, gS, oS, ob_assoc, oif_b, obind_some]))
  repeat' (first | with_reducible rfl | (with_reducible refine ob_congr fun _ => ?_) | (with_reducible refine oif_c ?_) | (with_reducible refine ochk_c ?_) | (simp only [xS_bind, xS_ret, gS, oS, iS, ob_assoc, oif_b, obind_some]))
  all_goals first | rfl | skip
  all_goals (simp [ochk])
theorem xS_argP_cw {n : Nat} {l : Asc} (K : Kills) (c : OV) (mv : Bool) : (Pg.runS n (argP K (.c (.w c), mv)) l) = some ((AV.w (if mv || !c.whole then c else .p c.frz), (none : Option Nat)), l) := rfl
theorem xS_argP_clo {n : Nat} {l : Asc} (K : Kills) (g : Nat) (mv : Bool) : (Pg.runS n (argP K (.c (.clo g []), mv)) l) = some ((AV.clo g [], (none : Option Nat)), l) := rfl
theorem xS_argP_t {n : Nat} {l : Asc} (K : Kills) (i : Nat) (mv : Bool) : (Pg.runS n (argP K (.t i, mv)) l) = ogo (look l i) fun v => (Pg.runS n (argV K i mv v) l) := by
  simp only [argP, Pg.runS, ogo]; generalize look l i = v; cases v <;> rfl
theorem xS_argV_box {n : Nat} {l : Asc} (K : Kills) (i : Nat) (mv : Bool) (cs : List OV) : (Pg.runS n (argV K i mv (.box cs)) l) = obind ((Pg.runS n (killMem K i) l)) fun q => (Pg.runS n (Pg.put i .u (.ret (AV.box cs, some i))) q.2) := by first | rfl | exact runS_bind .. | exact (runS_bind ..).trans rfl
theorem xS_argV_ptr {n : Nat} {l : Asc} (K : Kills) (i d : Nat) (mv : Bool) : (Pg.runS n (argV K i mv (.ptr (.b d 0))) l) = ogo (look l d) fun v => (Pg.runS n (match v with | .box cs => (killMem K d).bind fun _ => .put d .u (.ret (.box cs, some d)) | _ => .fail) l) := rfl
theorem xS_argV_clo {n : Nat} {l : Asc} (K : Kills) (i g : Nat) (mv : Bool) (caps : List AV) : (Pg.runS n (argV K i mv (.clo g caps)) l) = oif (caps.all (fun | .w c => c.plain | .a cs => plainAll cs | _ => false)) (some ((AV.clo g caps, (none : Option Nat)), l)) := by
  all_goals (try (simp only [argV, xS_bind, xS_ret, gS, oS, ob_assoc, oif_b, obind_some]))
  repeat' (first | with_reducible rfl | (with_reducible refine ob_congr fun _ => ?_) | (with_reducible refine oif_c ?_) | (with_reducible refine ochk_c ?_) | (simp only [xS_bind, xS_ret, gS, oS, iS, ob_assoc, oif_b, obind_some]))
  all_goals first | rfl | skip
  all_goals (rfl)
theorem xS_argV_w {n : Nat} {l : Asc} (K : Kills) (i : Nat) (mv : Bool) (c : OV) : (Pg.runS n (argV K i mv (.w c)) l) = obind ((Pg.runS n (valOf i (.w c)) l)) fun q => (Pg.runS n (argW K mv q.1) q.2) := by first | rfl | exact runS_bind .. | exact (runS_bind ..).trans rfl
theorem xS_argV_a {n : Nat} {l : Asc} (K : Kills) (i : Nat) (mv : Bool) (c : List OV) : (Pg.runS n (argV K i mv (.a c)) l) = obind ((Pg.runS n (valOf i (.a c)) l)) fun q => (Pg.runS n (argW K mv q.1) q.2) := by first | rfl | exact runS_bind .. | exact (runS_bind ..).trans rfl
theorem xS_argV_al {n : Nat} {l : Asc} (K : Kills) (i : Nat) (mv : Bool) (pl : Pl) (m : Nat) (ag : Bool) : (Pg.runS n (argV K i mv (.al pl m ag)) l) = obind ((Pg.runS n (valOf i (.al pl m ag)) l)) fun q => (Pg.runS n (argW K mv q.1) q.2) := by first | rfl | exact runS_bind .. | exact (runS_bind ..).trans rfl
theorem xS_argW_m {n : Nat} {l : Asc} (K : Kills) (x : Val) : (Pg.runS n (argW K true x) l) = obind ((Pg.runS n (take K x) l)) fun q => obind (AV.mk x.ag q.1) fun y => some ((y, (none : Option Nat)), q.2) := by
  exact (xS_bind ..).trans (ob_congr fun q => (xS_bind ..).trans (by rw [oS, ob_assoc]; rfl))
theorem xS_argW_c {n : Nat} {l : Asc} (K : Kills) (x : Val) : (Pg.runS n (argW K false x) l) = obind ((Pg.runS n (copy x) l)) fun q => obind (AV.mk x.ag (q.1.map .p)) fun y => some ((y, (none : Option Nat)), q.2) := by
  exact (xS_bind ..).trans (ob_congr fun q => (xS_bind ..).trans (by rw [oS, ob_assoc]; rfl))
theorem xS_args_nil {n : Nat} {l : Asc} (K : Kills) : (Pg.runS n (argsP K []) l) = some ((([] : List AV), ([] : List Nat)), l) := rfl
theorem xS_args_cons {n : Nat} {l : Asc} (K : Kills) (x : Od × Bool) (xs : List (Od × Bool)) : (Pg.runS n (argsP K (x :: xs)) l) = obind ((Pg.runS n (argP K x) l)) fun p => obind ((Pg.runS n (argsP K xs) p.2)) fun q => some ((p.1.1 :: q.1.1, p.1.2.toList ++ q.1.2), q.2) := by
  all_goals (try (simp only [argsP, xS_bind, xS_ret, gS, oS, ob_assoc, oif_b, obind_some]))
  repeat' (first | with_reducible rfl | (with_reducible refine ob_congr fun _ => ?_) | (with_reducible refine oif_c ?_) | (with_reducible refine ochk_c ?_) | (simp only [xS_bind, xS_ret, gS, oS, iS, ob_assoc, oif_b, obind_some]))
  all_goals first | rfl | skip
  all_goals (rfl)
theorem xS_caps_nil {n : Nat} {l : Asc} (K : Kills) : (Pg.runS n (capsP K []) l) = some ((([] : List AV), ([] : List Nat)), l) := rfl
theorem xS_give_nil {n : Nat} {l : Asc} (K : Kills) : (Pg.runS n (giveBack K [] []) l) = some ((), l) := rfl
theorem xS_give_cons {n : Nat} {l : Asc} (K : Kills) (d : Nat) (ds : List Nat) (cs : List OV) (css : List (List OV)) : (Pg.runS n (giveBack K (d :: ds) (cs :: css)) l) = (Pg.runS n (Pg.put d (.box cs) ((killMem K d).bind fun _ => giveBack K ds css)) l) := rfl
theorem xS_outRes_1 {n : Nat} {l : Asc} (K : Kills) (dst : Option Nat) (ag : Bool) (cs : List OV) : (Pg.runS n (outRes K dst [(ag, cs)]) l) = (Pg.runS n (outVal K dst ag cs) l) := rfl
theorem xS_outRes_2 {n : Nat} {l : Asc} (K : Kills) (dst : Option Nat) (x y : Bool × List OV) (vs : List (Bool × List OV)) : (Pg.runS n (outRes K dst (x :: y :: vs)) l) = (Pg.runS n (out K dst (.t (x :: y :: vs))) l) := rfl
theorem xS_callP {n : Nat} {l : Asc} (K : Kills) (cf : Nat → List AV → Option CRes) (dst : Option Nat) (f : Nat) (as : List AV) (ls : List Nat) : (Pg.runS n (callP K cf dst f as ls) l) = obind (cf f as) fun p => obind ((Pg.runS n (giveBack K ls p.2) l)) fun q => (Pg.runS n (outRes K dst p.1) q.2) := by
  all_goals (try (simp only [callP, xS_bind, xS_ret, gS, oS, ob_assoc, oif_b, obind_some]))
  repeat' (first | with_reducible rfl | (with_reducible refine ob_congr fun _ => ?_) | (with_reducible refine oif_c ?_) | (with_reducible refine ochk_c ?_) | (simp only [xS_bind, xS_ret, gS, oS, iS, ob_assoc, oif_b, obind_some]))
  all_goals first | rfl | skip
  all_goals (rfl)
theorem xS_op_mov_c {n : Nat} {l : Asc} (K : Kills) (cf : Nat → List AV → Option CRes) (dst : Option Nat) (v : AV) : (Pg.runS n (opP K cf dst (.mov (.c v))) l) = (Pg.runS n (out K dst v) l) := rfl
theorem xS_op_mov_t {n : Nat} {l : Asc} (K : Kills) (cf : Nat → List AV → Option CRes) (dst : Option Nat) (i : Nat) : (Pg.runS n (opP K cf dst (.mov (.t i))) l) = ogo (look l i) fun v => (Pg.runS n (movPtr K dst i (movVal K dst i v) v) l) := rfl
theorem xS_op_asg_c {n : Nat} {l : Asc} (K : Kills) (cf : Nat → List AV → Option CRes) (dst : Option Nat) (v : AV) : (Pg.runS n (opP K cf dst (.asg (.c v))) l) = (Pg.runS n (out K dst v) l) := rfl
theorem xS_op_asg_t {n : Nat} {l : Asc} (K : Kills) (cf : Nat → List AV → Option CRes) (dst : Option Nat) (i : Nat) : (Pg.runS n (opP K cf dst (.asg (.t i))) l) = ogo (look l i) fun v => (Pg.runS n (asgA K dst i v) l) := by
  simp only [opP, Pg.runS, ogo]; generalize look l i = v; cases v <;> rfl
theorem xS_asgA_w {n : Nat} {l : Asc} (K : Kills) (dst : Option Nat) (i : Nat) (c : OV) : (Pg.runS n (asgA K dst i (.w c)) l) = (Pg.runS n (movPtr K dst i (asgV K dst i (.w c)) (.w c)) l) := rfl
theorem xS_asgA_alr {n : Nat} {l : Asc} (K : Kills) (dst : Option Nat) (i d m : Nat) : (Pg.runS n (asgA K dst i (.al (.r d) m false)) l) = ogo (look l d) fun v => (Pg.runS n (match v with | .mp _ => outOn K dst d (.al (.r d) 1 false) | .u => .fail | _ => asgV K dst i (.al (.r d) m false)) l) := rfl
theorem xS_op_rng {n : Nat} {l : Asc} (K : Kills) (cf : Nat → List AV → Option CRes) (dst : Option Nat) (x : Od) : (Pg.runS n (opP K cf dst (.rng x)) l) = obind ((Pg.runS n (sc x) l)) fun q => obind (oStr q.1) fun s => (Pg.runS n (out K dst (.it s 0)) q.2) := by
  all_goals (try (simp only [opP, xS_bind, xS_ret, gS, oS, ob_assoc, oif_b, obind_some]))
  repeat' (first | with_reducible rfl | (with_reducible refine ob_congr fun _ => ?_) | (with_reducible refine oif_c ?_) | (with_reducible refine ochk_c ?_) | (simp only [xS_bind, xS_ret, gS, oS, iS, ob_assoc, oif_b, obind_some]))
  all_goals first | rfl | skip
  all_goals (rename_i y; rcases y with ⟨y, z⟩; cases y <;> rfl)
theorem xS_op_nxt {n : Nat} {l : Asc} (K : Kills) (cf : Nat → List AV → Option CRes) (dst : Option Nat) (i : Nat) : (Pg.runS n (opP K cf dst (.nxt (.t i))) l) = ogo (look l i) fun v => (Pg.runS n (nxtA K dst i v) l) := by
  simp only [opP, Pg.runS, ogo]; generalize look l i = v; cases v <;> rfl
theorem xS_nxtA {n : Nat} {l : Asc} (K : Kills) (dst : Option Nat) (i : Nat) (s : List UInt8) (pos : Nat) : (Pg.runS n (nxtA K dst i (.it s pos)) l) = ocond (decide (pos < s.length)) (obind ((Pg.runS n (killMem K i) l)) fun q => (Pg.runS n (Pg.put i (.it s (pos + (Utf8.decode ⟨s.toArray⟩ pos).2)) (out K dst (.t [(false, [.p (.bool true)]), (false, [.p (.int .i64 pos)]), (false, [.p (.int .i32 (Utf8.decode ⟨s.toArray⟩ pos).1)])]))) q.2)) ((Pg.runS n (out K dst (.t [(false, [.p (.bool false)])])) l)) := by
  unfold nxtA ocond; by_cases h : pos < s.length <;> simp only [h, if_true, if_false, decide_true, decide_false, Bool.false_eq_true, xS_bind] <;> rfl
theorem xS_asgV {n : Nat} {l : Asc} (K : Kills) (dst : Option Nat) (i : Nat) (a : AV) : (Pg.runS n (asgV K dst i a) l) = obind ((Pg.runS n (valOf i a) l)) fun p => obind ((Pg.runS n (take K p.1) p.2)) fun q => (Pg.runS n (outVal K dst p.1.ag q.1) q.2) := by
  all_goals (try (simp only [asgV, xS_bind, xS_ret, gS, oS, ob_assoc, oif_b, obind_some]))
  repeat' (first | with_reducible rfl | (with_reducible refine ob_congr fun _ => ?_) | (with_reducible refine oif_c ?_) | (with_reducible refine ochk_c ?_) | (simp only [xS_bind, xS_ret, gS, oS, iS, ob_assoc, oif_b, obind_some]))
  all_goals first | rfl | skip
  all_goals (rfl)
theorem xS_op_loadf {n : Nat} {l : Asc} (K : Kills) (cf : Nat → List AV → Option CRes) (dst : Option Nat) (m : Nat) (ag : Bool) (x : Od) : (Pg.runS n (opP K cf dst (.loadf m ag x)) l) = obind ((Pg.runS n (adr x) l)) fun q => (Pg.runS n (loadfV K dst m ag q.1) q.2) := by
  all_goals (try (simp only [opP, xS_bind, xS_ret, gS, oS, ob_assoc, oif_b, obind_some]))
  repeat' (first | with_reducible rfl | (with_reducible refine ob_congr fun _ => ?_) | (with_reducible refine oif_c ?_) | (with_reducible refine ochk_c ?_) | (simp only [xS_bind, xS_ret, gS, oS, iS, ob_assoc, oif_b, obind_some]))
  all_goals first | rfl | skip
  all_goals (rename_i y; rcases y with ⟨y, z⟩; cases y <;> rfl)
theorem xS_loadfV_l {n : Nat} {l : Asc} (K : Kills) (dst : Option Nat) (m : Nat) (ag : Bool) (pl : Pl) : (Pg.runS n (loadfV K dst m ag (.inl pl)) l) = obind ((Pg.runS n (getPl pl m) l)) fun p => obind ((Pg.runS n (copy ⟨ag, p.1, .at_ pl⟩) p.2)) fun q => (Pg.runS n (outVal K dst ag (q.1.map .p)) q.2) := by
  all_goals (try (simp only [loadfV, xS_bind, xS_ret, gS, oS, ob_assoc, oif_b, obind_some]))
  repeat' (first | with_reducible rfl | (with_reducible refine ob_congr fun _ => ?_) | (with_reducible refine oif_c ?_) | (with_reducible refine ochk_c ?_) | (simp only [xS_bind, xS_ret, gS, oS, iS, ob_assoc, oif_b, obind_some]))
  all_goals first | rfl | skip
  all_goals (rfl)
theorem xS_loadfV_r {n : Nat} {l : Asc} (K : Kills) (dst : Option Nat) (m : Nat) (ag : Bool) (cs : List PV) : (Pg.runS n (loadfV K dst m ag (.inr cs)) l) = oif (decide (m ≤ cs.length)) ((Pg.runS n (outVal K dst ag ((cs.take m).map .p)) l)) := by
  all_goals (try (simp only [loadfV, xS_bind, xS_ret, gS, oS, ob_assoc, oif_b, obind_some]))
  repeat' (first | with_reducible rfl | (with_reducible refine ob_congr fun _ => ?_) | (with_reducible refine oif_c ?_) | (with_reducible refine ochk_c ?_) | (simp only [xS_bind, xS_ret, gS, oS, iS, ob_assoc, oif_b, obind_some]))
  all_goals first | rfl | skip
  all_goals (rfl)
theorem xS_op_pick {n : Nat} {l : Asc} (K : Kills) (cf : Nat → List AV → Option CRes) (dst : Option Nat) (c a b : Od) : (Pg.runS n (opP K cf dst (.pick c a b)) l) = obind ((Pg.runS n (sc c) l)) fun q => obind (oBool q.1) fun t => obind ((Pg.runS n (sc (if t then a else b)) q.2)) fun q => (Pg.runS n (out K dst (.w (.p q.1))) q.2) := by
  all_goals (try (simp only [opP, xS_bind, xS_ret, gS, oS, ob_assoc, oif_b, obind_some]))
  repeat' (first | with_reducible rfl | (with_reducible refine ob_congr fun _ => ?_) | (with_reducible refine oif_c ?_) | (with_reducible refine ochk_c ?_) | (simp only [xS_bind, xS_ret, gS, oS, iS, ob_assoc, oif_b, obind_some]))
  all_goals first | rfl | skip
  all_goals (rename_i y; rcases y with ⟨y, z⟩; cases y <;> first | rfl | exact xS_bind ..)
theorem xS_op_alloc {n : Nat} {l : Asc} (K : Kills) (cf : Nat → List AV → Option CRes) (dst : Option Nat) (z : List OV) : (Pg.runS n (opP K cf dst (.alloc z)) l) = (Pg.runS n (out K dst (.box z)) l) := rfl
theorem xS_op_box {n : Nat} {l : Asc} (K : Kills) (cf : Nat → List AV → Option CRes) (dst : Option Nat) (x : Od) : (Pg.runS n (opP K cf dst (.box x)) l) = obind ((Pg.runS n (val x) l)) fun p => oif (OV.wholes p.1.cs) (obind ((Pg.runS n (take K p.1) p.2)) fun q => (Pg.runS n (out K dst (.box q.1)) q.2)) := by
  all_goals (try (simp only [opP, xS_bind, xS_ret, gS, oS, ob_assoc, oif_b, obind_some]))
  repeat' (first | with_reducible rfl | (with_reducible refine ob_congr fun _ => ?_) | (with_reducible refine oif_c ?_) | (with_reducible refine ochk_c ?_) | (simp only [xS_bind, xS_ret, gS, oS, iS, ob_assoc, oif_b, obind_some]))
  all_goals first | rfl | skip
  all_goals (rfl)
theorem xS_op_build {n : Nat} {l : Asc} (K : Kills) (cf : Nat → List AV → Option CRes) (dst : Option Nat) (z : List OV) (ps : List (Nat × Nat × Od)) : (Pg.runS n (opP K cf dst (.build z ps)) l) = obind ((Pg.runS n (buildP K z ps) l)) fun q => (Pg.runS n (out K dst (.a q.1)) q.2) := by first | rfl | exact runS_bind .. | exact (runS_bind ..).trans rfl
theorem xS_op_bslice {n : Nat} {l : Asc} (K : Kills) (cf : Nat → List AV → Option CRes) (dst : Option Nat) (z : Nat) (ze : List OV) (m : Nat) (ps : List (Nat × Od)) : (Pg.runS n (opP K cf dst (.bslice z ze m ps)) l) = obind ((Pg.runS n (bsliceP K z (List.replicate m ze) ps) l)) fun q => (Pg.runS n (out K dst (.w (.own z q.1))) q.2) := by first | rfl | exact runS_bind .. | exact (runS_bind ..).trans rfl
theorem xS_op_load {n : Nat} {l : Asc} (K : Kills) (cf : Nat → List AV → Option CRes) (dst : Option Nat) (m : Nat) (ag : Bool) (x : Od) : (Pg.runS n (opP K cf dst (.load m ag x)) l) = obind ((Pg.runS n (adr x) l)) fun q => (Pg.runS n (loadV K dst m ag q.1) q.2) := by
  all_goals (try (simp only [opP, xS_bind, xS_ret, gS, oS, ob_assoc, oif_b, obind_some]))
  repeat' (first | with_reducible rfl | (with_reducible refine ob_congr fun _ => ?_) | (with_reducible refine oif_c ?_) | (with_reducible refine ochk_c ?_) | (simp only [xS_bind, xS_ret, gS, oS, iS, ob_assoc, oif_b, obind_some]))
  all_goals first | rfl | skip
  all_goals (rename_i y; rcases y with ⟨y, z⟩; cases y <;> rfl)
theorem xS_loadV_l {n : Nat} {l : Asc} (K : Kills) (dst : Option Nat) (m : Nat) (ag : Bool) (pl : Pl) : (Pg.runS n (loadV K dst m ag (.inl pl)) l) = obind ((Pg.runS n (getPl pl m) l)) fun q => ocond (plainAll q.1) ((Pg.runS n (outVal K dst ag q.1) q.2)) ((Pg.runS n (outOn K dst pl.holder (.al pl m ag)) q.2)) := by
  all_goals (try (simp only [loadV, xS_bind, xS_ret, gS, oS, ob_assoc, oif_b, obind_some]))
  repeat' (first | with_reducible rfl | (with_reducible refine ob_congr fun _ => ?_) | (with_reducible refine oif_c ?_) | (with_reducible refine ochk_c ?_) | (simp only [xS_bind, xS_ret, gS, oS, iS, ob_assoc, oif_b, obind_some]))
  all_goals first | rfl | skip
  all_goals (exact cS ..)
theorem xS_loadV_r {n : Nat} {l : Asc} (K : Kills) (dst : Option Nat) (m : Nat) (ag : Bool) (cs : List PV) : (Pg.runS n (loadV K dst m ag (.inr cs)) l) = oif (decide (m ≤ cs.length)) ((Pg.runS n (outVal K dst ag ((cs.take m).map .p)) l)) := by
  all_goals (try (simp only [loadV, xS_bind, xS_ret, gS, oS, ob_assoc, oif_b, obind_some]))
  repeat' (first | with_reducible rfl | (with_reducible refine ob_congr fun _ => ?_) | (with_reducible refine oif_c ?_) | (with_reducible refine ochk_c ?_) | (simp only [xS_bind, xS_ret, gS, oS, iS, ob_assoc, oif_b, obind_some]))
  all_goals first | rfl | skip
  all_goals (rfl)
theorem xS_op_store {n : Nat} {l : Asc} (K : Kills) (cf : Nat → List AV → Option CRes) (dst : Option Nat) (m : Nat) (x v : Od) (keep : Bool) : (Pg.runS n (opP K cf dst (.store m x v keep)) l) = obind ((Pg.runS n (adr x) l)) fun q => (Pg.runS n (storeV K m v keep q.1) q.2) := by
  all_goals (try (simp only [opP, xS_bind, xS_ret, gS, oS, ob_assoc, oif_b, obind_some]))
  repeat' (first | with_reducible rfl | (with_reducible refine ob_congr fun _ => ?_) | (with_reducible refine oif_c ?_) | (with_reducible refine ochk_c ?_) | (simp only [xS_bind, xS_ret, gS, oS, iS, ob_assoc, oif_b, obind_some]))
  all_goals first | rfl | skip
  all_goals (rename_i y; rcases y with ⟨y, z⟩; cases y <;> rfl)
theorem xS_storeV_l {n : Nat} {l : Asc} (K : Kills) (m : Nat) (y : Od) (keep : Bool) (pl : Pl) : (Pg.runS n (storeV K m y keep (.inl pl)) l) = obind ((Pg.runS n (val y) l)) fun p => oif (p.1.cs.length == m && OV.wholes p.1.cs) (obind ((Pg.runS n (storeC K pl keep p.1) p.2)) fun q => obind ((Pg.runS n (putPl pl q.1) q.2)) fun q => (Pg.runS n (killMem K pl.holder) q.2)) := by
  all_goals (try (simp only [storeV, xS_bind, xS_ret, gS, oS, ob_assoc, oif_b, obind_some]))
  repeat' (first | with_reducible rfl | (with_reducible refine ob_congr fun _ => ?_) | (with_reducible refine oif_c ?_) | (with_reducible refine ochk_c ?_) | (simp only [xS_bind, xS_ret, gS, oS, iS, ob_assoc, oif_b, obind_some]))
  all_goals first | rfl | skip
  all_goals (rfl)
theorem xS_storeC_k {n : Nat} {l : Asc} (K : Kills) (pl : Pl) (x : Val) : (Pg.runS n (storeC K pl true x) l) = (Pg.runS n (take K x) l) := by
  all_goals (try (simp only [storeC, xS_bind, xS_ret, gS, oS, ob_assoc, oif_b, obind_some]))
  repeat' (first | with_reducible rfl | (with_reducible refine ob_congr fun _ => ?_) | (with_reducible refine oif_c ?_) | (with_reducible refine ochk_c ?_) | (simp only [xS_bind, xS_ret, gS, oS, iS, ob_assoc, oif_b, obind_some]))
  all_goals first | rfl | skip
  all_goals (rfl)
theorem xS_storeC_b {n : Nat} {l : Asc} (K : Kills) (d o : Nat) (keep : Bool) (x : Val) : (Pg.runS n (storeC K (.b d o) keep x) l) = (Pg.runS n (take K x) l) := rfl
theorem xS_op_nilchk {n : Nat} {l : Asc} (K : Kills) (cf : Nat → List AV → Option CRes) (dst : Option Nat) (i : Nat) : (Pg.runS n (opP K cf dst (.nilchk (.t i))) l) = ogo (look l i) fun v => (Pg.runS n (movPtr K dst i .fail v) l) := rfl
theorem xS_op_bin {n : Nat} {l : Asc} (K : Kills) (cf : Nat → List AV → Option CRes) (dst : Option Nat) (o : BinOp) (x y : Od) : (Pg.runS n (opP K cf dst (.bin o x y)) l) = obind ((Pg.runS n (sc x) l)) fun p => obind ((Pg.runS n (sc y) p.2)) fun q => obind (binPV o p.1 q.1) fun c => (Pg.runS n (out K dst (.w (.p c))) q.2) := by
  all_goals (try (simp only [opP, xS_bind, xS_ret, gS, oS, ob_assoc, oif_b, obind_some]))
  repeat' (first | with_reducible rfl | (with_reducible refine ob_congr fun _ => ?_) | (with_reducible refine oif_c ?_) | (with_reducible refine ochk_c ?_) | (simp only [xS_bind, xS_ret, gS, oS, iS, ob_assoc, oif_b, obind_some]))
  all_goals first | rfl | skip
  all_goals (rfl)
theorem xS_op_eqs {n : Nat} {l : Asc} (K : Kills) (cf : Nat → List AV → Option CRes) (dst : Option Nat) (neg : Bool) (ks : List CK) (x y : Od) : (Pg.runS n (opP K cf dst (.eqs neg ks x y)) l) = obind ((Pg.runS n (val x) l)) fun p => obind ((Pg.runS n (val y) p.2)) fun q => oif (p.1.ag && q.1.ag && plainAll p.1.cs && plainAll q.1.cs) (obind (cellsEq ks (OV.frzs p.1.cs) (OV.frzs q.1.cs)) fun r => (Pg.runS n (out K dst (.w (.p (.bool (if neg then !r else r))))) q.2)) := by
  all_goals (try (simp only [opP, xS_bind, xS_ret, gS, oS, ob_assoc, oif_b, obind_some]))
  repeat' (first | with_reducible rfl | (with_reducible refine ob_congr fun _ => ?_) | (with_reducible refine oif_c ?_) | (with_reducible refine ochk_c ?_) | (simp only [xS_bind, xS_ret, gS, oS, iS, ob_assoc, oif_b, obind_some]))
  all_goals first | rfl | skip
  all_goals (rfl)
theorem xS_op_un {n : Nat} {l : Asc} (K : Kills) (cf : Nat → List AV → Option CRes) (dst : Option Nat) (o : UnOp) (x : Od) : (Pg.runS n (opP K cf dst (.un o x)) l) = obind ((Pg.runS n (sc x) l)) fun q => obind (unPV o q.1) fun c => (Pg.runS n (out K dst (.w (.p c))) q.2) := by
  all_goals (try (simp only [opP, xS_bind, xS_ret, gS, oS, ob_assoc, oif_b, obind_some]))
  repeat' (first | with_reducible rfl | (with_reducible refine ob_congr fun _ => ?_) | (with_reducible refine oif_c ?_) | (with_reducible refine ochk_c ?_) | (simp only [xS_bind, xS_ret, gS, oS, iS, ob_assoc, oif_b, obind_some]))
  all_goals first | rfl | skip
  all_goals (rfl)
theorem xS_op_cvi {n : Nat} {l : Asc} (K : Kills) (cf : Nat → List AV → Option CRes) (dst : Option Nat) (k : IntKind) (x : Od) : (Pg.runS n (opP K cf dst (.cvi k x)) l) = obind ((Pg.runS n (scInt x) l)) fun q => (Pg.runS n (out K dst (.w (.p (.int k (k.wrap q.1))))) q.2) := by first | rfl | exact runS_bind .. | exact (runS_bind ..).trans rfl
theorem xS_op_slc {n : Nat} {l : Asc} (K : Kills) (cf : Nat → List AV → Option CRes) (dst : Option Nat) (z : Nat) (x : Od) (lo hi : Option Od) : (Pg.runS n (opP K cf dst (.slc z x lo hi)) l) = obind ((Pg.runS n (val x) l)) fun p => oif (!p.1.ag) (obind (elsLen p.1.cs) fun len => obind ((Pg.runS n (ends len lo hi) p.2)) fun q => (Pg.runS n (slcV K dst z p.1.cs p.1.src q.1.1 q.1.2) q.2)) := by
  all_goals (try (simp only [opP, xS_bind, xS_ret, gS, oS, ob_assoc, oif_b, obind_some]))
  repeat' (first | with_reducible rfl | (with_reducible refine ob_congr fun _ => ?_) | (with_reducible refine oif_c ?_) | (with_reducible refine ochk_c ?_) | (simp only [xS_bind, xS_ret, gS, oS, iS, ob_assoc, oif_b, obind_some]))
  all_goals first | rfl | skip
  all_goals (rfl)
theorem xS_slcV_at {n : Nat} {l : Asc} (K : Kills) (dst : Option Nat) (z z' : Nat) (els : List (List OV)) (pl : Pl) (lo hi : Nat) : (Pg.runS n (slcV K dst z [.own z' els] (.at_ pl) lo hi) l) = oif (z' == z) ((Pg.runS n (outOn K dst pl.holder (.sv pl z lo hi)) l)) := by
  all_goals (try (simp only [slcV, xS_bind, xS_ret, gS, oS, ob_assoc, oif_b, obind_some]))
  repeat' (first | with_reducible rfl | (with_reducible refine ob_congr fun _ => ?_) | (with_reducible refine oif_c ?_) | (with_reducible refine ochk_c ?_) | (simp only [xS_bind, xS_ret, gS, oS, iS, ob_assoc, oif_b, obind_some]))
  all_goals first | rfl | skip
  all_goals (exact ochk_beq ..)
theorem xS_op_fad {n : Nat} {l : Asc} (K : Kills) (cf : Nat → List AV → Option CRes) (dst : Option Nat) (o : Nat) (x : Od) : (Pg.runS n (opP K cf dst (.fad o x)) l) = obind ((Pg.runS n (adr x) l)) fun q => (Pg.runS n (fadV K dst o q.1) q.2) := by
  all_goals (try (simp only [opP, xS_bind, xS_ret, gS, oS, ob_assoc, oif_b, obind_some]))
  repeat' (first | with_reducible rfl | (with_reducible refine ob_congr fun _ => ?_) | (with_reducible refine oif_c ?_) | (with_reducible refine ochk_c ?_) | (simp only [xS_bind, xS_ret, gS, oS, iS, ob_assoc, oif_b, obind_some]))
  all_goals first | rfl | skip
  all_goals (rename_i y; rcases y with ⟨y, z⟩; cases y <;> rfl)
theorem xS_fadV_l {n : Nat} {l : Asc} (K : Kills) (dst : Option Nat) (o : Nat) (pl : Pl) : (Pg.runS n (fadV K dst o (.inl pl)) l) = (Pg.runS n (outOn K dst pl.holder (.ptr (pl.plus o))) l) := rfl
theorem xS_fadV_r {n : Nat} {l : Asc} (K : Kills) (dst : Option Nat) (o : Nat) (cs : List PV) : (Pg.runS n (fadV K dst o (.inr cs)) l) = (Pg.runS n (out K dst (.fp (cs.drop o))) l) := rfl
theorem xS_op_iad {n : Nat} {l : Asc} (K : Kills) (cf : Nat → List AV → Option CRes) (dst : Option Nat) (z : Nat) (x i : Od) : (Pg.runS n (opP K cf dst (.iad z x i)) l) = obind ((Pg.runS n (val x) l)) fun p => oif (!p.1.ag) (obind ((Pg.runS n (scInt i) p.2)) fun q => ochk (0 ≤ q.1) ((Pg.runS n (iadV K dst z p.1 q.1.toNat) q.2))) := by
  all_goals (try (simp only [opP, xS_bind, xS_ret, gS, oS, ob_assoc, oif_b, obind_some]))
  repeat' (first | with_reducible rfl | (with_reducible refine ob_congr fun _ => ?_) | (with_reducible refine oif_c ?_) | (with_reducible refine ochk_c ?_) | (simp only [xS_bind, xS_ret, gS, oS, iS, ob_assoc, oif_b, obind_some]))
  all_goals first | rfl | skip
  all_goals (first | exact oif_dec .. | exact (oif_dec (0 ≤ _) _).trans (ochk_c rfl))
theorem xS_iadV_p {n : Nat} {l : Asc} (K : Kills) (dst : Option Nat) (z z' : Nat) (els : List (List PV)) (ag : Bool) (s : Src) (i : Nat) : (Pg.runS n (iadV K dst z ⟨ag, [.p (.sl z' els)], s⟩ i) l) = oif (z' == z) (obind els[i]? fun e => (Pg.runS n (out K dst (.fp e)) l)) := by
  all_goals (try (simp only [iadV, xS_bind, xS_ret, gS, oS, ob_assoc, oif_b, obind_some]))
  repeat' (first | with_reducible rfl | (with_reducible refine ob_congr fun _ => ?_) | (with_reducible refine oif_c ?_) | (with_reducible refine ochk_c ?_) | (simp only [xS_bind, xS_ret, gS, oS, iS, ob_assoc, oif_b, obind_some]))
  all_goals first | rfl | skip
  all_goals (exact ochk_beq ..)
theorem xS_iadV_atr {n : Nat} {l : Asc} (K : Kills) (dst : Option Nat) (z z' : Nat) (els : List (List OV)) (ag : Bool) (i : Nat) (d : Nat) : (Pg.runS n (iadV K dst z ⟨ag, [.own z' els], .at_ (.r d)⟩ i) l) = oif (z' == z) (ochk (i < els.length) ((Pg.runS n (outOn K dst d (.ptr (.e d none z i 0))) l))) := by
  all_goals (try (simp only [iadV, xS_bind, xS_ret, gS, oS, ob_assoc, oif_b, obind_some]))
  repeat' (first | with_reducible rfl | (with_reducible refine ob_congr fun _ => ?_) | (with_reducible refine oif_c ?_) | (with_reducible refine ochk_c ?_) | (simp only [xS_bind, xS_ret, gS, oS, iS, ob_assoc, oif_b, obind_some]))
  all_goals first | rfl | skip
  all_goals (exact (ochk_beq ..).trans (oif_c (oif_dec ..)))
theorem xS_iadV_atb {n : Nat} {l : Asc} (K : Kills) (dst : Option Nat) (z z' : Nat) (els : List (List OV)) (ag : Bool) (i : Nat) (d o : Nat) : (Pg.runS n (iadV K dst z ⟨ag, [.own z' els], .at_ (.b d o)⟩ i) l) = oif (z' == z) (ochk (i < els.length) ((Pg.runS n (outOn K dst d (.ptr (.e d (some o) z i 0))) l))) := by
  all_goals (try (simp only [iadV, xS_bind, xS_ret, gS, oS, ob_assoc, oif_b, obind_some]))
  repeat' (first | with_reducible rfl | (with_reducible refine ob_congr fun _ => ?_) | (with_reducible refine oif_c ?_) | (with_reducible refine ochk_c ?_) | (simp only [xS_bind, xS_ret, gS, oS, iS, ob_assoc, oif_b, obind_some]))
  all_goals first | rfl | skip
  all_goals (exact (ochk_beq ..).trans (oif_c (oif_dec ..)))
theorem xS_op_ixs {n : Nat} {l : Asc} (K : Kills) (cf : Nat → List AV → Option CRes) (dst : Option Nat) (x i : Od) : (Pg.runS n (opP K cf dst (.ixs x i)) l) = obind ((Pg.runS n (sc x) l)) fun p => obind (oStr p.1) fun s => obind ((Pg.runS n (scInt i) p.2)) fun q => ochk (0 ≤ q.1) (obind s[q.1.toNat]? fun b => (Pg.runS n (out K dst (.w (.p (.int .u8 b.toNat)))) q.2)) := by
  all_goals (try (simp only [opP, xS_bind, xS_ret, gS, oS, ob_assoc, oif_b, obind_some]))
  repeat' (first | with_reducible rfl | (with_reducible refine ob_congr fun _ => ?_) | (with_reducible refine oif_c ?_) | (with_reducible refine ochk_c ?_) | (simp only [xS_bind, xS_ret, gS, oS, iS, ob_assoc, oif_b, obind_some]))
  all_goals first | rfl | skip
  all_goals (rename_i y; rcases y with ⟨y, z⟩; cases y <;> first | rfl | (dsimp only; simp only [xS_bind, oS, gS, ob_assoc, oif_b, obind_some]; refine ob_congr fun q => ?_; exact oif_dec ..))
theorem xS_op_ext {n : Nat} {l : Asc} (K : Kills) (cf : Nat → List AV → Option CRes) (dst : Option Nat) (x i : Nat) : (Pg.runS n (opP K cf dst (.ext (.t x) i)) l) = ogo (look l x) fun v => (Pg.runS n (match v with | .t vs => extV K dst x i vs | _ => .fail) l) := by
  simp only [opP, Pg.runS, ogo]; generalize look l x = v; cases v <;> rfl
theorem xS_extV {n : Nat} {l : Asc} (K : Kills) (dst : Option Nat) (x i : Nat) (vs : List (Bool × List OV)) : (Pg.runS n (extV K dst x i vs) l) = obind vs[i]? fun e => ocond (plainAll e.2) ((Pg.runS n (outVal K dst e.1 e.2) l)) ((Pg.runS n (Pg.pute x (.t (vs.set i (e.1, e.2.map fun _ => .hole))) (outVal K dst e.1 e.2)) l)) := by
  all_goals (try (simp only [extV, xS_bind, xS_ret, gS, oS, ob_assoc, oif_b, obind_some]))
  repeat' (first | with_reducible rfl | (with_reducible refine ob_congr fun _ => ?_) | (with_reducible refine oif_c ?_) | (with_reducible refine ochk_c ?_) | (simp only [xS_bind, xS_ret, gS, oS, iS, ob_assoc, oif_b, obind_some]))
  all_goals first | rfl | skip
  all_goals (exact cS ..)
theorem xS_op_call {n : Nat} {l : Asc} (K : Kills) (cf : Nat → List AV → Option CRes) (dst : Option Nat) (f : Nat) (args : List (Od × Bool)) : (Pg.runS n (opP K cf dst (.call f args)) l) = obind ((Pg.runS n (argsP K args) l)) fun q => (Pg.runS n (callP K cf dst f q.1.1 q.1.2) q.2) := by
  all_goals (try (simp only [opP, xS_bind, xS_ret, gS, oS, ob_assoc, oif_b, obind_some]))
  repeat' (first | with_reducible rfl | (with_reducible refine ob_congr fun _ => ?_) | (with_reducible refine oif_c ?_) | (with_reducible refine ochk_c ?_) | (simp only [xS_bind, xS_ret, gS, oS, iS, ob_assoc, oif_b, obind_some]))
  all_goals first | rfl | skip
  all_goals (rfl)
theorem xS_op_callv {n : Nat} {l : Asc} (K : Kills) (cf : Nat → List AV → Option CRes) (dst : Option Nat) (x : Nat) (args : List (Od × Bool)) : (Pg.runS n (opP K cf dst (.callv (.t x) args)) l) = ogo (look l x) fun v => (Pg.runS n (match v with | .clo f caps => callvV K cf dst f caps args | _ => .fail) l) := by
  simp only [opP, Pg.runS, ogo]; generalize look l x = v; cases v <;> rfl
theorem xS_callvV {n : Nat} {l : Asc} (K : Kills) (cf : Nat → List AV → Option CRes) (dst : Option Nat) (f : Nat) (caps : List AV) (args : List (Od × Bool)) : (Pg.runS n (callvV K cf dst f caps args) l) = obind ((Pg.runS n (argsP K args) l)) fun p => obind ((Pg.runS n (capsP K caps) p.2)) fun q => (Pg.runS n (callP K cf dst f (p.1.1 ++ q.1.1) (p.1.2 ++ q.1.2)) q.2) := by
  all_goals (try (simp only [callvV, xS_bind, xS_ret, gS, oS, ob_assoc, oif_b, obind_some]))
  repeat' (first | with_reducible rfl | (with_reducible refine ob_congr fun _ => ?_) | (with_reducible refine oif_c ?_) | (with_reducible refine ochk_c ?_) | (simp only [xS_bind, xS_ret, gS, oS, iS, ob_assoc, oif_b, obind_some]))
  all_goals first | rfl | skip
  all_goals (rfl)
theorem xS_op_iter {n : Nat} {l : Asc} (K : Kills) (cf : Nat → List AV → Option CRes) (dst : Option Nat) (gf : Nat) (args : List (Od × Bool)) : (Pg.runS n (opP K cf dst (.iter gf args)) l) = obind ((Pg.runS n (argsP K args) l)) fun q => oif q.1.2.isEmpty (obind (toFps q.1.1) fun cs => (Pg.runS n (out K dst (.clo gf cs)) q.2)) := by
  all_goals (try (simp only [opP, xS_bind, xS_ret, gS, oS, ob_assoc, oif_b, obind_some]))
  repeat' (first | with_reducible rfl | (with_reducible refine ob_congr fun _ => ?_) | (with_reducible refine oif_c ?_) | (with_reducible refine ochk_c ?_) | (simp only [xS_bind, xS_ret, gS, oS, iS, ob_assoc, oif_b, obind_some]))
  all_goals first | rfl | skip
  all_goals (rename_i y; rcases y with ⟨⟨as, ls⟩, z⟩; dsimp only; (try simp only [xS_bind, gS, oS, ob_assoc, oif_b, obind_some]); first | rfl | (unfold oif; split <;> rfl))
theorem xS_op_len_f {n : Nat} {l : Asc} (K : Kills) (cf : Nat → List AV → Option CRes) (dst : Option Nat) (x : Od) : (Pg.runS n (opP K cf dst (.len false x)) l) = obind ((Pg.runS n (val x) l)) fun q => oif (!q.1.ag) (obind (elsLen q.1.cs) fun m => (Pg.runS n (out K dst (.w (.p (.int .i64 m)))) q.2)) := by
  all_goals (try (simp only [opP, xS_bind, xS_ret, gS, oS, ob_assoc, oif_b, obind_some]))
  repeat' (first | with_reducible rfl | (with_reducible refine ob_congr fun _ => ?_) | (with_reducible refine oif_c ?_) | (with_reducible refine ochk_c ?_) | (simp only [xS_bind, xS_ret, gS, oS, iS, ob_assoc, oif_b, obind_some]))
  all_goals first | rfl | skip
  all_goals (rfl)
theorem xS_op_len_t {n : Nat} {l : Asc} (K : Kills) (cf : Nat → List AV → Option CRes) (dst : Option Nat) (x : Od) : (Pg.runS n (opP K cf dst (.len true x)) l) = obind ((Pg.runS n (sc x) l)) fun q => obind (oStr q.1) fun s => (Pg.runS n (out K dst (.w (.p (.int .i64 s.length)))) q.2) := by
  all_goals (try (simp only [opP, xS_bind, xS_ret, gS, oS, ob_assoc, oif_b, obind_some]))
  repeat' (first | with_reducible rfl | (with_reducible refine ob_congr fun _ => ?_) | (with_reducible refine oif_c ?_) | (with_reducible refine ochk_c ?_) | (simp only [xS_bind, xS_ret, gS, oS, iS, ob_assoc, oif_b, obind_some]))
  all_goals first | rfl | skip
  all_goals (rename_i y; rcases y with ⟨y, z⟩; cases y <;> rfl)
theorem xS_op_app {n : Nat} {l : Asc} (K : Kills) (cf : Nat → List AV → Option CRes) (dst : Option Nat) (z bytes : Nat) (x y : Od) (keep : Bool) : (Pg.runS n (opP K cf dst (.app z bytes x y keep)) l) = obind ((Pg.runS n (val x) l)) fun p => oif (!p.1.ag) (obind (oOwn z p.1.cs) fun els => obind ((Pg.runS n (take K p.1) p.2)) fun q => obind ((Pg.runS n (val y) q.2)) fun p => oif (!p.1.ag) (obind ((Pg.runS n (appC K keep p.1) p.2)) fun q => obind (oEl z q.1) fun new => ochk (els.length + new.length ≤ 140737488351232 ∧ (els.length + new.length) * bytes ≤ 140737488351232) ((Pg.runS n (out K dst (.w (.own z (els ++ new)))) q.2)))) := by
  all_goals (try (simp only [opP, xS_bind, xS_ret, gS, oS, ob_assoc, oif_b, obind_some]))
  repeat' (first | with_reducible rfl | (with_reducible refine ob_congr fun _ => ?_) | (with_reducible refine oif_c ?_) | (with_reducible refine ochk_c ?_) | (simp only [xS_bind, xS_ret, gS, oS, iS, ob_assoc, oif_b, obind_some]))
  all_goals first | rfl | skip
  rename_i y0; rcases y0 with ⟨⟨ag, cs, s⟩, z0⟩; dsimp only; rcases cs with _ | ⟨c, _ | ⟨c', cs⟩⟩ <;> first | rfl | (cases c <;> first | rfl | skip)
  rename_i z' els
  dsimp only [oOwn]
  by_cases h : z' = z
  · subst h
    simp only [beq_self_eq_true, if_true, obind_some, xS_bind, gS, oif_b]
    refine ob_congr fun q1 => ob_congr fun q2 => oif_c ?_
    have e : Pg.runS n (if keep = true then take K q2.1 else (copy q2.1).bind fun cs => Pg.ret (List.map OV.p cs)) q2.2 = Pg.runS n (appC K keep q2.1) q2.2 := by unfold appC; rfl
    rw [e]
    refine ob_congr fun q3 => ?_
    rcases q3 with ⟨cs, z3⟩
    rcases cs with _ | ⟨c, _ | ⟨c', cs⟩⟩ <;> first | rfl | (rcases c with c | ⟨z'', new⟩ | _ <;> first | rfl | (cases c <;> first | rfl | skip) | skip)
    · rename_i z'' new
      dsimp only [oEl]
      by_cases h2 : z'' = z' <;> simp only [h2, beq_self_eq_true, if_true, decide_true, Bool.true_and, plains_length, obind_some]
      · unfold ochk
        by_cases a1 : els.length + new.length ≤ 140737488351232 <;> by_cases a2 : (els.length + new.length) * bytes ≤ 140737488351232 <;> simp [a1, a2] <;> rfl
      · have h3 : (z'' == z') = false := by simpa using h2
        simp [h2, h3, obind]; rfl
    · dsimp only [oEl]
      by_cases h2 : z'' = z'
      · subst h2
        simp only [beq_self_eq_true, if_true, decide_true, Bool.true_and]
        by_cases h3 : OV.wholess new = true
        · simp only [h3, if_true, Bool.true_and, obind_some]
          unfold ochk
          by_cases a1 : els.length + new.length ≤ 140737488351232 <;> by_cases a2 : (els.length + new.length) * bytes ≤ 140737488351232 <;> simp [a1, a2] <;> rfl
        · simp only [Bool.not_eq_true] at h3
          simp [h3, obind]; rfl
      · have h3 : (z'' == z') = false := by simpa using h2
        simp [h2, h3, obind]; rfl
  · have h3 : (z' == z) = false := by simpa using h
    simp [h, h3, obind]; rfl
theorem xS_appC_t {n : Nat} {l : Asc} (K : Kills) (x : Val) : (Pg.runS n (appC K true x) l) = (Pg.runS n (take K x) l) := rfl
theorem xS_oper {n : Nat} {l : Asc} (K : Kills) (cf : Nat → List AV → Option CRes) (d : Option Nat) (o : IOp) : (Pg.runS n (operP K cf ⟨d, o, none⟩) l) = (Pg.runS n (opP K cf d o) l) := rfl
theorem xS_opergt {n : Nat} {l : Asc} (K : Kills) (cf : Nat → List AV → Option CRes) (d : Option Nat) (o : IOp) (t : Nat) : (Pg.runS n (operP K cf ⟨d, o, some (t, true)⟩) l) = ogo (look l t) fun v => obind (oBitT v) fun b => ogcond b ((Pg.runS n (opP K cf d o) l)) ((Pg.runS n (skipP K d) l)) := by
  simp only [operP, Pg.runS, ogo]; generalize look l t = v; cases v <;> first | rfl | (rename_i c; cases c <;> first | rfl | (rename_i p; cases p <;> first | rfl | (rename_i b; cases b <;> rfl)) | (rename_i x y; rfl))
theorem xS_opergf {n : Nat} {l : Asc} (K : Kills) (cf : Nat → List AV → Option CRes) (d : Option Nat) (o : IOp) (t : Nat) : (Pg.runS n (operP K cf ⟨d, o, some (t, false)⟩) l) = ogo (look l t) fun v => obind (oBitF v) fun b => ogcond b ((Pg.runS n (skipP K d) l)) ((Pg.runS n (opP K cf d o) l)) := by
  simp only [operP, Pg.runS, ogo]; generalize look l t = v; cases v <;> first | rfl | (rename_i c; cases c <;> first | rfl | (rename_i p; cases p <;> first | rfl | (rename_i b; cases b <;> rfl)) | (rename_i x y; rfl))
theorem xS_skip_s {n : Nat} {l : Asc} (K : Kills) (d : Nat) : (Pg.runS n (skipP K (some d)) l) = (Pg.runS n (wr K d (.t [])) l) := rfl
theorem xS_res_nil {n : Nat} {l : Asc} (K : Kills) : (Pg.runS n (resP K []) l) = some (([] : List (Bool × List OV)), l) := rfl
theorem xS_res_tmp {n : Nat} {l : Asc} (K : Kills) (t : Nat) (rs : List IRes) : (Pg.runS n (resP K (.tmp t :: rs)) l) = obind ((Pg.runS n (val (.t t)) l)) fun p => obind ((Pg.runS n (take K p.1) p.2)) fun q0 => obind ((Pg.runS n (resP K rs) q0.2)) fun q => some ((p.1.ag, q0.1) :: q.1, q.2) := by
  all_goals (try (simp only [resP, xS_bind, xS_ret, gS, oS, ob_assoc, oif_b, obind_some]))
  repeat' (first | with_reducible rfl | (with_reducible refine ob_congr fun _ => ?_) | (with_reducible refine oif_c ?_) | (with_reducible refine ochk_c ?_) | (simp only [xS_bind, xS_ret, gS, oS, iS, ob_assoc, oif_b, obind_some]))
  all_goals first | rfl | skip
  all_goals (rfl)
theorem xS_res_cell {n : Nat} {l : Asc} (K : Kills) (t m : Nat) (ag : Bool) (rs : List IRes) : (Pg.runS n (resP K (.cell t m ag :: rs)) l) = ogo (look l t) fun v => obind (oBox m v) fun cs => obind ((Pg.runS n (killMem K t) l)) fun q => obind ((Pg.runS n (Pg.put t .u (resP K rs)) q.2)) fun q => some ((ag, cs) :: q.1, q.2) := by
  simp only [resP, Pg.runS, ogo]; generalize look l t = v; cases v <;> first | rfl | skip
  rename_i cs
  dsimp only [oBox]; by_cases h : cs.length = m <;> simp only [h, if_true, if_false, obind_some, xS_bind] <;> first | rfl | skip
  refine ob_congr fun q => ?_
  simp only [Pg.runS]
  split <;> first | rfl | exact xS_bind ..
theorem xS_back_nil {n : Nat} {l : Asc} (K : Kills) (G : List Nat) (j : Nat) : (Pg.runS n (backP K G [] j) l) = some (([] : List (List OV)), l) := rfl
theorem xS_back_w {n : Nat} {l : Asc} (K : Kills) (G : List Nat) (j : Nat) (c : OV) (as : List AV) : (Pg.runS n (backP K G (.w c :: as) j) l) = (Pg.runS n (backP K G as (j + 1)) l) := rfl
theorem xS_back_a {n : Nat} {l : Asc} (K : Kills) (G : List Nat) (j : Nat) (c : List OV) (as : List AV) : (Pg.runS n (backP K G (.a c :: as) j) l) = (Pg.runS n (backP K G as (j + 1)) l) := rfl
theorem xS_back_clo {n : Nat} {l : Asc} (K : Kills) (G : List Nat) (j g : Nat) (c : List AV) (as : List AV) : (Pg.runS n (backP K G (.clo g c :: as) j) l) = (Pg.runS n (backP K G as (j + 1)) l) := rfl
theorem xS_back_box {n : Nat} {l : Asc} (K : Kills) (G : List Nat) (j : Nat) (c : List OV) (as : List AV) : (Pg.runS n (backP K G (.box c :: as) j) l) = oif (G.contains j) (ogo (look l j) fun v => obind (oBoxA v) fun cs => obind ((Pg.runS n (killMem K j) l)) fun q => obind ((Pg.runS n (Pg.put j .u (backP K G as (j + 1))) q.2)) fun q => some (cs :: q.1, q.2)) := by
  simp only [backP, Pg.runS]; unfold oif; by_cases h : G.contains j = true <;> simp only [h, if_true, if_false, Bool.false_eq_true, Pg.runS, ogo] <;> first | rfl | skip
  generalize look l j = v; cases v <;> first | rfl | skip
  dsimp only [oBoxA]; simp only [obind_some, xS_bind]
  refine ob_congr fun q => ?_
  simp only [Pg.runS]
  split <;> first | rfl | exact xS_bind ..
theorem xL_bind {n : Nat} {l : Asc} {L : Lg} {α β : Type} (p : Pg α) (f : α → Pg β) : (Pg.runL n (p.bind f) l L) = obind ((Pg.runL n (p) l L)) fun q => (Pg.runL n (f q.1) q.2.1 q.2.2) := by first | rfl | exact runL_bind .. | exact (runL_bind ..).trans rfl
theorem xL_ret {n : Nat} {l : Asc} {L : Lg} {α : Type} (x : α) : (Pg.runL n (Pg.ret x) l L) = some (x, l, L) := rfl
theorem xL_opt {n : Nat} {l : Asc} {L : Lg} {α : Type} (x : α) : (Pg.runL n (Pg.opt (some x)) l L) = some (x, l, L) := rfl
theorem xL_val_t {n : Nat} {l : Asc} {L : Lg} (i : Nat) : (Pg.runL n (val (.t i)) l L) = ogo (look l i) fun v => (Pg.runL n (valOf i v) l (L.rd i v)) := rfl
theorem xL_val_cw {n : Nat} {l : Asc} {L : Lg} (c : OV) : (Pg.runL n (val (.c (.w c))) l L) = some ((⟨false, [c], .no⟩ : Val), l, L) := rfl
theorem xL_valOf_w {n : Nat} {l : Asc} {L : Lg} (x : Nat) (c : OV) : (Pg.runL n (valOf x (.w c)) l L) = some ((⟨false, [c], .at_ (.r x)⟩ : Val), l, L) := rfl
theorem xL_valOf_a {n : Nat} {l : Asc} {L : Lg} (x : Nat) (c : List OV) : (Pg.runL n (valOf x (.a c)) l L) = some ((⟨true, c, .at_ (.r x)⟩ : Val), l, L) := rfl
theorem xL_valOf_alb {n : Nat} {l : Asc} {L : Lg} (x d o m : Nat) (ag : Bool) : (Pg.runL n (valOf x (.al (.b d o) m ag)) l L) = obind ((Pg.runL n (getPl (.b d o) m) l L)) fun q => some ((⟨ag, q.1, .at_ (.b d o)⟩ : Val), q.2.1, q.2.2) := by first | rfl | exact runL_bind .. | exact (runL_bind ..).trans rfl
theorem xL_getPl_b {n : Nat} {l : Asc} {L : Lg} (d o m : Nat) : (Pg.runL n (getPl (.b d o) m) l L) = ogo (look l d) fun v => (Pg.runL n (Pg.opt (getIn v (.b d o) m)) l (L.rd d v)) := rfl
theorem xL_putPl_r {n : Nat} {l : Asc} {L : Lg} (d : Nat) (cs : List OV) : (Pg.runL n (putPl (.r d) cs) l L) = ogo (look l d) fun v => obind (putIn v (.r d) cs) fun v' => (Pg.runL n (Pg.put d v' (.ret ())) l (L.rd d v)) := by
  exact (xL_bind (Pg.opt (putIn (look l d) _ cs)) (fun v' => Pg.put d v' (.ret ()))).trans (by rw [oL, ob_assoc]; rfl)
theorem xL_putPl_b {n : Nat} {l : Asc} {L : Lg} (d o : Nat) (cs : List OV) : (Pg.runL n (putPl (.b d o) cs) l L) = ogo (look l d) fun v => obind (putIn v (.b d o) cs) fun v' => (Pg.runL n (Pg.put d v' (.ret ())) l (L.rd d v)) := by
  exact (xL_bind (Pg.opt (putIn (look l d) _ cs)) (fun v' => Pg.put d v' (.ret ()))).trans (by rw [oL, ob_assoc]; rfl)
theorem xL_put {n : Nat} {l : Asc} {L : Lg} {α : Type} (t : Nat) (v : AV) (k : Pg α) : (Pg.runL n (Pg.put t v k) l L) = oif (decide (t < n)) ((Pg.runL n (k) (ins t v l) (L.wt t v))) := by
  exact (oif_dec (_ < n) _).symm
theorem xL_wr {n : Nat} {l : Asc} {L : Lg} (K : Kills) (d : Nat) (v : AV) : (Pg.runL n (wr K d v) l L) = oif (decide (d < n)) (some ((), ins d v (killF (AV.on d) (K.getD d []) l), (L.ki (AV.on d) (K.getD d [])).wt d v)) := by
  exact (oif_dec (_ < n) _).symm
theorem xL_copy {n : Nat} {l : Asc} {L : Lg} (ag : Bool) (cs : List OV) (s : Src) : (Pg.runL n (copy ⟨ag, cs, s⟩) l L) = ocond (plainAll cs) (some (OV.frzs cs, l, L)) (oif (OV.wholes cs) ((Pg.runL n (copyS s cs) l L))) := by
  exact (cL ..).trans (congrArg (ocond _ _) (cL ..))
theorem xL_copyS_at {n : Nat} {l : Asc} {L : Lg} (pl : Pl) (cs : List OV) : (Pg.runL n (copyS (.at_ pl) cs) l L) = obind ((Pg.runL n (putPl pl (cs.map fun c => .p c.frz)) l L)) fun q => some (OV.frzs cs, q.2.1, q.2.2) := by first | rfl | exact runL_bind .. | exact (runL_bind ..).trans rfl
theorem xL_take {n : Nat} {l : Asc} {L : Lg} (K : Kills) (ag : Bool) (cs : List OV) (s : Src) : (Pg.runL n (take K ⟨ag, cs, s⟩) l L) = ocond (plainAll cs) (some (cs, l, L)) ((Pg.runL n (takeS K s cs) l L)) := by
  exact cL ..
theorem xL_takeS_atr {n : Nat} {l : Asc} {L : Lg} (K : Kills) (d : Nat) (cs : List OV) : (Pg.runL n (takeS K (.at_ (.r d)) cs) l L) = obind ((Pg.runL n (wr K d .u) l L)) fun q => some (cs, q.2.1, q.2.2) := by first | rfl | exact runL_bind .. | exact (runL_bind ..).trans rfl
theorem xL_takeS_atb {n : Nat} {l : Asc} {L : Lg} (K : Kills) (d o : Nat) (cs : List OV) : (Pg.runL n (takeS K (.at_ (.b d o)) cs) l L) = obind ((Pg.runL n (putPl (.b d o) (cs.map fun _ => .hole)) l L)) fun q => obind ((Pg.runL n (killIf (AV.onEl d) (K.getD d [])) q.2.1 q.2.2)) fun q => some (cs, q.2.1, q.2.2) := by
  all_goals (try (simp only [takeS, xL_bind, xL_ret, gL, oL, ob_assoc, oif_b, obind_some]))
  repeat' (first | with_reducible rfl | (with_reducible refine ob_congr fun _ => ?_) | (with_reducible refine oif_c ?_) | (with_reducible refine ochk_c ?_) | (simp only [xL_bind, xL_ret, gL, oL, iL, ob_assoc, oif_b, obind_some]))
  all_goals first | rfl | skip
  all_goals (rfl)
theorem xL_out_some {n : Nat} {l : Asc} {L : Lg} (K : Kills) (d : Nat) (v : AV) : (Pg.runL n (out K (some d) v) l L) = (Pg.runL n (wr K d v) l L) := rfl
theorem xL_outOn_some {n : Nat} {l : Asc} {L : Lg} (K : Kills) (h d : Nat) (v : AV) (hc : onOk K h d = true) : (Pg.runL n (outOn K (some d) h v) l L) = (Pg.runL n (wr K d v) l L) := by
  all_goals (try (simp only [outOn, xL_bind, xL_ret, gL, oL, ob_assoc, oif_b, obind_some]))
  repeat' (first | with_reducible rfl | (with_reducible refine ob_congr fun _ => ?_) | (with_reducible refine oif_c ?_) | (with_reducible refine ochk_c ?_) | (simp only [xL_bind, xL_ret, gL, oL, iL, ob_assoc, oif_b, obind_some]))
  all_goals first | rfl | skip
  all_goals (exact ochk_pos hc)
theorem xL_outVal_w {n : Nat} {l : Asc} {L : Lg} (K : Kills) (dst : Option Nat) (c : OV) : (Pg.runL n (outVal K dst false [c]) l L) = (Pg.runL n (out K dst (.w c)) l L) := rfl
theorem xL_outVal_a {n : Nat} {l : Asc} {L : Lg} (K : Kills) (dst : Option Nat) (cs : List OV) : (Pg.runL n (outVal K dst true cs) l L) = (Pg.runL n (out K dst (.a cs)) l L) := rfl
theorem xL_sc {n : Nat} {l : Asc} {L : Lg} (x : Od) : (Pg.runL n (sc x) l L) = obind ((Pg.runL n (val x) l L)) fun q => obind (oSc q.1) fun c => some (c, q.2.1, q.2.2) := by
  all_goals (try (simp only [sc, xL_bind, xL_ret, gL, oL, ob_assoc, oif_b, obind_some]))
  repeat' (first | with_reducible rfl | (with_reducible refine ob_congr fun _ => ?_) | (with_reducible refine oif_c ?_) | (with_reducible refine ochk_c ?_) | (simp only [xL_bind, xL_ret, gL, oL, iL, ob_assoc, oif_b, obind_some]))
  all_goals first | rfl | skip
  all_goals (rename_i y; rcases y with ⟨⟨ag, cs, s⟩, z⟩; cases ag <;> first | rfl | (rcases cs with _ | ⟨c, _ | ⟨c', cs⟩⟩ <;> first | rfl | (cases c <;> rfl)))
theorem xL_scInt {n : Nat} {l : Asc} {L : Lg} (x : Od) : (Pg.runL n (scInt x) l L) = obind ((Pg.runL n (sc x) l L)) fun q => obind (oInt q.1) fun c => some (c, q.2.1, q.2.2) := by
  all_goals (try (simp only [scInt, xL_bind, xL_ret, gL, oL, ob_assoc, oif_b, obind_some]))
  repeat' (first | with_reducible rfl | (with_reducible refine ob_congr fun _ => ?_) | (with_reducible refine oif_c ?_) | (with_reducible refine ochk_c ?_) | (simp only [xL_bind, xL_ret, gL, oL, iL, ob_assoc, oif_b, obind_some]))
  all_goals first | rfl | skip
  all_goals (rename_i y; rcases y with ⟨y, z⟩; cases y <;> rfl)
theorem xL_movPtr_w {n : Nat} {l : Asc} {L : Lg} (K : Kills) (dst : Option Nat) (i : Nat) (els : Pg Unit) (c : OV) : (Pg.runL n (movPtr K dst i els (.w c)) l L) = (Pg.runL n (els) l L) := rfl
theorem xL_movVal_w {n : Nat} {l : Asc} {L : Lg} (K : Kills) (dst : Option Nat) (i : Nat) (c : OV) : (Pg.runL n (movVal K dst i (.w c)) l L) = ocond c.plain ((Pg.runL n (out K dst (.w c)) l L)) ((Pg.runL n (outOn K dst i (.al (.r i) 1 false)) l L)) := by
  all_goals (try (simp only [movVal, xL_bind, xL_ret, gL, oL, ob_assoc, oif_b, obind_some]))
  repeat' (first | with_reducible rfl | (with_reducible refine ob_congr fun _ => ?_) | (with_reducible refine oif_c ?_) | (with_reducible refine ochk_c ?_) | (simp only [xL_bind, xL_ret, gL, oL, iL, ob_assoc, oif_b, obind_some]))
  all_goals first | rfl | skip
  all_goals (exact cL ..)
theorem xL_adr {n : Nat} {l : Asc} {L : Lg} (i : Nat) : (Pg.runL n (adr (.t i)) l L) = ogo (look l i) fun v => (Pg.runL n (match v with | .box _ => .ret (.inl (.b i 0)) | .ptr pl => .ret (.inl pl) | .fp cs => .ret (.inr cs) | _ => .fail) l (L.rd i v)) := rfl
theorem xL_build_nil {n : Nat} {l : Asc} {L : Lg} (K : Kills) (cs : List OV) : (Pg.runL n (buildP K cs []) l L) = some (cs, l, L) := rfl
theorem xL_build_cons {n : Nat} {l : Asc} {L : Lg} (K : Kills) (cs : List OV) (off m : Nat) (x : Od) (ps : List (Nat × Nat × Od)) : (Pg.runL n (buildP K cs ((off, m, x) :: ps)) l L) = obind ((Pg.runL n (val x) l L)) fun q => oif (q.1.cs.length == m && OV.wholes q.1.cs) (obind ((Pg.runL n (take K q.1) q.2.1 q.2.2)) fun q => obind (cellsPut cs off q.1) fun cs' => (Pg.runL n (buildP K cs' ps) q.2.1 q.2.2)) := by
  all_goals (try (simp only [buildP, xL_bind, xL_ret, gL, oL, ob_assoc, oif_b, obind_some]))
  repeat' (first | with_reducible rfl | (with_reducible refine ob_congr fun _ => ?_) | (with_reducible refine oif_c ?_) | (with_reducible refine ochk_c ?_) | (simp only [xL_bind, xL_ret, gL, oL, iL, ob_assoc, oif_b, obind_some]))
  all_goals first | rfl | skip
  all_goals (rfl)
theorem xL_bslice_nil {n : Nat} {l : Asc} {L : Lg} (K : Kills) (z : Nat) (els : List (List OV)) : (Pg.runL n (bsliceP K z els []) l L) = some (els, l, L) := rfl
theorem xL_bslice_cons {n : Nat} {l : Asc} {L : Lg} (K : Kills) (z : Nat) (els : List (List OV)) (i : Nat) (x : Od) (ps : List (Nat × Od)) : (Pg.runL n (bsliceP K z els ((i, x) :: ps)) l L) = obind ((Pg.runL n (val x) l L)) fun q => oif (q.1.cs.length == z && decide (i < els.length) && OV.wholes q.1.cs) (obind ((Pg.runL n (take K q.1) q.2.1 q.2.2)) fun q => (Pg.runL n (bsliceP K z (els.set i q.1) ps) q.2.1 q.2.2)) := by
  all_goals (try (simp only [bsliceP, xL_bind, xL_ret, gL, oL, ob_assoc, oif_b, obind_some]))
  repeat' (first | with_reducible rfl | (with_reducible refine ob_congr fun _ => ?_) | (with_reducible refine oif_c ?_) | (with_reducible refine ochk_c ?_) | (simp only [xL_bind, xL_ret, gL, oL, iL, ob_assoc, oif_b, obind_some]))
  all_goals first | rfl | skip
  all_goals (rfl)
theorem xL_argP_cw {n : Nat} {l : Asc} {L : Lg} (K : Kills) (c : OV) (mv : Bool) : (Pg.runL n (argP K (.c (.w c), mv)) l L) = some ((AV.w (if mv || !c.whole then c else .p c.frz), (none : Option Nat)), l, L) := rfl
theorem xL_argP_clo {n : Nat} {l : Asc} {L : Lg} (K : Kills) (g : Nat) (mv : Bool) : (Pg.runL n (argP K (.c (.clo g []), mv)) l L) = some ((AV.clo g [], (none : Option Nat)), l, L) := rfl
theorem xL_argP_t {n : Nat} {l : Asc} {L : Lg} (K : Kills) (i : Nat) (mv : Bool) : (Pg.runL n (argP K (.t i, mv)) l L) = ogo (look l i) fun v => (Pg.runL n (argV K i mv v) l (L.rd i v)) := by
  simp only [argP, Pg.runL, ogo]; generalize look l i = v; cases v <;> rfl
theorem xL_argV_w {n : Nat} {l : Asc} {L : Lg} (K : Kills) (i : Nat) (mv : Bool) (c : OV) : (Pg.runL n (argV K i mv (.w c)) l L) = obind ((Pg.runL n (valOf i (.w c)) l L)) fun q => (Pg.runL n (argW K mv q.1) q.2.1 q.2.2) := by first | rfl | exact runL_bind .. | exact (runL_bind ..).trans rfl
theorem xL_argV_a {n : Nat} {l : Asc} {L : Lg} (K : Kills) (i : Nat) (mv : Bool) (c : List OV) : (Pg.runL n (argV K i mv (.a c)) l L) = obind ((Pg.runL n (valOf i (.a c)) l L)) fun q => (Pg.runL n (argW K mv q.1) q.2.1 q.2.2) := by first | rfl | exact runL_bind .. | exact (runL_bind ..).trans rfl
theorem xL_argV_al {n : Nat} {l : Asc} {L : Lg} (K : Kills) (i : Nat) (mv : Bool) (pl : Pl) (m : Nat) (ag : Bool) : (Pg.runL n (argV K i mv (.al pl m ag)) l L) = obind ((Pg.runL n (valOf i (.al pl m ag)) l L)) fun q => (Pg.runL n (argW K mv q.1) q.2.1 q.2.2) := by first | rfl | exact runL_bind .. | exact (runL_bind ..).trans rfl
theorem xL_argW_c {n : Nat} {l : Asc} {L : Lg} (K : Kills) (x : Val) : (Pg.runL n (argW K false x) l L) = obind ((Pg.runL n (copy x) l L)) fun q => obind (AV.mk x.ag (q.1.map .p)) fun y => some ((y, (none : Option Nat)), q.2.1, q.2.2) := by
  exact (xL_bind ..).trans (ob_congr fun q => (xL_bind ..).trans (by rw [oL, ob_assoc]; rfl))
theorem xL_args_nil {n : Nat} {l : Asc} {L : Lg} (K : Kills) : (Pg.runL n (argsP K []) l L) = some ((([] : List AV), ([] : List Nat)), l, L) := rfl
theorem xL_args_cons {n : Nat} {l : Asc} {L : Lg} (K : Kills) (x : Od × Bool) (xs : List (Od × Bool)) : (Pg.runL n (argsP K (x :: xs)) l L) = obind ((Pg.runL n (argP K x) l L)) fun p => obind ((Pg.runL n (argsP K xs) p.2.1 p.2.2)) fun q => some ((p.1.1 :: q.1.1, p.1.2.toList ++ q.1.2), q.2.1, q.2.2) := by
  all_goals (try (simp only [argsP, xL_bind, xL_ret, gL, oL, ob_assoc, oif_b, obind_some]))
  repeat' (first | with_reducible rfl | (with_reducible refine ob_congr fun _ => ?_) | (with_reducible refine oif_c ?_) | (with_reducible refine ochk_c ?_) | (simp only [xL_bind, xL_ret, gL, oL, iL, ob_assoc, oif_b, obind_some]))
  all_goals first | rfl | skip
  all_goals (rfl)
theorem xL_give_nil {n : Nat} {l : Asc} {L : Lg} (K : Kills) : (Pg.runL n (giveBack K [] []) l L) = some ((), l, L) := rfl
theorem xL_outRes_1 {n : Nat} {l : Asc} {L : Lg} (K : Kills) (dst : Option Nat) (ag : Bool) (cs : List OV) : (Pg.runL n (outRes K dst [(ag, cs)]) l L) = (Pg.runL n (outVal K dst ag cs) l L) := rfl
theorem xL_callP {n : Nat} {l : Asc} {L : Lg} (K : Kills) (cf : Nat → List AV → Option CRes) (dst : Option Nat) (f : Nat) (as : List AV) (ls : List Nat) : (Pg.runL n (callP K cf dst f as ls) l L) = obind (cf f as) fun p => obind ((Pg.runL n (giveBack K ls p.2) l L)) fun q => (Pg.runL n (outRes K dst p.1) q.2.1 q.2.2) := by
  all_goals (try (simp only [callP, xL_bind, xL_ret, gL, oL, ob_assoc, oif_b, obind_some]))
  repeat' (first | with_reducible rfl | (with_reducible refine ob_congr fun _ => ?_) | (with_reducible refine oif_c ?_) | (with_reducible refine ochk_c ?_) | (simp only [xL_bind, xL_ret, gL, oL, iL, ob_assoc, oif_b, obind_some]))
  all_goals first | rfl | skip
  all_goals (rfl)
theorem xL_op_mov_t {n : Nat} {l : Asc} {L : Lg} (K : Kills) (cf : Nat → List AV → Option CRes) (dst : Option Nat) (i : Nat) : (Pg.runL n (opP K cf dst (.mov (.t i))) l L) = ogo (look l i) fun v => (Pg.runL n (movPtr K dst i (movVal K dst i v) v) l (L.rd i v)) := rfl
theorem xL_op_asg_t {n : Nat} {l : Asc} {L : Lg} (K : Kills) (cf : Nat → List AV → Option CRes) (dst : Option Nat) (i : Nat) : (Pg.runL n (opP K cf dst (.asg (.t i))) l L) = ogo (look l i) fun v => (Pg.runL n (asgA K dst i v) l (L.rd i v)) := by
  simp only [opP, Pg.runL, ogo]; generalize look l i = v; cases v <;> rfl
theorem xL_asgA_w {n : Nat} {l : Asc} {L : Lg} (K : Kills) (dst : Option Nat) (i : Nat) (c : OV) : (Pg.runL n (asgA K dst i (.w c)) l L) = (Pg.runL n (movPtr K dst i (asgV K dst i (.w c)) (.w c)) l L) := rfl
theorem xL_asgV {n : Nat} {l : Asc} {L : Lg} (K : Kills) (dst : Option Nat) (i : Nat) (a : AV) : (Pg.runL n (asgV K dst i a) l L) = obind ((Pg.runL n (valOf i a) l L)) fun p => obind ((Pg.runL n (take K p.1) p.2.1 p.2.2)) fun q => (Pg.runL n (outVal K dst p.1.ag q.1) q.2.1 q.2.2) := by
  all_goals (try (simp only [asgV, xL_bind, xL_ret, gL, oL, ob_assoc, oif_b, obind_some]))
  repeat' (first | with_reducible rfl | (with_reducible refine ob_congr fun _ => ?_) | (with_reducible refine oif_c ?_) | (with_reducible refine ochk_c ?_) | (simp only [xL_bind, xL_ret, gL, oL, iL, ob_assoc, oif_b, obind_some]))
  all_goals first | rfl | skip
  all_goals (rfl)
theorem xL_op_pick {n : Nat} {l : Asc} {L : Lg} (K : Kills) (cf : Nat → List AV → Option CRes) (dst : Option Nat) (c a b : Od) : (Pg.runL n (opP K cf dst (.pick c a b)) l L) = obind ((Pg.runL n (sc c) l L)) fun q => obind (oBool q.1) fun t => obind ((Pg.runL n (sc (if t then a else b)) q.2.1 q.2.2)) fun q => (Pg.runL n (out K dst (.w (.p q.1))) q.2.1 q.2.2) := by
  all_goals (try (simp only [opP, xL_bind, xL_ret, gL, oL, ob_assoc, oif_b, obind_some]))
  repeat' (first | with_reducible rfl | (with_reducible refine ob_congr fun _ => ?_) | (with_reducible refine oif_c ?_) | (with_reducible refine ochk_c ?_) | (simp only [xL_bind, xL_ret, gL, oL, iL, ob_assoc, oif_b, obind_some]))
  all_goals first | rfl | skip
  all_goals (rename_i y; rcases y with ⟨y, z⟩; cases y <;> first | rfl | exact xL_bind ..)
theorem xL_op_alloc {n : Nat} {l : Asc} {L : Lg} (K : Kills) (cf : Nat → List AV → Option CRes) (dst : Option Nat) (z : List OV) : (Pg.runL n (opP K cf dst (.alloc z)) l L) = (Pg.runL n (out K dst (.box z)) l L) := rfl
theorem xL_op_build {n : Nat} {l : Asc} {L : Lg} (K : Kills) (cf : Nat → List AV → Option CRes) (dst : Option Nat) (z : List OV) (ps : List (Nat × Nat × Od)) : (Pg.runL n (opP K cf dst (.build z ps)) l L) = obind ((Pg.runL n (buildP K z ps) l L)) fun q => (Pg.runL n (out K dst (.a q.1)) q.2.1 q.2.2) := by first | rfl | exact runL_bind .. | exact (runL_bind ..).trans rfl
theorem xL_op_bslice {n : Nat} {l : Asc} {L : Lg} (K : Kills) (cf : Nat → List AV → Option CRes) (dst : Option Nat) (z : Nat) (ze : List OV) (m : Nat) (ps : List (Nat × Od)) : (Pg.runL n (opP K cf dst (.bslice z ze m ps)) l L) = obind ((Pg.runL n (bsliceP K z (List.replicate m ze) ps) l L)) fun q => (Pg.runL n (out K dst (.w (.own z q.1))) q.2.1 q.2.2) := by first | rfl | exact runL_bind .. | exact (runL_bind ..).trans rfl
theorem xL_op_load {n : Nat} {l : Asc} {L : Lg} (K : Kills) (cf : Nat → List AV → Option CRes) (dst : Option Nat) (m : Nat) (ag : Bool) (x : Od) : (Pg.runL n (opP K cf dst (.load m ag x)) l L) = obind ((Pg.runL n (adr x) l L)) fun q => (Pg.runL n (loadV K dst m ag q.1) q.2.1 q.2.2) := by
  all_goals (try (simp only [opP, xL_bind, xL_ret, gL, oL, ob_assoc, oif_b, obind_some]))
  repeat' (first | with_reducible rfl | (with_reducible refine ob_congr fun _ => ?_) | (with_reducible refine oif_c ?_) | (with_reducible refine ochk_c ?_) | (simp only [xL_bind, xL_ret, gL, oL, iL, ob_assoc, oif_b, obind_some]))
  all_goals first | rfl | skip
  all_goals (rename_i y; rcases y with ⟨y, z⟩; cases y <;> rfl)
theorem xL_loadV_l {n : Nat} {l : Asc} {L : Lg} (K : Kills) (dst : Option Nat) (m : Nat) (ag : Bool) (pl : Pl) : (Pg.runL n (loadV K dst m ag (.inl pl)) l L) = obind ((Pg.runL n (getPl pl m) l L)) fun q => ocond (plainAll q.1) ((Pg.runL n (outVal K dst ag q.1) q.2.1 q.2.2)) ((Pg.runL n (outOn K dst pl.holder (.al pl m ag)) q.2.1 q.2.2)) := by
  all_goals (try (simp only [loadV, xL_bind, xL_ret, gL, oL, ob_assoc, oif_b, obind_some]))
  repeat' (first | with_reducible rfl | (with_reducible refine ob_congr fun _ => ?_) | (with_reducible refine oif_c ?_) | (with_reducible refine ochk_c ?_) | (simp only [xL_bind, xL_ret, gL, oL, iL, ob_assoc, oif_b, obind_some]))
  all_goals first | rfl | skip
  all_goals (exact cL ..)
theorem xL_loadV_r {n : Nat} {l : Asc} {L : Lg} (K : Kills) (dst : Option Nat) (m : Nat) (ag : Bool) (cs : List PV) : (Pg.runL n (loadV K dst m ag (.inr cs)) l L) = oif (decide (m ≤ cs.length)) ((Pg.runL n (outVal K dst ag ((cs.take m).map .p)) l L)) := by
  all_goals (try (simp only [loadV, xL_bind, xL_ret, gL, oL, ob_assoc, oif_b, obind_some]))
  repeat' (first | with_reducible rfl | (with_reducible refine ob_congr fun _ => ?_) | (with_reducible refine oif_c ?_) | (with_reducible refine ochk_c ?_) | (simp only [xL_bind, xL_ret, gL, oL, iL, ob_assoc, oif_b, obind_some]))
  all_goals first | rfl | skip
  all_goals (rfl)
theorem xL_op_store {n : Nat} {l : Asc} {L : Lg} (K : Kills) (cf : Nat → List AV → Option CRes) (dst : Option Nat) (m : Nat) (x v : Od) (keep : Bool) : (Pg.runL n (opP K cf dst (.store m x v keep)) l L) = obind ((Pg.runL n (adr x) l L)) fun q => (Pg.runL n (storeV K m v keep q.1) q.2.1 q.2.2) := by
  all_goals (try (simp only [opP, xL_bind, xL_ret, gL, oL, ob_assoc, oif_b, obind_some]))
  repeat' (first | with_reducible rfl | (with_reducible refine ob_congr fun _ => ?_) | (with_reducible refine oif_c ?_) | (with_reducible refine ochk_c ?_) | (simp only [xL_bind, xL_ret, gL, oL, iL, ob_assoc, oif_b, obind_some]))
  all_goals first | rfl | skip
  all_goals (rename_i y; rcases y with ⟨y, z⟩; cases y <;> rfl)
theorem xL_storeV_l {n : Nat} {l : Asc} {L : Lg} (K : Kills) (m : Nat) (y : Od) (keep : Bool) (pl : Pl) : (Pg.runL n (storeV K m y keep (.inl pl)) l L) = obind ((Pg.runL n (val y) l L)) fun p => oif (p.1.cs.length == m && OV.wholes p.1.cs) (obind ((Pg.runL n (storeC K pl keep p.1) p.2.1 p.2.2)) fun q => obind ((Pg.runL n (putPl pl q.1) q.2.1 q.2.2)) fun q => (Pg.runL n (killMem K pl.holder) q.2.1 q.2.2)) := by
  all_goals (try (simp only [storeV, xL_bind, xL_ret, gL, oL, ob_assoc, oif_b, obind_some]))
  repeat' (first | with_reducible rfl | (with_reducible refine ob_congr fun _ => ?_) | (with_reducible refine oif_c ?_) | (with_reducible refine ochk_c ?_) | (simp only [xL_bind, xL_ret, gL, oL, iL, ob_assoc, oif_b, obind_some]))
  all_goals first | rfl | skip
  all_goals (rfl)
theorem xL_storeC_k {n : Nat} {l : Asc} {L : Lg} (K : Kills) (pl : Pl) (x : Val) : (Pg.runL n (storeC K pl true x) l L) = (Pg.runL n (take K x) l L) := by
  all_goals (try (simp only [storeC, xL_bind, xL_ret, gL, oL, ob_assoc, oif_b, obind_some]))
  repeat' (first | with_reducible rfl | (with_reducible refine ob_congr fun _ => ?_) | (with_reducible refine oif_c ?_) | (with_reducible refine ochk_c ?_) | (simp only [xL_bind, xL_ret, gL, oL, iL, ob_assoc, oif_b, obind_some]))
  all_goals first | rfl | skip
  all_goals (rfl)
theorem xL_storeC_b {n : Nat} {l : Asc} {L : Lg} (K : Kills) (d o : Nat) (keep : Bool) (x : Val) : (Pg.runL n (storeC K (.b d o) keep x) l L) = (Pg.runL n (take K x) l L) := rfl
theorem xL_op_bin {n : Nat} {l : Asc} {L : Lg} (K : Kills) (cf : Nat → List AV → Option CRes) (dst : Option Nat) (o : BinOp) (x y : Od) : (Pg.runL n (opP K cf dst (.bin o x y)) l L) = obind ((Pg.runL n (sc x) l L)) fun p => obind ((Pg.runL n (sc y) p.2.1 p.2.2)) fun q => obind (binPV o p.1 q.1) fun c => (Pg.runL n (out K dst (.w (.p c))) q.2.1 q.2.2) := by
  all_goals (try (simp only [opP, xL_bind, xL_ret, gL, oL, ob_assoc, oif_b, obind_some]))
  repeat' (first | with_reducible rfl | (with_reducible refine ob_congr fun _ => ?_) | (with_reducible refine oif_c ?_) | (with_reducible refine ochk_c ?_) | (simp only [xL_bind, xL_ret, gL, oL, iL, ob_assoc, oif_b, obind_some]))
  all_goals first | rfl | skip
  all_goals (rfl)
theorem xL_op_eqs {n : Nat} {l : Asc} {L : Lg} (K : Kills) (cf : Nat → List AV → Option CRes) (dst : Option Nat) (neg : Bool) (ks : List CK) (x y : Od) : (Pg.runL n (opP K cf dst (.eqs neg ks x y)) l L) = obind ((Pg.runL n (val x) l L)) fun p => obind ((Pg.runL n (val y) p.2.1 p.2.2)) fun q => oif (p.1.ag && q.1.ag && plainAll p.1.cs && plainAll q.1.cs) (obind (cellsEq ks (OV.frzs p.1.cs) (OV.frzs q.1.cs)) fun r => (Pg.runL n (out K dst (.w (.p (.bool (if neg then !r else r))))) q.2.1 q.2.2)) := by
  all_goals (try (simp only [opP, xL_bind, xL_ret, gL, oL, ob_assoc, oif_b, obind_some]))
  repeat' (first | with_reducible rfl | (with_reducible refine ob_congr fun _ => ?_) | (with_reducible refine oif_c ?_) | (with_reducible refine ochk_c ?_) | (simp only [xL_bind, xL_ret, gL, oL, iL, ob_assoc, oif_b, obind_some]))
  all_goals first | rfl | skip
  all_goals (rfl)
theorem xL_op_un {n : Nat} {l : Asc} {L : Lg} (K : Kills) (cf : Nat → List AV → Option CRes) (dst : Option Nat) (o : UnOp) (x : Od) : (Pg.runL n (opP K cf dst (.un o x)) l L) = obind ((Pg.runL n (sc x) l L)) fun q => obind (unPV o q.1) fun c => (Pg.runL n (out K dst (.w (.p c))) q.2.1 q.2.2) := by
  all_goals (try (simp only [opP, xL_bind, xL_ret, gL, oL, ob_assoc, oif_b, obind_some]))
  repeat' (first | with_reducible rfl | (with_reducible refine ob_congr fun _ => ?_) | (with_reducible refine oif_c ?_) | (with_reducible refine ochk_c ?_) | (simp only [xL_bind, xL_ret, gL, oL, iL, ob_assoc, oif_b, obind_some]))
  all_goals first | rfl | skip
  all_goals (rfl)
theorem xL_op_fad {n : Nat} {l : Asc} {L : Lg} (K : Kills) (cf : Nat → List AV → Option CRes) (dst : Option Nat) (o : Nat) (x : Od) : (Pg.runL n (opP K cf dst (.fad o x)) l L) = obind ((Pg.runL n (adr x) l L)) fun q => (Pg.runL n (fadV K dst o q.1) q.2.1 q.2.2) := by
  all_goals (try (simp only [opP, xL_bind, xL_ret, gL, oL, ob_assoc, oif_b, obind_some]))
  repeat' (first | with_reducible rfl | (with_reducible refine ob_congr fun _ => ?_) | (with_reducible refine oif_c ?_) | (with_reducible refine ochk_c ?_) | (simp only [xL_bind, xL_ret, gL, oL, iL, ob_assoc, oif_b, obind_some]))
  all_goals first | rfl | skip
  all_goals (rename_i y; rcases y with ⟨y, z⟩; cases y <;> rfl)
theorem xL_fadV_l {n : Nat} {l : Asc} {L : Lg} (K : Kills) (dst : Option Nat) (o : Nat) (pl : Pl) : (Pg.runL n (fadV K dst o (.inl pl)) l L) = (Pg.runL n (outOn K dst pl.holder (.ptr (pl.plus o))) l L) := rfl
theorem xL_fadV_r {n : Nat} {l : Asc} {L : Lg} (K : Kills) (dst : Option Nat) (o : Nat) (cs : List PV) : (Pg.runL n (fadV K dst o (.inr cs)) l L) = (Pg.runL n (out K dst (.fp (cs.drop o))) l L) := rfl
theorem xL_op_iad {n : Nat} {l : Asc} {L : Lg} (K : Kills) (cf : Nat → List AV → Option CRes) (dst : Option Nat) (z : Nat) (x i : Od) : (Pg.runL n (opP K cf dst (.iad z x i)) l L) = obind ((Pg.runL n (val x) l L)) fun p => oif (!p.1.ag) (obind ((Pg.runL n (scInt i) p.2.1 p.2.2)) fun q => ochk (0 ≤ q.1) ((Pg.runL n (iadV K dst z p.1 q.1.toNat) q.2.1 q.2.2))) := by
  all_goals (try (simp only [opP, xL_bind, xL_ret, gL, oL, ob_assoc, oif_b, obind_some]))
  repeat' (first | with_reducible rfl | (with_reducible refine ob_congr fun _ => ?_) | (with_reducible refine oif_c ?_) | (with_reducible refine ochk_c ?_) | (simp only [xL_bind, xL_ret, gL, oL, iL, ob_assoc, oif_b, obind_some]))
  all_goals first | rfl | skip
  all_goals (first | exact oif_dec .. | exact (oif_dec (0 ≤ _) _).trans (ochk_c rfl))
theorem xL_iadV_p {n : Nat} {l : Asc} {L : Lg} (K : Kills) (dst : Option Nat) (z z' : Nat) (els : List (List PV)) (ag : Bool) (s : Src) (i : Nat) : (Pg.runL n (iadV K dst z ⟨ag, [.p (.sl z' els)], s⟩ i) l L) = oif (z' == z) (obind els[i]? fun e => (Pg.runL n (out K dst (.fp e)) l L)) := by
  all_goals (try (simp only [iadV, xL_bind, xL_ret, gL, oL, ob_assoc, oif_b, obind_some]))
  repeat' (first | with_reducible rfl | (with_reducible refine ob_congr fun _ => ?_) | (with_reducible refine oif_c ?_) | (with_reducible refine ochk_c ?_) | (simp only [xL_bind, xL_ret, gL, oL, iL, ob_assoc, oif_b, obind_some]))
  all_goals first | rfl | skip
  all_goals (exact ochk_beq ..)
theorem xL_op_call {n : Nat} {l : Asc} {L : Lg} (K : Kills) (cf : Nat → List AV → Option CRes) (dst : Option Nat) (f : Nat) (args : List (Od × Bool)) : (Pg.runL n (opP K cf dst (.call f args)) l L) = obind ((Pg.runL n (argsP K args) l L)) fun q => (Pg.runL n (callP K cf dst f q.1.1 q.1.2) q.2.1 q.2.2) := by
  all_goals (try (simp only [opP, xL_bind, xL_ret, gL, oL, ob_assoc, oif_b, obind_some]))
  repeat' (first | with_reducible rfl | (with_reducible refine ob_congr fun _ => ?_) | (with_reducible refine oif_c ?_) | (with_reducible refine ochk_c ?_) | (simp only [xL_bind, xL_ret, gL, oL, iL, ob_assoc, oif_b, obind_some]))
  all_goals first | rfl | skip
  all_goals (rfl)
theorem xL_op_len_f {n : Nat} {l : Asc} {L : Lg} (K : Kills) (cf : Nat → List AV → Option CRes) (dst : Option Nat) (x : Od) : (Pg.runL n (opP K cf dst (.len false x)) l L) = obind ((Pg.runL n (val x) l L)) fun q => oif (!q.1.ag) (obind (elsLen q.1.cs) fun m => (Pg.runL n (out K dst (.w (.p (.int .i64 m)))) q.2.1 q.2.2)) := by
  all_goals (try (simp only [opP, xL_bind, xL_ret, gL, oL, ob_assoc, oif_b, obind_some]))
  repeat' (first | with_reducible rfl | (with_reducible refine ob_congr fun _ => ?_) | (with_reducible refine oif_c ?_) | (with_reducible refine ochk_c ?_) | (simp only [xL_bind, xL_ret, gL, oL, iL, ob_assoc, oif_b, obind_some]))
  all_goals first | rfl | skip
  all_goals (rfl)
theorem xL_op_len_t {n : Nat} {l : Asc} {L : Lg} (K : Kills) (cf : Nat → List AV → Option CRes) (dst : Option Nat) (x : Od) : (Pg.runL n (opP K cf dst (.len true x)) l L) = obind ((Pg.runL n (sc x) l L)) fun q => obind (oStr q.1) fun s => (Pg.runL n (out K dst (.w (.p (.int .i64 s.length)))) q.2.1 q.2.2) := by
  all_goals (try (simp only [opP, xL_bind, xL_ret, gL, oL, ob_assoc, oif_b, obind_some]))
  repeat' (first | with_reducible rfl | (with_reducible refine ob_congr fun _ => ?_) | (with_reducible refine oif_c ?_) | (with_reducible refine ochk_c ?_) | (simp only [xL_bind, xL_ret, gL, oL, iL, ob_assoc, oif_b, obind_some]))
  all_goals first | rfl | skip
  all_goals (rename_i y; rcases y with ⟨y, z⟩; cases y <;> rfl)
theorem xL_op_app {n : Nat} {l : Asc} {L : Lg} (K : Kills) (cf : Nat → List AV → Option CRes) (dst : Option Nat) (z bytes : Nat) (x y : Od) (keep : Bool) : (Pg.runL n (opP K cf dst (.app z bytes x y keep)) l L) = obind ((Pg.runL n (val x) l L)) fun p => oif (!p.1.ag) (obind (oOwn z p.1.cs) fun els => obind ((Pg.runL n (take K p.1) p.2.1 p.2.2)) fun q => obind ((Pg.runL n (val y) q.2.1 q.2.2)) fun p => oif (!p.1.ag) (obind ((Pg.runL n (appC K keep p.1) p.2.1 p.2.2)) fun q => obind (oEl z q.1) fun new => ochk (els.length + new.length ≤ 140737488351232 ∧ (els.length + new.length) * bytes ≤ 140737488351232) ((Pg.runL n (out K dst (.w (.own z (els ++ new)))) q.2.1 q.2.2)))) := by
  all_goals (try (simp only [opP, xL_bind, xL_ret, gL, oL, ob_assoc, oif_b, obind_some]))
  repeat' (first | with_reducible rfl | (with_reducible refine ob_congr fun _ => ?_) | (with_reducible refine oif_c ?_) | (with_reducible refine ochk_c ?_) | (simp only [xL_bind, xL_ret, gL, oL, iL, ob_assoc, oif_b, obind_some]))
  all_goals first | rfl | skip
  rename_i y0; rcases y0 with ⟨⟨ag, cs, s⟩, z0⟩; dsimp only; rcases cs with _ | ⟨c, _ | ⟨c', cs⟩⟩ <;> first | rfl | (cases c <;> first | rfl | skip)
  rename_i z' els
  dsimp only [oOwn]
  by_cases h : z' = z
  · subst h
    simp only [beq_self_eq_true, if_true, obind_some, xL_bind, gL, oif_b]
    refine ob_congr fun q1 => ob_congr fun q2 => oif_c ?_
    have e : Pg.runL n (if keep = true then take K q2.1 else (copy q2.1).bind fun cs => Pg.ret (List.map OV.p cs)) q2.2.1 q2.2.2 = Pg.runL n (appC K keep q2.1) q2.2.1 q2.2.2 := by unfold appC; rfl
    rw [e]
    refine ob_congr fun q3 => ?_
    rcases q3 with ⟨cs, z3⟩
    rcases cs with _ | ⟨c, _ | ⟨c', cs⟩⟩ <;> first | rfl | (rcases c with c | ⟨z'', new⟩ | _ <;> first | rfl | (cases c <;> first | rfl | skip) | skip)
    · rename_i z'' new
      dsimp only [oEl]
      by_cases h2 : z'' = z' <;> simp only [h2, beq_self_eq_true, if_true, decide_true, Bool.true_and, plains_length, obind_some]
      · unfold ochk
        by_cases a1 : els.length + new.length ≤ 140737488351232 <;> by_cases a2 : (els.length + new.length) * bytes ≤ 140737488351232 <;> simp [a1, a2] <;> rfl
      · have h3 : (z'' == z') = false := by simpa using h2
        simp [h2, h3, obind]; rfl
    · dsimp only [oEl]
      by_cases h2 : z'' = z'
      · subst h2
        simp only [beq_self_eq_true, if_true, decide_true, Bool.true_and]
        by_cases h3 : OV.wholess new = true
        · simp only [h3, if_true, Bool.true_and, obind_some]
          unfold ochk
          by_cases a1 : els.length + new.length ≤ 140737488351232 <;> by_cases a2 : (els.length + new.length) * bytes ≤ 140737488351232 <;> simp [a1, a2] <;> rfl
        · simp only [Bool.not_eq_true] at h3
          simp [h3, obind]; rfl
      · have h3 : (z'' == z') = false := by simpa using h2
        simp [h2, h3, obind]; rfl
  · have h3 : (z' == z) = false := by simpa using h
    simp [h, h3, obind]; rfl
theorem xL_appC_t {n : Nat} {l : Asc} {L : Lg} (K : Kills) (x : Val) : (Pg.runL n (appC K true x) l L) = (Pg.runL n (take K x) l L) := rfl
theorem xL_op_mm {n : Nat} {l : Asc} {L : Lg} (K : Kills) (cf : Nat → List AV → Option CRes) (dst : Option Nat) (m : Bool) (x y : Od) : (Pg.runL n (opP K cf dst (.mm m x y)) l L) = obind ((Pg.runL n (sc x) l L)) fun p => obind ((Pg.runL n (sc y) p.2.1 p.2.2)) fun q => obind (mmPV m p.1 q.1) fun c => (Pg.runL n (out K dst (.w (.p c))) q.2.1 q.2.2) := by
  all_goals (try (simp only [opP, xL_bind, xL_ret, gL, oL, ob_assoc, oif_b, obind_some]))
  repeat' (first | with_reducible rfl | (with_reducible refine ob_congr fun _ => ?_) | (with_reducible refine oif_c ?_) | (with_reducible refine ochk_c ?_) | (simp only [xL_bind, xL_ret, gL, oL, iL, ob_assoc, oif_b, obind_some]))
  all_goals first | rfl | skip
  all_goals (rename_i y1 y2; rcases y1 with ⟨y1, z1⟩; rcases y2 with ⟨y2, z2⟩; cases y1 <;> cases y2 <;> first | rfl | (rename_i k a k' b; dsimp only [mmPV]; by_cases h : k = k' <;> simp only [h, if_true, if_false] <;> rfl))
theorem xL_oper {n : Nat} {l : Asc} {L : Lg} (K : Kills) (cf : Nat → List AV → Option CRes) (d : Option Nat) (o : IOp) : (Pg.runL n (operP K cf ⟨d, o, none⟩) l L) = (Pg.runL n (opP K cf d o) l L) := rfl
theorem xL_opergt {n : Nat} {l : Asc} {L : Lg} (K : Kills) (cf : Nat → List AV → Option CRes) (d : Option Nat) (o : IOp) (t : Nat) : (Pg.runL n (operP K cf ⟨d, o, some (t, true)⟩) l L) = ogo (look l t) fun v => obind (oBitT v) fun b => ogcond b ((Pg.runL n (opP K cf d o) l (L.rd t v))) ((Pg.runL n (skipP K d) l (L.rd t v))) := by
  simp only [operP, Pg.runL, ogo]; generalize look l t = v; cases v <;> first | rfl | (rename_i c; cases c <;> first | rfl | (rename_i p; cases p <;> first | rfl | (rename_i b; cases b <;> rfl)) | (rename_i x y; rfl))
theorem xL_opergf {n : Nat} {l : Asc} {L : Lg} (K : Kills) (cf : Nat → List AV → Option CRes) (d : Option Nat) (o : IOp) (t : Nat) : (Pg.runL n (operP K cf ⟨d, o, some (t, false)⟩) l L) = ogo (look l t) fun v => obind (oBitF v) fun b => ogcond b ((Pg.runL n (skipP K d) l (L.rd t v))) ((Pg.runL n (opP K cf d o) l (L.rd t v))) := by
  simp only [operP, Pg.runL, ogo]; generalize look l t = v; cases v <;> first | rfl | (rename_i c; cases c <;> first | rfl | (rename_i p; cases p <;> first | rfl | (rename_i b; cases b <;> rfl)) | (rename_i x y; rfl))
theorem xL_skip_s {n : Nat} {l : Asc} {L : Lg} (K : Kills) (d : Nat) : (Pg.runL n (skipP K (some d)) l L) = (Pg.runL n (wr K d (.t [])) l L) := rfl
end Go.Pv
end

section
namespace Go.Pv
set_option linter.unusedVariables false
set_option linter.unusedSimpArgs false
section
variable {K : Kills} {cf : Nat → List AV → Option CRes} {n : Nat} {E : Env} {Q : Ex → Asc → Prop} {l l1 : Asc}
theorem xK_nil (ks : List Nat) : runOpsK n K cf ks [] l = some (keepS ks l) := rfl
theorem xK_cons (ks : List Nat) (o : IOper) (os : List IOper) : runOpsK n K cf ks (o :: os) l = obind ((operP K cf o).runS n l) fun q => runOpsK n K cf ks os q.2 := rfl
theorem xD_nil (ks : List Nat) (lg : List Lg) : runOpsD n K cf ks [] l lg = some (keepS ks l, lg.reverse) := rfl
theorem xD_cons (ks : List Nat) (o : IOper) (os : List IOper) (lg : List Lg) : runOpsD n K cf ks (o :: os) l lg = obind ((operP K cf o).runL n l .emp) fun q => runOpsD n K cf ks os q.2.1 (q.2.2 :: lg) := rfl
theorem wpS_condK {x : Od} {a b : IC} {t : Bool} (hc : (obind ((sc x).runS n l) fun q => oBool q.1) = some t) (h1 : t = true → WpS E n K a l Q) (h2 : t = false → WpS E n K b l Q) : WpS E n K (.cond x a b) l Q := by
  refine wpS_cond (t := t) ?_ h1 h2
  cases h : (sc x).runS n l with
  | none => rw [h] at hc; simp [obind] at hc
  | some q =>
    rw [h] at hc
    obtain ⟨v, l'⟩ := q
    cases v <;> simp [obind, oBool] at hc
    subst hc; rfl
end
def oThen {α : Type} (x : Option α) (R : α → Prop) : Prop := ∃ y, x = some y ∧ R y
@[congr] theorem oThen_congr {α : Type} {x x' : Option α} {R : α → Prop} (h : x = x') : oThen x R = oThen x' R := by rw [h]
theorem beqI (a b : Int) : (a == b) = decide (a = b) := by by_cases h : a = b <;> simp [h]
theorem beqL (a b : List UInt8) : (a == b) = decide (a = b) := by by_cases h : a = b <;> simp [h]
theorem beqB (a b : Bool) : (a == b) = decide (a = b) := by cases a <;> cases b <;> rfl
theorem wrap_i64 {x : Int} (h : -9223372036854775808 ≤ x ∧ x ≤ 9223372036854775807) : IntKind.i64.wrap x = x := IntWalk.i64_in x h
def by8 (x : Int) : UInt8 := UInt8.ofNat (x % 256).toNat
theorem xshr {k : IntKind} {a b : Int} (h : 0 ≤ b) (hb : b.toNat ≤ k.bits) : shiftInt .shr k a b = some (.int k (a / 2 ^ b.toNat)) := by
  unfold shiftInt
  rw [if_neg (by omega), Nat.min_eq_left hb]
  simp only
  rw [Int.fdiv_eq_ediv_of_nonneg _ (Int.pow_nonneg (by omega))]
theorem xshl {k : IntKind} {a b : Int} (h : 0 ≤ b) (hb : b.toNat ≤ k.bits) : shiftInt .shl k a b = some (.int k (k.wrap (a * 2 ^ b.toNat))) := by
  unfold shiftInt
  rw [if_neg (by omega), Nat.min_eq_left hb]
theorem cast_add1 (i : Nat) : ((i : Int) + 1) = ((i + 1 : Nat) : Int) := rfl
theorem cast_add (i j : Nat) : ((i : Int) + (j : Int)) = ((i + j : Nat) : Int) := rfl
theorem cast_sub1 (i : Nat) : (((i + 1 : Nat) : Int) - 1) = (i : Int) := by omega
theorem getL {α β : Type} (f : α → β) (l : List α) (x : β) : (l.map f ++ [x])[l.length]? = some x := by simp
theorem WpS.keepE (ks : List Nat) {E : Env} {n : Nat} {K : Kills} {c : IC} {l l1 : Asc} {Q : Ex → Asc → Prop} (h : WpS E n K c l1 Q) (he : keepS ks l = l1) : WpS E n K c l Q := by
  subst he; exact h.keep
theorem get_lt {α : Type} {l : List α} {i : Nat} (h : i < l.length) : ∃ x, l[i]? = some x := ⟨l[i], List.getElem?_eq_getElem h⟩
theorem take_map1 {α β : Type} (f : α → β) {l : List α} {i : Nat} {x : α} (h : l[i]? = some x) : (l.take (i + 1)).map f = (l.take i).map f ++ [f x] := by
  rw [List.take_add_one, h]; simp
theorem mem_get {α : Type} {l : List α} {i : Nat} {x : α} (h : l[i]? = some x) : x ∈ l := List.mem_of_getElem? h
theorem frzs_plain : ∀ (e : List PV), OV.frzs (e.map .p) = e
  | [] => rfl
  | x :: e => by simp only [List.map_cons, OV.frzs, OV.frz, frzs_plain e]
theorem frzss_plains : ∀ (l : List (List PV)), OV.frzss (plains l) = l
  | [] => rfl
  | e :: l => by
    have := frzss_plains l
    simp only [plains, List.map_cons, OV.frzss] at this ⊢
    rw [frzs_plain, this]
theorem wholes_plain : ∀ (e : List PV), OV.wholes (e.map .p) = true
  | [] => rfl
  | x :: e => by simp only [List.map_cons, OV.wholes, OV.whole, wholes_plain e, Bool.and_self]
theorem wholess_plains : ∀ (l : List (List PV)), OV.wholess (plains l) = true
  | [] => rfl
  | e :: l => by
    have := wholess_plains l
    simp only [plains, List.map_cons, OV.wholess] at this ⊢
    rw [wholes_plain, this]; rfl
theorem wholess_app : ∀ (a b : List (List OV)), OV.wholess (a ++ b) = (OV.wholess a && OV.wholess b)
  | [], b => by simp [OV.wholess]
  | e :: a, b => by simp only [List.cons_append, OV.wholess, wholess_app a b, Bool.and_assoc]
end Go.Pv
end

section
namespace Go.Pv
theorem lookup_mem {α : Type} : ∀ {l : List (Nat × α)} {f : Nat} {x : α}, l.lookup f = some x → (f, x) ∈ l
  | [], _, _, h => by simp at h
  | (g, y) :: r, f, x, h => by
    simp only [List.lookup] at h
    split at h
    · rename_i e
      simp at e h
      subst e; subst h
      exact List.mem_cons_self
    · exact List.mem_cons_of_mem _ (lookup_mem h)
def FnIs (P : Program) (f : Nat) (i : IFn) : Prop := ∃ F H, P.funcs[f]? = some F ∧ F.name ≠ "runtime.NumGoroutine" ∧ fnOf P H i.kills i.keeps F = some i
def ExtIs (I : World → Prop) (P : Program) (f : Nat) (g : List AV → Option CRes) : Prop := ∀ as r, g as = some r → FnOk P f ∧ CallOk I P f as r
def tabEnv (l : List (Nat × IFn)) (x : List (Nat × (List AV → Option CRes))) : Env := ⟨fun f => l.lookup f, fun f => x.lookup f, fun _ => none⟩
def tabEnvI (l : List (Nat × IFn)) (x : List (Nat × (List AV → Option CRes))) (i : List (Nat × (ItKind × Nat))) : Env := ⟨fun f => l.lookup f, fun f => x.lookup f, fun f => i.lookup f⟩
theorem tabEnvI_ok {I : World → Prop} {P : Program} {l : List (Nat × IFn)} {x : List (Nat × (List AV → Option CRes))} {i : List (Nat × (ItKind × Nat))} (hm : P.follows .mixedOrders = true) (hmk : LibOk P) (hl : ∀ p ∈ l, FnIs P p.1 p.2) (hx : ∀ p ∈ x, ExtIs I P p.1 p.2)
    (hi : ∀ p ∈ i, IterOk P p.1 p.2.1 p.2.2) : EnvOk I P (tabEnvI l x i) where
  makers := hmk
  mixed := hm
  prog := fun f i _ hp => hl _ (lookup_mem hp)
  ext := fun f g hg => hx _ (lookup_mem hg)
  iters := fun gf kd z h => hi (gf, kd, z) (lookup_mem h)
end Go.Pv
end

section
namespace Go.Pv
def delE : List AV → Option CRes
  | [.w (.own z els), .w (.p (.int .i64 i)), .w (.p (.int .i64 j))] => if z = 9 ∧ OV.wholess els = true ∧ 0 ≤ i ∧ i < j ∧ j ≤ els.length then some ([(false, [.own 9 (els.take i.toNat ++ els.drop j.toNat)])], []) else none
  | _ => none
def insE : List AV → Option CRes
  | [.w (.own z els), .w (.p (.int .i64 i)), .w (.own z' new)] => if z = 9 ∧ z' = 9 ∧ els.all plainAll = true ∧ new.all plainAll = true ∧ 0 ≤ i ∧ i ≤ els.length ∧ 0 < new.length ∧ (els.length + new.length) * 80 ≤ 140737488355328 then some ([(false, [.own 9 (els.take i.toNat ++ new ++ els.drop i.toNat)])], []) else none
  | _ => none
end Go.Pv
end

section
namespace Go.Pv
set_option linter.unusedVariables false
set_option linter.unusedSimpArgs false
inductive LC where
  | s
  | r (ks : List Nat) (os : List IOper)
  | d (ks : List Nat) (bfs : List (List Nat)) (os : List IOper)
  | q (a b : LC)
  | c (x : Od) (a b : LC)
  | b (i : Nat) (a : LC)
  | l (a : LC)
  | e (i : Nat)
  | o (a : LC)
  | n (i : Nat)
  | g (i : Nat)
  | t
  | f (x : Nat) (ps G : List Nat) (a b : LC)
def LC.code : LC → IC
  | .s => .skip
  | .r _ os => .reg os
  | .d _ bfs os => .draw bfs os
  | .q u v => .seq u.code v.code
  | .c x u v => .cond x u.code v.code
  | .b i u => .block i u.code
  | .l u => .loop u.code
  | .e i => .exit i
  | .o u => .scope u.code
  | .n i => .label i
  | .g i => .goto i
  | .t => .ret
  | .f x ps G u v => .range x ps G u.code v.code
def LC.after (l : Nat) : LC → Option LC
  | .n l' => if l' = l then some .s else none
  | .q u v => match u.after l with
    | some w => some (.q w v)
    | none => v.after l
  | _ => none
theorem LC.after_code {i : Nat} : ∀ {u w : LC}, u.after i = some w → u.code.after i = some w.code
  | .n l', w, h => by
    simp only [LC.after] at h
    split at h
    · rename_i e; obtain rfl := Option.some.inj h; simp [LC.code, IC.after, e]
    · simp at h
  | .q u v, w, h => by
    simp only [LC.after] at h
    split at h
    · rename_i w' h1
      obtain rfl := Option.some.inj h
      simp only [LC.code, IC.after, LC.after_code h1]
    · rename_i h1
      have : u.code.after i = none := LC.after_no h1
      simp only [LC.code, IC.after, this, LC.after_code h]
  | .s, _, h | .r _ _, _, h | .d _ _ _, _, h | .c _ _ _, _, h | .b _ _, _, h | .l _, _, h | .e _, _, h | .o _, _, h | .g _, _, h | .t, _, h | .f _ _ _ _ _, _, h => by simp [LC.after] at h
  where
  LC.after_no : ∀ {u : LC}, u.after i = none → u.code.after i = none
  | .n l', h => by
    simp only [LC.after] at h
    split at h
    · simp at h
    · rename_i e; simp [LC.code, IC.after, e]
  | .q u v, h => by
    simp only [LC.after] at h
    split at h
    · simp at h
    · rename_i h1
      simp only [LC.code, IC.after, LC.after_no h1, LC.after_no h]
  | .s, h | .r _ _, h | .d _ _ _, h | .c _ _ _, h | .b _ _, h | .l _, h | .e _, h | .o _, h | .g _, h | .t, h | .f _ _ _ _ _, h => by simp [LC.code, IC.after]
class R1 (α : Type) where
  f : α → Prop
class P2 where
  a : Prop
  b : Prop
class G2 (β : Type) where
  x : Option β
  y : Option β
class AK where
  b : List (List Nat)
  g : List Lg
def oT {α : Type} (x : Option α) [k : R1 α] : Prop := ∃ y, x = some y ∧ k.f y
def vIf (t : Bool) [k : P2] : Prop := (t = true → k.a) ∧ (t = false → k.b)
def vIte (p A B : Prop) : Prop := (p → A) ∧ (¬ p → B)
def vAp [k : AK] (P : Prop) : Prop := apartAll k.b k.g = true ∧ P
def kS (E : Env) (n : Nat) (K : Kills) (a : LC) (Q : Ex → Asc → Prop) : Ex → Asc → Prop
  | .goto i, l => LpS E n K a.code Q (.goto i) l
  | ex, l => Q ex l
def V (E : Env) (n : Nat) (K : Kills) : LC → Asc → (Ex → Asc → Prop) → Prop
  | .s, l, Q => Q .nor l
  | .n _, l, Q => Q .nor l
  | .e i, l, Q => Q (.exit i) l
  | .g i, l, Q => Q (.goto i) l
  | .t, l, Q => Q .ret l
  | .r ks os, l, Q => @oT _ (runOpsK n K (ansOf E) ks os l) ⟨fun l1 => Q .nor l1⟩
  | .d ks bfs os, l, Q => @oT _ (runOpsD n K (ansOf E) ks os l []) ⟨fun r => @vAp ⟨bfs, r.2⟩ (Q .nor r.1)⟩
  | .q a b, l, Q => V E n K a l (thenS (fun l1 => V E n K b l1 Q) Q)
  | .c x a b, l, Q => @oT _ (obind ((sc x).runS n l) fun q => oBool q.1) ⟨fun t => @vIf t ⟨V E n K a l Q, V E n K b l Q⟩⟩
  | .b i a, l, Q => V E n K a l (blockS i Q)
  | .l a, l, Q => WpS E n K (.loop a.code) l Q
  | .o a, l, Q => V E n K a l (kS E n K a Q)
  | .f x ps G a b, l, Q => WpS E n K (.range x ps G a.code b.code) l Q
class LK where
  E : Env
  n : Nat
  K : Kills
  l : Asc
  Q : Ex → Asc → Prop
def LpG (a : LC) [k : LK] : Prop := WpS k.E k.n k.K (.loop a.code) k.l k.Q
def RgG (x : Nat) (ps G : List Nat) (a b : LC) [k : LK] : Prop := WpS k.E k.n k.K (.range x ps G a.code b.code) k.l k.Q
def GoG (a : LC) (i : Nat) [k : LK] : Prop := LpS k.E k.n k.K a.code k.Q (.goto i) k.l
def LbG (i : Nat) [k : LK] : Prop := k.Q .nor k.l
section
variable {E : Env} {n : Nat} {K : Kills} {Q Q' R' : Ex → Asc → Prop} {R : Asc → Prop} {l l1 : Asc}
theorem V_run : ∀ {c : LC} {l : Asc} {Q : Ex → Asc → Prop}, V E n K c l Q → WpS E n K c.code l Q
  | .s, _, _, h => wpS_skip h
  | .n _, _, _, h => wpS_label h
  | .e _, _, _, h => wpS_exit h
  | .g _, _, _, h => wpS_goto h
  | .t, _, _, h => wpS_ret h
  | .r ks os, l, Q, ⟨l1, h1, h2⟩ => by
    rw [runOpsK_eq] at h1
    obtain ⟨l2, h3, rfl⟩ := Option.map_eq_some_iff.1 h1
    exact wpS_regO _ h3 h2
  | .d ks bfs os, l, Q, ⟨⟨l1, lg⟩, h1, h2, h3⟩ => by
    rw [runOpsD_eq] at h1
    obtain ⟨⟨l2, lg2⟩, h4, h5⟩ := Option.map_eq_some_iff.1 h1
    simp only [List.reverse_nil, List.nil_append, Prod.mk.injEq] at h5
    obtain ⟨rfl, rfl⟩ := h5
    exact wpS_drawO _ h4 h2 h3
  | .q a b, l, Q, h => wpS_seq ((V_run (c := a) h).mono fun ex l' hl => by
    cases ex with
    | nor => exact V_run (c := b) hl
    | exit i => exact hl
    | goto i => exact hl
    | ret => exact hl)
  | .c x a b, l, Q, ⟨t, h1, h2, h3⟩ => wpS_condK h1 (fun e => V_run (c := a) (h2 e)) fun e => V_run (c := b) (h3 e)
  | .b i a, l, Q, h => wpS_block (V_run (c := a) h)
  | .l a, l, Q, h => h
  | .o a, l, Q, h => wpS_scope ((V_run (c := a) h).mono fun ex l' hl => by
    cases ex with
    | nor => exact lpS_nor hl
    | exit i => exact lpS_exit hl
    | goto i => exact hl
    | ret => exact lpS_ret hl)
  | .f x ps G a b, l, Q, h => h
@[congr] theorem V_congr {c : LC} (h : l = l1) : V E n K c l Q = V E n K c l1 Q := by rw [h]
@[congr] theorem thenS_congr {ex : Ex} (h : l = l1) : thenS R Q ex l = thenS R Q ex l1 := by rw [h]
@[congr] theorem blockS_congr {i : Nat} {ex : Ex} (h : l = l1) : blockS i Q ex l = blockS i Q ex l1 := by rw [h]
@[congr] theorem kS_congr {a : LC} {ex : Ex} (h : l = l1) : kS E n K a Q ex l = kS E n K a Q ex l1 := by rw [h]
@[congr] theorem LpS_congr {a : IC} {ex : Ex} (h : l = l1) : LpS E n K a Q ex l = LpS E n K a Q ex l1 := by rw [h]
@[congr] theorem WpS_congr {c : IC} (h : l = l1) : WpS E n K c l Q = WpS E n K c l1 Q := by rw [h]
@[congr] theorem vIte_congr {p p' A A' B B' : Prop} (h : p = p') (h1 : p' → A = A') (h2 : ¬ p' → B = B') : vIte p A B = vIte p' A' B' := by
  subst h
  exact propext ⟨fun q => ⟨fun hp => h1 hp ▸ q.1 hp, fun hp => h2 hp ▸ q.2 hp⟩, fun q => ⟨fun hp => h1 hp ▸ q.1 hp, fun hp => h2 hp ▸ q.2 hp⟩⟩
theorem v_s : V E n K .s l Q = Q .nor l := rfl
theorem v_nl {i : Nat} : V E n K (.n i) l Q = @LbG i ⟨E, n, K, l, Q⟩ := rfl
theorem v_n {i : Nat} : @LbG i ⟨E, n, K, l, Q⟩ = Q .nor l := rfl
theorem v_e {i : Nat} : V E n K (.e i) l Q = Q (.exit i) l := rfl
theorem v_g {i : Nat} : V E n K (.g i) l Q = Q (.goto i) l := rfl
theorem v_t : V E n K .t l Q = Q .ret l := rfl
theorem v_r {ks : List Nat} {os : List IOper} : V E n K (.r ks os) l Q = @oT _ (runOpsK n K (ansOf E) ks os l) ⟨fun l1 => Q .nor l1⟩ := rfl
theorem v_d {ks : List Nat} {bfs : List (List Nat)} {os : List IOper} : V E n K (.d ks bfs os) l Q = @oT _ (runOpsD n K (ansOf E) ks os l []) ⟨fun r => @vAp ⟨bfs, r.2⟩ (Q .nor r.1)⟩ := rfl
theorem v_q {a b : LC} : V E n K (.q a b) l Q = V E n K a l (thenS (fun l1 => V E n K b l1 Q) Q) := rfl
theorem v_c {x : Od} {a b : LC} : V E n K (.c x a b) l Q = @oT _ (obind ((sc x).runS n l) fun q => oBool q.1) ⟨fun t => @vIf t ⟨V E n K a l Q, V E n K b l Q⟩⟩ := rfl
theorem v_b {i : Nat} {a : LC} : V E n K (.b i a) l Q = V E n K a l (blockS i Q) := rfl
theorem v_o {a : LC} : V E n K (.o a) l Q = V E n K a l (kS E n K a Q) := rfl
theorem th_nor : thenS R Q .nor l = R l := rfl
theorem th_exit {i : Nat} : thenS R Q (.exit i) l = Q (.exit i) l := rfl
theorem th_ret : thenS R Q .ret l = Q .ret l := rfl
theorem bl_nor {i : Nat} : blockS i Q .nor l = Q .nor l := rfl
theorem bl_exit {i j : Nat} : blockS i Q (.exit j) l = if j = i then Q .nor l else Q (.exit j) l := rfl
theorem bl_ret {i : Nat} : blockS i Q .ret l = Q .ret l := rfl
theorem kS_ret {a : LC} : kS E n K a Q .ret l = Q .ret l := rfl
theorem oT_some {α : Type} {y : α} {R : α → Prop} : @oT α (some y) ⟨R⟩ = R y := by
  unfold oT; exact propext ⟨fun ⟨z, h, q⟩ => by obtain rfl := Option.some.inj h; exact q, fun q => ⟨y, rfl, q⟩⟩
theorem vIf_t {A B : Prop} : @vIf true ⟨A, B⟩ = A := by simp [vIf]
theorem vIf_f {A B : Prop} : @vIf false ⟨A, B⟩ = B := by simp [vIf]
theorem vIf_d {p : Prop} {d : Decidable p} {A B : Prop} : @vIf (@decide p d) ⟨A, B⟩ = vIte p A B := by simp [vIf, vIte]
theorem vIf_n {b : Bool} {A B : Prop} : @vIf (!b) ⟨A, B⟩ = @vIf b ⟨B, A⟩ := by cases b <;> simp [vIf]
theorem vIte_tt {p : Prop} : vIte p True True = True := by simp [vIte]
theorem vIf_i {t : Bool} {A B : Prop} (h1 : t = true → A) (h2 : t = false → B) : @vIf t ⟨A, B⟩ := ⟨h1, h2⟩
theorem vIte_i {p A B : Prop} (h1 : p → A) (h2 : ¬ p → B) : vIte p A B := ⟨h1, h2⟩
theorem vAp_i {bfs : List (List Nat)} {lg : List Lg} {P : Prop} (h1 : apartAll bfs lg = true) (h2 : P) : @vAp ⟨bfs, lg⟩ P := ⟨h1, h2⟩
def oG {β : Type} (c : Bool) [k : G2 β] : Option β := if c then k.x else k.y
theorem oG_of {β : Type} {c : Bool} {x y : Option β} : ogcond c x y = @oG β c ⟨x, y⟩ := rfl
theorem oG_t {β : Type} {x y : Option β} : @oG β true ⟨x, y⟩ = x := rfl
theorem oG_f {β : Type} {x y : Option β} : @oG β false ⟨x, y⟩ = y := rfl
theorem oG_n {β : Type} {c : Bool} {x y : Option β} : @oG β (!c) ⟨x, y⟩ = @oG β c ⟨y, x⟩ := by cases c <;> rfl
theorem obind_G {α β : Type} {c : Bool} {x y : Option α} {f : α → Option β} : obind (@oG α c ⟨x, y⟩) f = @oG β c ⟨obind x f, obind y f⟩ := by cases c <;> rfl
theorem oT_G {α : Type} {p : Prop} {d : Decidable p} {x y : Option α} {R : α → Prop} : @oT α (@oG α (@decide p d) ⟨x, y⟩) ⟨R⟩ = vIte p (@oT α x ⟨R⟩) (@oT α y ⟨R⟩) := by
  by_cases h : p <;> simp [oG, vIte, h]
theorem oT_Gi {α : Type} {c : Bool} {x y : Option α} {R : α → Prop} (h1 : c = true → @oT α x ⟨R⟩) (h2 : c = false → @oT α y ⟨R⟩) : @oT α (@oG α c ⟨x, y⟩) ⟨R⟩ := by
  cases c with
  | true => exact h1 rfl
  | false => exact h2 rfl
theorem v_l {a : LC} : V E n K (.l a) l Q = @LpG a ⟨E, n, K, l, Q⟩ := rfl
theorem v_f {x : Nat} {ps G : List Nat} {a b : LC} : V E n K (.f x ps G a b) l Q = @RgG x ps G a b ⟨E, n, K, l, Q⟩ := rfl
theorem kS_goto {a : LC} {i : Nat} : kS E n K a Q (.goto i) l = @GoG a i ⟨E, n, K, l, Q⟩ := rfl
theorem v_loop {a : LC} (h : V E n K a l (thenS (fun l1 => @LpG a ⟨E, n, K, l1, Q⟩) Q)) : @LpG a ⟨E, n, K, l, Q⟩ := wpS_loop (V_run h)
theorem v_goto {a r : LC} {i : Nat} (hr : a.after i = some r) (h : V E n K r l (kS E n K a Q)) : @GoG a i ⟨E, n, K, l, Q⟩ := lpS_goto (LC.after_code hr) ((V_run h).mono fun ex l' hl => by
    cases ex with
    | nor => exact lpS_nor hl
    | exit i => exact lpS_exit hl
    | goto i => exact hl
    | ret => exact lpS_ret hl)
theorem v_inv {a : LC} {ι : Type} (inv : ι → Asc) (P : ι → Prop) (m : ι → Nat) (x0 : ι) (h0 : l = inv x0) (hP : P x0)
    (step : ∀ x, P x → (∀ y, m y < m x → P y → @LpG a ⟨E, n, K, inv y, Q⟩) → V E n K a (inv x) (thenS (fun l1 => @LpG a ⟨E, n, K, l1, Q⟩) Q)) : @LpG a ⟨E, n, K, l, Q⟩ := by
  subst h0
  have key : ∀ k x, m x ≤ k → P x → @LpG a ⟨E, n, K, inv x, Q⟩ := by
    intro k
    induction k with
    | zero => intro x hx hp; exact v_loop (step x hp fun y hy _ => absurd hy (by omega))
    | succ k ih => intro x hx hp; exact v_loop (step x hp fun y hy hq => ih y (by omega) hq)
  exact key _ x0 (Nat.le_refl _) hP
theorem v_inv_lab {a r : LC} {i : Nat} (hr : a.after i = some (.q .s r)) {ι : Type} (inv : ι → Asc) (P : ι → Prop) (m : ι → Nat) (x0 : ι) (h0 : l = inv x0) (hP : P x0)
    (step : ∀ x, P x → (∀ y, m y < m x → P y → @GoG a i ⟨E, n, K, inv y, Q⟩) → V E n K r (inv x) (kS E n K a Q)) : @LbG i ⟨E, n, K, l, thenS (fun l1 => V E n K r l1 (kS E n K a Q)) (kS E n K a Q)⟩ := by
  subst h0
  have key : ∀ k x, m x ≤ k → P x → V E n K r (inv x) (kS E n K a Q) := by
    intro k
    induction k with
    | zero => intro x hx hp; exact step x hp fun y hy _ => absurd hy (by omega)
    | succ k ih => intro x hx hp; exact step x hp fun y hy hq => v_goto hr (ih y (by omega) hq)
  exact key _ x0 (Nat.le_refl _) hP
theorem LpG.keepE (ks : List Nat) {c : LC} (h : @LpG c ⟨E, n, K, l1, Q⟩) (he : keepS ks l = l1) : @LpG c ⟨E, n, K, l, Q⟩ := by
  subst he; exact WpS.keep ks (c := .loop c.code) h
theorem GoG.keepE (ks : List Nat) {c : LC} {i : Nat} (h : @GoG c i ⟨E, n, K, l1, Q⟩) (he : keepS ks l = l1) : @GoG c i ⟨E, n, K, l, Q⟩ := by
  subst he; exact LpS.keep ks h
theorem v_range_inv {x : Nat} {ps G : List Nat} {ca cb : LC} {gf : Nat} {caps : List AV} {cs : List (List PV)} {kd : ItKind} {z : Nat} {rows : List (List AV)} (inv : Nat → Asc) (hx : look l x = .clo gf caps) (hit : E.it gf = some (kd, z)) (hcs : fpCaps caps = some cs)
    (hrows : rowsOf kd z cs = some rows) (hps : (ps.all fun p => decide (p < n)) = true) (hl : ∀ row ∈ rows, row.length = ps.length) (h0 : keepGS G l = inv 0)
    (step : ∀ k row, rows[k]? = some row → V E n K ca (putPsS ps row (inv k)) fun ex l1 => ex = .nor ∧ V E n K cb l1 fun ex2 l2 => ex2 = .nor ∧ keepGS G l2 = inv (k + 1)) (hend : Q .nor (inv rows.length)) : @RgG x ps G ca cb ⟨E, n, K, l, Q⟩ :=
  wpS_range_inv inv hx hit hcs hrows hps hl h0 (fun k row hr => (V_run (step k row hr)).mono fun ex l1 ⟨e, h⟩ => ⟨e, V_run h⟩) hend
def doneR (n : Nat) (rs : List IRes) (K : Kills) (G : List Nat) (as : List AV) (l : Asc) : Option CRes :=
  obind ((resP K rs).runS n l) fun x => obind ((backP K G as 0).runS n x.2) fun y => some (x.1, y.1)
theorem xDoneR (n : Nat) (rs : List IRes) (K : Kills) (G : List Nat) (as : List AV) (l : Asc) : doneR n rs K G as l = obind ((resP K rs).runS n l) fun x => obind ((backP K G as 0).runS n x.2) fun y => some (x.1, y.1) := rfl
@[congr] theorem doneR_congr {n : Nat} {rs : List IRes} {K : Kills} {G : List Nat} {as : List AV} {l l' : Asc} (h : l = l') : doneR n rs K G as l = doneR n rs K G as l' := by rw [h]
def qE (n : Nat) (rs : List IRes) (K : Kills) (G : List Nat) (as : List AV) (r : CRes) : Ex → Asc → Prop := fun ex l => (ex = .nor ∨ ex = .ret) ∧ doneR n rs K G as l = some r
theorem qE_ret {n : Nat} {rs : List IRes} {K : Kills} {G : List Nat} {as : List AV} {r : CRes} {l : Asc} : qE n rs K G as r .ret l = (doneR n rs K G as l = some r) := by simp [qE]
@[congr] theorem qE_congr {n : Nat} {rs : List IRes} {K : Kills} {G : List Nat} {as : List AV} {r : CRes} {ex : Ex} {l l' : Asc} (h : l = l') : qE n rs K G as r ex l = qE n rs K G as r ex l' := by rw [h]
theorem ans_V {f : Nat} {i : IFn} {as : List AV} {r : CRes} {c : LC} (hx : E.ext f = none) (hp : E.prog f = some i) (hn : as.length = i.np ∧ i.np ≤ i.nt) (hb : i.body = c.code)
    (h : V E i.nt i.kills c (argsS as 0) (qE i.nt i.res i.kills i.keeps as r)) : ansOf E f as = some r := ans_S hx hp hn (hb ▸ V_run h)
end
attribute [irreducible] V kS vIf vIte vAp oG oT qE doneR LpG RgG GoG LbG
end Go.Pv
end

section
namespace Go.Pv
set_option linter.unusedVariables false
set_option linter.unusedSimpArgs false
def oK {α : Type} (c : Bool) (x y : α) : α := bif c then x else y
@[congr] theorem oK_congr {α : Type} {c c' : Bool} {x y : α} (h : c = c') : oK c x y = oK c' x y := by rw [h]
theorem oK_t {α : Type} {x y : α} : oK true x y = x := rfl
theorem oK_f {α : Type} {x y : α} : oK false x y = y := rfl
theorem oK_ite {α : Type} {p : Prop} [Decidable p] {x y : α} : (if p then x else y) = oK (decide p) x y := by by_cases h : p <;> simp [oK, h]
theorem cat_c {x : OV} {cs : List OV} {off n : Nat} : cellsAt (x :: cs) off n = oif (Nat.ble (off + n) (cs.length + 1)) (some (((x :: cs).drop off).take n)) := by
  unfold cellsAt oif; by_cases h : off + n ≤ cs.length + 1 <;> simp [h]
theorem cput_c {x : OV} {cs new : List OV} {off : Nat} : cellsPut (x :: cs) off new = oif (Nat.ble (off + new.length) (cs.length + 1)) (some ((x :: cs).take off ++ new ++ (x :: cs).drop (off + new.length))) := by
  unfold cellsPut oif; by_cases h : off + new.length ≤ cs.length + 1 <;> simp [h]
theorem sub_k {z lo hi : Nat} {els : List (List OV)} : subOf z lo hi [.own z els] = ochk (lo ≤ hi ∧ hi ≤ els.length) (some [.own z ((els.take hi).drop lo)]) := by
  unfold subOf ochk; by_cases h : lo ≤ hi ∧ hi ≤ els.length <;> simp [h]
theorem dec_and {p q : Prop} [Decidable p] [Decidable q] : (decide p && decide q) = decide (p ∧ q) := by simp
theorem beq0l (x : Int) : ((0 : Int) == x) = decide (x = 0) := by rw [beqI, decide_eq_decide]; exact eq_comm
theorem beqfl (x : Bool) : (false == x) = decide (x = false) := by cases x <;> rfl
theorem beqnl (x : List UInt8) : ([] == x) = decide (x = []) := by rw [beqL, decide_eq_decide]; exact eq_comm
theorem isB {a b : Bool} (h : a = b) : a = b := h
theorem nble {a b : Nat} : Nat.ble a b = decide (a ≤ b) := by
  rw [Bool.eq_iff_iff, Nat.ble_eq, decide_eq_true_eq]
theorem lk_nil {t : Nat} : look [] t = .u := rfl
theorem lk_cons {t' t : Nat} {v : AV} {r : Asc} : look ((t', v) :: r) t = oK (t' == t) v (look r t) := by
  simp only [look, oK_ite]; congr 1
theorem nbq {a b : Nat} : Nat.beq a b = (a == b) := by
  rw [Bool.eq_iff_iff, Nat.beq_eq, beq_iff_eq]
theorem nbF {a b : Nat} : (Nat.beq a b = false) = ¬ a = b := by
  rw [← Bool.not_eq_true, Nat.beq_eq]
theorem lk0 {t : Nat} {v : AV} {r : Asc} : look ((t, v) :: r) t = v := by simp [look]
theorem lk1 {a0 : Nat} {x0 : AV} {t : Nat} {v : AV} {r : Asc} (h : (Nat.beq a0 t) = false) : look ((a0, x0) :: (t, v) :: r) t = v := by
  simp only [Bool.or_eq_false_iff, nbF] at h
  simp [look, h]
theorem lk2 {a0 a1 : Nat} {x0 x1 : AV} {t : Nat} {v : AV} {r : Asc} (h : (Nat.beq a0 t || Nat.beq a1 t) = false) : look ((a0, x0) :: (a1, x1) :: (t, v) :: r) t = v := by
  simp only [Bool.or_eq_false_iff, nbF] at h
  simp [look, h]
theorem lk3 {a0 a1 a2 : Nat} {x0 x1 x2 : AV} {t : Nat} {v : AV} {r : Asc} (h : (Nat.beq a0 t || Nat.beq a1 t || Nat.beq a2 t) = false) : look ((a0, x0) :: (a1, x1) :: (a2, x2) :: (t, v) :: r) t = v := by
  simp only [Bool.or_eq_false_iff, nbF] at h
  simp [look, h]
theorem lk4 {a0 a1 a2 a3 : Nat} {x0 x1 x2 x3 : AV} {t : Nat} {v : AV} {r : Asc} (h : (Nat.beq a0 t || Nat.beq a1 t || Nat.beq a2 t || Nat.beq a3 t) = false) : look ((a0, x0) :: (a1, x1) :: (a2, x2) :: (a3, x3) :: (t, v) :: r) t = v := by
  simp only [Bool.or_eq_false_iff, nbF] at h
  simp [look, h]
theorem lk5 {a0 a1 a2 a3 a4 : Nat} {x0 x1 x2 x3 x4 : AV} {t : Nat} {v : AV} {r : Asc} (h : (Nat.beq a0 t || Nat.beq a1 t || Nat.beq a2 t || Nat.beq a3 t || Nat.beq a4 t) = false) : look ((a0, x0) :: (a1, x1) :: (a2, x2) :: (a3, x3) :: (a4, x4) :: (t, v) :: r) t = v := by
  simp only [Bool.or_eq_false_iff, nbF] at h
  simp [look, h]
theorem lk6 {a0 a1 a2 a3 a4 a5 : Nat} {x0 x1 x2 x3 x4 x5 : AV} {t : Nat} {v : AV} {r : Asc} (h : (Nat.beq a0 t || Nat.beq a1 t || Nat.beq a2 t || Nat.beq a3 t || Nat.beq a4 t || Nat.beq a5 t) = false) : look ((a0, x0) :: (a1, x1) :: (a2, x2) :: (a3, x3) :: (a4, x4) :: (a5, x5) :: (t, v) :: r) t = v := by
  simp only [Bool.or_eq_false_iff, nbF] at h
  simp [look, h]
theorem lk7 {a0 a1 a2 a3 a4 a5 a6 : Nat} {x0 x1 x2 x3 x4 x5 x6 : AV} {t : Nat} {v : AV} {r : Asc} (h : (Nat.beq a0 t || Nat.beq a1 t || Nat.beq a2 t || Nat.beq a3 t || Nat.beq a4 t || Nat.beq a5 t || Nat.beq a6 t) = false) : look ((a0, x0) :: (a1, x1) :: (a2, x2) :: (a3, x3) :: (a4, x4) :: (a5, x5) :: (a6, x6) :: (t, v) :: r) t = v := by
  simp only [Bool.or_eq_false_iff, nbF] at h
  simp [look, h]
theorem lkS {a0 a1 a2 a3 a4 a5 a6 a7 : Nat} {x0 x1 x2 x3 x4 x5 x6 x7 : AV} {t : Nat} {r : Asc} (h : (Nat.beq a0 t || Nat.beq a1 t || Nat.beq a2 t || Nat.beq a3 t || Nat.beq a4 t || Nat.beq a5 t || Nat.beq a6 t || Nat.beq a7 t) = false) : look ((a0, x0) :: (a1, x1) :: (a2, x2) :: (a3, x3) :: (a4, x4) :: (a5, x5) :: (a6, x6) :: (a7, x7) :: r) t = look r t := by
  simp only [Bool.or_eq_false_iff, nbF] at h
  simp [look, h]
theorem in_c {t : Nat} {v : AV} {l : Asc} : ins t v l = (t, v) :: l := rfl
def ckp (k : Nat) (v : AV) (r : Asc) : Asc := match v with
  | .u => r
  | v => (k, v) :: r
@[congr] theorem ckp_congr {k : Nat} {v v' : AV} {r : Asc} (h : v = v') : ckp k v r = ckp k v' r := by rw [h]
theorem kp_nil {l : Asc} : keepS [] l = [] := rfl
theorem kp_cons {k : Nat} {ks : List Nat} {l : Asc} : keepS (k :: ks) l = ckp k (look l k) (keepS ks l) := rfl
section
variable {k : Nat} {r : Asc}
theorem ck_w {c : OV} : ckp k (.w c) r = (k, .w c) :: r := rfl
theorem ck_t {c : List (Bool × List OV)} : ckp k (.t c) r = (k, .t c) :: r := rfl
theorem ck_box {c : List OV} : ckp k (.box c) r = (k, .box c) :: r := rfl
theorem ck_ptr {c : Pl} : ckp k (.ptr c) r = (k, .ptr c) :: r := rfl
theorem ck_clo {f : Nat} {c : List AV} : ckp k (.clo f c) r = (k, .clo f c) :: r := rfl
theorem ck_it {s : List UInt8} {p : Nat} : ckp k (.it s p) r = (k, .it s p) :: r := rfl
end
def memK (t : Nat) : List Nat → Bool
  | [] => false
  | k :: ks => oK (Nat.beq k t) true (memK t ks)
theorem mk_nil {t : Nat} : memK t [] = false := rfl
theorem mk_cons {t k : Nat} {ks : List Nat} : memK t (k :: ks) = oK (k == t) true (memK t ks) := by rw [memK, nbq]
theorem memK_eq (t : Nat) : ∀ ks, memK t ks = ks.contains t
  | [] => rfl
  | k :: ks => by
    simp only [memK, memK_eq t ks, List.contains_cons, oK, nbq]
    by_cases h : k = t
    · subst h; simp
    · have h' : ¬ t = k := fun e => h e.symm
      have e1 : (k == t) = false := by simpa using h
      have e2 : (t == k) = false := by simpa using h'
      rw [e1, e2]; simp
def kx (n : Nat) (l : List (Nat × List Nat)) : Kills := (List.range n).map fun d => (l.lookup d).getD []
def lkx : List (Nat × List Nat) → Nat → List Nat
  | [], _ => []
  | (k, x) :: l, d => oK (Nat.beq k d) x (lkx l d)
theorem lkx_nil {d : Nat} : lkx [] d = [] := rfl
theorem lkx_cons {d k : Nat} {x : List Nat} {l : List (Nat × List Nat)} : lkx ((k, x) :: l) d = oK (k == d) x (lkx l d) := by rw [lkx, nbq]
theorem lkx_eq (d : Nat) : ∀ l, lkx l d = (l.lookup d).getD []
  | [] => rfl
  | (k, x) :: l => by
    simp only [lkx, List.lookup, oK, lkx_eq d l, nbq]
    by_cases h : k = d
    · subst h; simp
    · have h' : ¬ d = k := fun e => h e.symm
      have e1 : (k == d) = false := by simpa using h
      have e2 : (d == k) = false := by simpa using h'
      simp [e1, e2]
theorem kx_get {n d : Nat} {l : List (Nat × List Nat)} : (kx n l).getD d [] = oK (n - d == 0) [] (lkx l d) := by
  unfold kx oK
  rw [lkx_eq, List.getD_eq_getElem?_getD, List.getElem?_map]
  by_cases h : d < n
  · rw [List.getElem?_range h]
    have e : ¬ n - d = 0 := by omega
    have e2 : (n - d == 0) = false := by simpa using e
    rw [e2]; rfl
  · have e : n - d = 0 := by omega
    rw [List.getElem?_eq_none (by simpa using h), e]; rfl
def kG (c : AV → Bool) (ts : List Nat) (l : Asc) : Asc := killF c ts l
@[congr] theorem kG_congr {c : AV → Bool} {ts ts' : List Nat} {l : Asc} (h : ts = ts') : kG c ts l = kG c ts' l := by rw [h]
theorem kG_nil {c : AV → Bool} : ∀ {l : Asc}, kG c [] l = l
  | [] => rfl
  | (t, v) :: r => by
    have := kG_nil (c := c) (l := r)
    unfold kG at this ⊢
    simp only [killF, this]; simp
theorem kG_none {c : AV → Bool} {ts : List Nat} : ∀ {l : Asc}, (l.all fun p => !c p.2) = true → kG c ts l = l
  | [], _ => rfl
  | (t, v) :: r, h => by
    simp only [List.all_cons, Bool.and_eq_true, Bool.not_eq_true'] at h
    have := kG_none (c := c) (ts := ts) h.2
    unfold kG at this ⊢
    simp only [killF, this, h.1]; simp
def kH (c : AV → Bool) (ts : List Nat) (l : Asc) : Asc := killF c ts l
@[congr] theorem kH_congr {c : AV → Bool} {ts : List Nat} {l l' : Asc} (h : l = l') : kH c ts l = kH c ts l' := by rw [h]
theorem kG_cons {c : AV → Bool} {k : Nat} {ts : List Nat} {l : Asc} : kG c (k :: ts) l = kH c (k :: ts) l := rfl
theorem kH_nil {c : AV → Bool} {ts : List Nat} : kH c ts [] = [] := rfl
theorem kH_cons {c : AV → Bool} {ts : List Nat} {t : Nat} {v : AV} {r : Asc} : kH c ts ((t, v) :: r) = (t, oK (c v) (oK (memK t ts) .u v) v) :: kH c ts r := by
  unfold kH
  simp only [killF, memK_eq, oK]
  cases c v <;> cases ts.contains t <;> rfl
section
variable {n : Nat} {l : Asc} {L : Lg} {K : Kills} {d : Nat} {v : AV} {c : AV → Bool} {ts : List Nat} {α : Type} {k : Pg α}
theorem nb (a b : Nat) : (b - a == 0) = !decide (a < b) := by
  by_cases h : a < b
  · have e : ¬ b - a = 0 := by omega
    have e2 : (b - a == 0) = false := by simpa using e
    rw [e2]; simp [h]
  · have e : b - a = 0 := by omega
    rw [e]; simp [h]
theorem fS_killIf : (killIf c ts).runS n l = some ((), kG c ts l) := rfl
theorem fS_killMem : (killMem K d).runS n l = some ((), kG (AV.onMem d) (K.getD d []) l) := rfl
theorem fS_wr : (wr K d v).runS n l = oK (n - d == 0) none (some ((), ins d v (kG (AV.on d) (K.getD d []) l))) := by
  rw [xS_wr, nb]; unfold oK oif kG; cases decide (d < n) <;> rfl
theorem fS_put : (Pg.put d v k).runS n l = oK (n - d == 0) none (k.runS n (ins d v l)) := by
  rw [xS_put, nb]; unfold oK oif; cases decide (d < n) <;> rfl
theorem kx_emp {m d : Nat} {ls : List (Nat × List Nat)} (h : (lkx ls d).isEmpty = true) : (kx m ls).getD d [] = [] := by
  rw [kx_get, List.isEmpty_iff.1 h]; unfold oK; cases (m - d == 0) <;> rfl
theorem gX_wr {m : Nat} {ls : List (Nat × List Nat)} (h : (Nat.blt d n && (lkx ls d).isEmpty) = true) : (wr (kx m ls) d v).runS n l = some ((), (d, v) :: l) := by
  simp only [Bool.and_eq_true, Nat.blt_eq] at h
  rw [fS_wr, nb, kx_emp h.2, kG_nil]; simp [h.1, oK, ins]
theorem onOkx {m a d : Nat} {ls : List (Nat × List Nat)} (h : (Nat.blt a m && memK d (lkx ls a) && !Nat.beq d a) = true) : onOk (kx m ls) a d = true := by
  simp only [Bool.and_eq_true, Bool.not_eq_true', nbF, Nat.blt_eq] at h
  have e : (m - a == 0) = false := by
    rw [nb]; simp [h.1.1]
  unfold onOk
  rw [kx_get, e, oK_f, ← memK_eq, h.1.2]; simp [h.2]
theorem gX_outOn {m a : Nat} {ls : List (Nat × List Nat)} (h : (Nat.blt a m && memK d (lkx ls a) && !Nat.beq d a) = true) : (outOn (kx m ls) (some d) a v).runS n l = (wr (kx m ls) d v).runS n l := xS_outOn_some _ _ _ _ (onOkx h)
theorem gXL_outOn {m a : Nat} {ls : List (Nat × List Nat)} (h : (Nat.blt a m && memK d (lkx ls a) && !Nat.beq d a) = true) : (outOn (kx m ls) (some d) a v).runL n l L = (wr (kx m ls) d v).runL n l L := xL_outOn_some _ _ _ _ (onOkx h)
theorem gS_put (h : Nat.blt d n = true) : (Pg.put d v k).runS n l = k.runS n ((d, v) :: l) := by
  rw [fS_put, nb]; simp [show d < n by simpa using h, oK, ins]
theorem fL_killIf : (killIf c ts).runL n l L = some ((), kG c ts l, L.ki c ts) := rfl
theorem fL_killMem : (killMem K d).runL n l L = some ((), kG (AV.onMem d) (K.getD d []) l, L.ki (AV.onMem d) (K.getD d [])) := rfl
theorem fL_wr : (wr K d v).runL n l L = oK (n - d == 0) none (some ((), ins d v (kG (AV.on d) (K.getD d []) l), (L.ki (AV.on d) (K.getD d [])).wt d v)) := by
  rw [xL_wr, nb]; unfold oK oif kG; cases decide (d < n) <;> rfl
theorem fL_put : (Pg.put d v k).runL n l L = oK (n - d == 0) none (k.runL n (ins d v l) (L.wt d v)) := by
  rw [xL_put, nb]; unfold oK oif; cases decide (d < n) <;> rfl
theorem gXL_wr {m : Nat} {ls : List (Nat × List Nat)} (h : (Nat.blt d n && (lkx ls d).isEmpty) = true) : (wr (kx m ls) d v).runL n l L = some ((), (d, v) :: l, (L.ki (AV.on d) []).wt d v) := by
  simp only [Bool.and_eq_true, Nat.blt_eq] at h
  rw [fL_wr, nb, kx_emp h.2, kG_nil]; simp [h.1, oK, ins]
theorem gL_put (h : Nat.blt d n = true) : (Pg.put d v k).runL n l L = k.runL n ((d, v) :: l) (L.wt d v) := by
  rw [fL_put, nb]; simp [show d < n by simpa using h, oK, ins]
end
theorem tfp_n : toFps [] = some [] := rfl
theorem tfp_c {c : PV} {r : List AV} : toFps (.w (.p c) :: r) = obind (toFps r) fun l => some (.fp [c] :: l) := by
  simp only [toFps, obind]; cases toFps r <;> rfl
theorem kgs_nil {l : Asc} : keepGS [] l = [] := rfl
theorem kgs_cons {k : Nat} {G : List Nat} {l : Asc} : keepGS (k :: G) l = oK (simpleAV (look l k)) ((k, look l k) :: keepGS G l) (keepGS G l) := by
  simp only [keepGS, oK]; cases simpleAV (look l k) <;> rfl
theorem pps_nil {xs : List AV} {l : Asc} : putPsS [] xs l = l := by cases xs <;> rfl
theorem pps_cons {p : Nat} {ps : List Nat} {x : AV} {xs : List AV} {l : Asc} : putPsS (p :: ps) (x :: xs) l = putPsS ps xs ((p, x) :: l) := rfl
theorem sav_w {c : OV} : simpleAV (.w c) = true := rfl
theorem sav_box {c : List OV} : simpleAV (.box c) = true := rfl
theorem rowsUp_get {α : Type} (f : α → List PV) : ∀ (l : List α) (i : Nat), ∃ rows, rowsUp true i (l.map f) = some rows ∧ rows.length = l.length ∧ ∀ (k : Nat) (row : List AV), rows[k]? = some row → ∃ t, l[k]? = some t ∧ row = [.w (.p (.int .i64 ((i + k : Nat) : Int))), .a ((f t).map OV.p)]
  | [], i => ⟨[], rfl, rfl, fun k row h => by simp at h⟩
  | x :: l, i => by
    obtain ⟨rows, h1, h2, h3⟩ := rowsUp_get f l (i + 1)
    refine ⟨[.w (.p (.int .i64 i)), .a ((f x).map OV.p)] :: rows, by simp [rowsUp, elAV, h1], by simp [h2], fun k row h => ?_⟩
    cases k with
    | zero => simp at h; subst h; exact ⟨x, rfl, rfl⟩
    | succ k =>
      obtain ⟨t, a, b⟩ := h3 k row (by simpa using h)
      exact ⟨t, by simpa using a, by rw [b, show i + 1 + k = i + (k + 1) by omega]⟩
theorem rows_bwd {α : Type} (f : α → List PV) (z : Nat) (l : List α) (h : l.length ≤ 1000000) : ∃ rows, rowsOf (.bwd true) z [[.sl z (l.map f)]] = some rows ∧ rows.length = l.length ∧
    ∀ (k : Nat) (row : List AV), rows[k]? = some row → ∃ t, k < l.length ∧ l[l.length - 1 - k]? = some t ∧ row = [.w (.p (.int .i64 ((l.length - 1 - k : Nat) : Int))), .a ((f t).map OV.p)] := by
  obtain ⟨rows, h1, h2, h3⟩ := rowsUp_get f l 0
  refine ⟨rows.reverse, ?_, by simp [h2], fun k row hr => ?_⟩
  · have e : few (List.map f l).length = true := by unfold few; rw [List.length_map]; simpa [Nat.blt_eq] using (by omega : l.length < 4611686018427387904)
    show (if z = z ∧ few (List.map f l).length = true then (rowsUp true 0 (List.map f l)).map List.reverse else none) = _
    rw [if_pos ⟨rfl, e⟩, h1]; rfl
  · have hk : k < rows.reverse.length := (List.getElem?_eq_some_iff.1 hr).1
    rw [List.length_reverse] at hk
    rw [List.getElem?_reverse hk] at hr
    obtain ⟨t, a, b⟩ := h3 _ _ hr
    rw [h2] at a b hk
    exact ⟨t, hk, a, by rw [b, Nat.zero_add]⟩
end Go.Pv
end
