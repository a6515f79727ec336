/- Own words of these sessions: a small interpreter over plain values, and the proof that the model computes what it answers. -/
import GoSem.Claims
import Derived.Calls
import Derived.Below
import Derived.Laws.StructEq
import Derived.Laws.Slices
import Derived.Laws.Cells
import Derived.Laws.Append
import Derived.Laws.MakeOwn
import Derived.Laws.BytesString
import Derived.Lib.ConvBytes
set_option linter.all false
section
namespace Go.Pv
inductive PV where
  | bool (b : Bool)
  | int (k : IntKind) (n : Int)
  | str (s : List UInt8)
  | sl (z : Nat) (els : List (List PV))
  deriving Inhabited, Repr
inductive OV where
  | p (v : PV)
  | own (z : Nat) (els : List (List OV))
  | hole
  deriving Inhabited, Repr
inductive Pl where
  | r (d : Nat)
  | b (d off : Nat)
  | e (d : Nat) (c : Option Nat) (z i off : Nat)
  deriving Inhabited, Repr, DecidableEq
inductive AV where
  | u
  | w (c : OV)
  | a (cs : List OV)
  | t (vs : List (Bool × List OV))
  | box (cs : List OV)
  | ptr (pl : Pl)
  | fp (cs : List PV)
  | al (pl : Pl) (n : Nat) (ag : Bool)
  | sv (pl : Pl) (z lo hi : Nat)
  | clo (f : Nat) (caps : List AV)
  | mp (kvs : List (PV × PV))
  | it (s : List UInt8) (pos : Nat)
  | ln (n : Nat)
  deriving Inhabited
def AV.isU : AV → Bool
  | .u => true
  | _ => false
def AV.rowLen : AV → Option (Bool × Nat)
  | .w (.own _ els) => some (false, els.length)
  | .w (.p (.sl _ els)) => some (false, els.length)
  | .ln n => some (false, n)
  | .t vs => some (true, vs.length)
  | _ => none
def sameRow (v x : AV) : Bool := match v.rowLen, x.rowLen with
  | some a, some b => a == b
  | _, _ => false
theorem sameRow_iff {v x : AV} (h : sameRow v x = true) : v.rowLen = x.rowLen ∧ x.rowLen.isSome = true := by
  unfold sameRow at h
  split at h
  · rename_i a b h1 h2
    rw [h1, h2]
    exact ⟨congrArg some (by simpa using h), rfl⟩
  · simp at h
theorem sameRow_own (z z' : Nat) (a b : List (List OV)) : sameRow (.w (.own z a)) (.w (.own z' b)) = (a.length == b.length) := rfl
theorem sameRow_t (a b : List (Bool × List OV)) : sameRow (.t a) (.t b) = (a.length == b.length) := rfl
inductive Pg (α : Type) where
  | ret (x : α)
  | fail
  | get (t : Nat) (k : AV → Pg α)
  | put (t : Nat) (v : AV) (k : Pg α)
  | kill (c : AV → Bool) (ts : List Nat) (k : Pg α)
  | getl (t : Nat) (k : Option (Bool × Nat) → Pg α)
  | pute (t : Nat) (v : AV) (k : Pg α)
structure Lg where
  R : List (Nat × AV)
  W : List (Nat × AV)
  Kl : List ((AV → Bool) × List Nat)
  RL : List (Nat × Option (Bool × Nat))
  FW : List Nat
  deriving Inhabited
def Lg.emp : Lg := ⟨[], [], [], [], []⟩
def hasKey (t : Nat) : List (Nat × AV) → Bool
  | [] => false
  | p :: l => p.1 == t || hasKey t l
def Lg.rd (L : Lg) (t : Nat) (v : AV) : Lg := if hasKey t L.W then L else ⟨(t, v) :: L.R, L.W, L.Kl, L.RL, L.FW⟩
def Lg.wt (L : Lg) (t : Nat) (v : AV) : Lg := ⟨L.R, (t, v) :: L.W, L.Kl, L.RL, t :: L.FW⟩
def Lg.we (L : Lg) (t : Nat) (v : AV) : Lg := ⟨L.R, (t, v) :: L.W, L.Kl, L.RL, L.FW⟩
def Lg.touch (L : Lg) (t : Nat) : Bool := L.Kl.any fun k => k.2.contains t
def Lg.full (L : Lg) (t : Nat) : Bool := L.FW.contains t || L.touch t
def Lg.rl (L : Lg) (t : Nat) (v : AV) : Lg := if L.touch t then L.rd t v else if hasKey t L.W then L else ⟨L.R, L.W, L.Kl, (t, v.rowLen) :: L.RL, L.FW⟩
def Lg.ki (L : Lg) (c : AV → Bool) (ts : List Nat) : Lg := ⟨L.R, L.W.map fun p => (p.1, if ts.contains p.1 && c p.2 then .u else p.2), (c, ts) :: L.Kl, L.RL, L.FW⟩
def killL (c : AV → Bool) (ts : List Nat) (σ : List AV) : List AV := σ.mapIdx fun t v => if ts.contains t && c v then .u else v
namespace Pg
def bind {α β : Type} : Pg α → (α → Pg β) → Pg β
  | .ret x, f => f x
  | .fail, _ => .fail
  | .get t k, f => .get t fun v => (k v).bind f
  | .put t v k, f => .put t v (k.bind f)
  | .kill c ts k, f => .kill c ts (k.bind f)
  | .getl t k, f => .getl t fun n => (k n).bind f
  | .pute t v k, f => .pute t v (k.bind f)
instance : Monad Pg where
  pure := .ret
  bind := bind
def run {α : Type} : Pg α → List AV → Option (α × List AV)
  | .ret x, σ => some (x, σ)
  | .fail, _ => none
  | .get t k, σ => (k (σ.getD t .u)).run σ
  | .put t v k, σ => k.run (σ.set t v)
  | .kill c ts k, σ => k.run (killL c ts σ)
  | .getl t k, σ => (k (σ.getD t .u).rowLen).run σ
  | .pute t v k, σ => if sameRow v (σ.getD t .u) then k.run (σ.set t v) else none
def log {α : Type} : Pg α → List AV → Lg → Lg
  | .ret _, _, L | .fail, _, L => L
  | .get t k, σ, L => (k (σ.getD t .u)).log σ (L.rd t (σ.getD t .u))
  | .put t v k, σ, L => k.log (σ.set t v) (if t < σ.length then L.wt t v else L)
  | .kill c ts k, σ, L => k.log (killL c ts σ) (L.ki c ts)
  | .getl t k, σ, L => (k (σ.getD t .u).rowLen).log σ (L.rl t (σ.getD t .u))
  | .pute t v k, σ, L => if sameRow v (σ.getD t .u) then k.log (σ.set t v) ((L.rl t (σ.getD t .u)).we t v) else L
def opt {α : Type} : Option α → Pg α
  | some x => .ret x
  | none => .fail
def guard (c : Bool) : Pg Unit := if c then .ret () else .fail
end Pg
mutual
def OV.frz : OV → PV
  | .p v => v
  | .own z els => .sl z (OV.frzss els)
  | .hole => .sl 0 []
def OV.frzs : List OV → List PV
  | [] => []
  | c :: cs => c.frz :: OV.frzs cs
def OV.frzss : List (List OV) → List (List PV)
  | [] => []
  | e :: es => OV.frzs e :: OV.frzss es
end
def OV.plain : OV → Bool
  | .p _ => true
  | _ => false
mutual
def OV.whole : OV → Bool
  | .p _ => true
  | .own _ els => OV.wholess els
  | .hole => false
def OV.wholes : List OV → Bool
  | [] => true
  | c :: cs => c.whole && OV.wholes cs
def OV.wholess : List (List OV) → Bool
  | [] => true
  | e :: es => OV.wholes e && OV.wholess es
end
def plains (els : List (List PV)) : List (List OV) := els.map (·.map .p)
def Pl.holder : Pl → Nat
  | .r d | .b d _ | .e d _ _ _ _ => d
abbrev Kills := List (List Nat)
def AV.on (d : Nat) : AV → Bool
  | .ptr pl | .al pl _ _ | .sv pl _ _ _ => pl.holder == d
  | .clo _ caps => caps.any fun | .ptr pl => pl.holder == d | _ => false
  | _ => false
def AV.onMem (d : Nat) : AV → Bool
  | .al (.r _) _ _ | .sv (.r _) _ _ _ => false
  | .al pl _ _ | .sv pl _ _ _ => pl.holder == d
  | .ptr (.e d' (some _) _ _ _) => d' == d
  | _ => false
def Pl.isEl (d : Nat) : Pl → Bool
  | .e d' (some _) _ _ _ => d' == d
  | _ => false
def AV.onEl (d : Nat) : AV → Bool
  | .ptr pl | .al pl _ _ | .sv pl _ _ _ => pl.isEl d
  | _ => false
section
variable (K : Kills)
def killIf (c : AV → Bool) (ts : List Nat) : Pg Unit := .kill c ts (.ret ())
def wr (d : Nat) (v : AV) : Pg Unit := (killIf (AV.on d) (K.getD d [])).bind fun _ => .put d v (.ret ())
def killMem (d : Nat) : Pg Unit := killIf (AV.onMem d) (K.getD d [])
def cellsAt (cs : List OV) (off n : Nat) : Option (List OV) := if off + n ≤ cs.length then some ((cs.drop off).take n) else none
def cellsPut (cs : List OV) (off : Nat) (new : List OV) : Option (List OV) :=
  if off + new.length ≤ cs.length then some (cs.take off ++ new ++ cs.drop (off + new.length)) else none
def AV.cells : AV → Option (Bool × List OV)
  | .w c => some (false, [c])
  | .a cs => some (true, cs)
  | _ => none
def AV.mk (ag : Bool) (cs : List OV) : Option AV := if ag then some (.a cs) else match cs with | [c] => some (.w c) | _ => none
def slot : AV → Option Nat → Option OV
  | .w c, none => some c
  | .box cs, some k => cs[k]?
  | _, _ => none
def getIn (v : AV) : Pl → Nat → Option (List OV)
  | .r _, n => match v.cells with | some (_, cs) => if cs.length = n then some cs else none | none => none
  | .b _ off, n => match v with | .box cs => cellsAt cs off n | _ => none
  | .e _ c z i off, n => match slot v c with | some (.own z' els) => if z' = z then (els[i]?).bind fun e => cellsAt e off n else none | _ => none
def putIn (v : AV) : Pl → List OV → Option AV
  | .r _, cs => match v with | .w _ => (match cs with | [c] => some (.w c) | _ => none) | .a old => if old.length = cs.length then some (.a cs) else none | _ => none
  | .b _ off, cs => match v with | .box old => (cellsPut old off cs).map .box | _ => none
  | .e _ c z i off, cs =>
    match slot v c with
    | some (.own z' els) =>
      if z' = z then
        match els[i]? with
        | some e => (cellsPut e off cs).bind fun e' => (match v, c with | .w _, none => some (.w (.own z (els.set i e'))) | .box old, some k => some (.box (old.set k (.own z (els.set i e')))) | _, _ => none)
        | none => none
      else none
    | _ => none
inductive Od where
  | t (i : Nat)
  | c (v : AV)
  deriving Inhabited
inductive Src where
  | no
  | at_ (pl : Pl)
  | sub (pl : Pl) (lo : Nat)
  deriving Inhabited, Repr
structure Val where
  ag : Bool
  cs : List OV
  src : Src
  deriving Inhabited, Repr
def getPl (pl : Pl) (n : Nat) : Pg (List OV) := .get pl.holder fun v => .opt (getIn v pl n)
def putR (pl : Pl) (v : AV) : Pg Unit := match pl with
  | .e d none _ _ _ => .pute d v (.ret ())
  | pl => .put pl.holder v (.ret ())
def putPl (pl : Pl) (cs : List OV) : Pg Unit := .get pl.holder fun v => (Pg.opt (putIn v pl cs)).bind fun v' => putR pl v'
def subOf (z lo hi : Nat) : List OV → Option (List OV)
  | [.own z' els] => if z' = z ∧ lo ≤ hi ∧ hi ≤ els.length then some [.own z ((els.take hi).drop lo)] else none
  | _ => none
def valOf (x : Nat) : AV → Pg Val
  | .w c => .ret ⟨false, [c], .at_ (.r x)⟩
  | .a cs => .ret ⟨true, cs, .at_ (.r x)⟩
  | .al (.r d) _ ag => .get d fun v => match v.cells with | some (ag', cs) => if ag' = ag then .ret ⟨ag, cs, .at_ (.r d)⟩ else .fail | none => .fail
  | .al pl n ag => (getPl pl n).bind fun cs => .ret ⟨ag, cs, .at_ pl⟩
  | .sv (.r d) z lo hi => .get d fun v => match v with | .w c => (Pg.opt (subOf z lo hi [c])).bind fun cs' => .ret ⟨false, cs', .sub (.r d) lo⟩ | _ => .fail
  | .sv pl z lo hi => (getPl pl 1).bind fun cs => (Pg.opt (subOf z lo hi cs)).bind fun cs' => .ret ⟨false, cs', .sub pl lo⟩
  | _ => .fail
def val : Od → Pg Val
  | .c v => match v.cells with | some (ag, cs) => .ret ⟨ag, cs, .no⟩ | none => .fail
  | .t i => .get i (valOf i)
def plainAll (cs : List OV) : Bool := cs.all OV.plain
def clEls (z bytes : Nat) : List OV → Option (List (List OV))
  | [.own z' els] => if z' = z ∧ els.all plainAll = true ∧ els.length ≤ 140737488351232 ∧ els.length * bytes ≤ 140737488351232 then some els else none
  | [.p (.sl z' els)] => if z' = z ∧ els.length ≤ 140737488351232 ∧ els.length * bytes ≤ 140737488351232 then some (plains els) else none
  | _ => none
def copy (v : Val) : Pg (List PV) :=
  if plainAll v.cs then .ret (OV.frzs v.cs)
  else if OV.wholes v.cs then
    match v.src with
    | .no => .ret (OV.frzs v.cs)
    | .at_ pl => (putPl pl (v.cs.map fun c => .p c.frz)).bind fun _ => .ret (OV.frzs v.cs)
    | .sub pl _ => (getPl pl 1).bind fun cs => (Pg.guard (OV.wholes cs)).bind fun _ => (putPl pl (cs.map fun c => .p c.frz)).bind fun _ => .ret (OV.frzs v.cs)
  else .fail
def take (v : Val) : Pg (List OV) :=
  if plainAll v.cs then .ret v.cs
  else match v.src with
    | .no => .ret v.cs
    | .at_ (.r d) => (wr K d .u).bind fun _ => .ret v.cs
    | .at_ pl => (putPl pl (v.cs.map fun _ => .hole)).bind fun _ => (killIf (AV.onEl pl.holder) (K.getD pl.holder [])).bind fun _ => .ret v.cs
    | .sub (.r d) _ => (wr K d .u).bind fun _ => .ret v.cs
    | .sub pl _ => (putPl pl [.hole]).bind fun _ => (killIf (AV.onEl pl.holder) (K.getD pl.holder [])).bind fun _ => .ret v.cs
end
def binInt (op : BinOp) (k : IntKind) (a b : Int) : Option PV :=
  match op with
  | .add => some (.int k (k.wrap (a + b)))
  | .sub => some (.int k (k.wrap (a - b)))
  | .mul => some (.int k (k.wrap (a * b)))
  | .quo => if b = 0 then none else some (.int k (k.wrap (a.tdiv b)))
  | .rem => if b = 0 then none else some (.int k (a.tmod b))
  | .and => some (.int k (k.wrap (BitVec.ofInt k.bits a &&& BitVec.ofInt k.bits b).toNat))
  | .or => some (.int k (k.wrap (BitVec.ofInt k.bits a ||| BitVec.ofInt k.bits b).toNat))
  | .xor => some (.int k (k.wrap (BitVec.ofInt k.bits a ^^^ BitVec.ofInt k.bits b).toNat))
  | .andNot => some (.int k (k.wrap (BitVec.ofInt k.bits a &&& ~~~(BitVec.ofInt k.bits b)).toNat))
  | .eql => some (.bool (a == b))
  | .neq => some (.bool (a != b))
  | .lss => some (.bool (decide (a < b)))
  | .leq => some (.bool (decide (a ≤ b)))
  | .gtr => some (.bool (decide (a > b)))
  | .geq => some (.bool (decide (a ≥ b)))
  | _ => none
def shiftInt (op : BinOp) (k : IntKind) (a b : Int) : Option PV :=
  if b < 0 then none else
  match op with
  | .shl => some (.int k (k.wrap (a * 2 ^ (min b.toNat k.bits))))
  | .shr => some (.int k (a.fdiv (2 ^ (min b.toNat k.bits))))
  | _ => none
def binStr (op : BinOp) (a b : List UInt8) : Option PV :=
  match op with
  | .add => if a.length + b.length ≤ 140737488351232 then some (.str (a ++ b)) else none
  | .eql => some (.bool (a == b))
  | .neq => some (.bool !(a == b))
  | .lss => some (.bool (Op.bytesLess a b))
  | .leq => some (.bool (Op.bytesLess a b || a == b))
  | .gtr => some (.bool !(Op.bytesLess a b || a == b))
  | .geq => some (.bool !(Op.bytesLess a b))
  | _ => none
def isShift : BinOp → Bool
  | .shl | .shr => true
  | _ => false
inductive CK where | b | i | s
  deriving DecidableEq
def cellsEq : List CK → List PV → List PV → Option Bool
  | [], [], [] => some true
  | .i :: ks, .int k a :: xs, .int k' b :: ys => if k = k' then (cellsEq ks xs ys).map ((a == b) && ·) else none
  | .b :: ks, .bool a :: xs, .bool b :: ys => (cellsEq ks xs ys).map ((a == b) && ·)
  | .s :: ks, .str a :: xs, .str b :: ys => (cellsEq ks xs ys).map ((a == b) && ·)
  | _, _, _ => none
def binPV (op : BinOp) : PV → PV → Option PV
  | .int k a, .int k' b => if isShift op then shiftInt op k a b else if k = k' then binInt op k a b else none
  | .str a, .str b => binStr op a b
  | _, _ => none
def unPV (op : UnOp) : PV → Option PV
  | .int k n => match op with
    | .neg => some (.int k (k.wrap (0 - n)))
    | .xor => some (.int k (k.wrap (BitVec.ofInt k.bits (if k.signed then -1 else k.max) ^^^ BitVec.ofInt k.bits n).toNat))
    | _ => none
  | .bool b => match op with | .not => some (.bool !b) | _ => none
  | _ => none
def bytesOf : List (List PV) → Option (List UInt8)
  | [] => some []
  | [.int .u8 n] :: es => (bytesOf es).map (UInt8.ofNat n.toNat :: ·)
  | _ => none
def ofBytes (s : List UInt8) : List (List PV) := s.map fun b => [.int .u8 b.toNat]
def AV.int? : AV → Option Int
  | .w (.p (.int _ n)) => some n
  | _ => none
inductive IOp where
  | mov (x : Od)
  | asg (x : Od)
  | frz (x : Od)
  | loadf (n : Nat) (ag : Bool) (x : Od)
  | pick (c a b : Od)
  | alloc (zero : List OV)
  | box (x : Od)
  | build (zero : List OV) (parts : List (Nat × Nat × Od))
  | bslice (z : Nat) (zero : List OV) (n : Nat) (parts : List (Nat × Od))
  | load (n : Nat) (ag : Bool) (x : Od)
  | store (n : Nat) (x v : Od) (keep : Bool)
  | nilchk (x : Od)
  | mkm
  | rng (x : Od)
  | nxt (x : Od)
  | mup (d : TypeDesc) (m k v : Od)
  | mlk (d : TypeDesc) (ok : Bool) (zero : PV) (m k : Od)
  | movk (x : Od)
  | movl (x : Od)
  | lenl (x : Od)
  | bin (op : BinOp) (x y : Od)
  | eqs (neg : Bool) (ks : List CK) (x y : Od)
  | beq (neg : Bool) (x y : Od)
  | un (op : UnOp) (x : Od)
  | cvi (k : IntKind) (x : Od)
  | b2s (x : Od)
  | s2b (x : Od)
  | i2s (x : Od)
  | sid (x : Od)
  | sls (x : Od) (lo hi : Option Od)
  | slc (z : Nat) (x : Od) (lo hi : Option Od)
  | fad (off : Nat) (x : Od)
  | fld (off n : Nat) (ag : Bool) (x : Od)
  | iad (z : Nat) (x i : Od)
  | ixs (x i : Od)
  | ext (x : Od) (i : Nat)
  | call (f : Nat) (args : List (Od × Bool))
  | callv (x : Od) (args : List (Od × Bool))
  | len (str : Bool) (x : Od)
  | app (z bytes : Nat) (x y : Od) (keep : Bool)
  | apps (x y : Od)
  | mks (z bytes : Nat) (zero : List OV) (n c : Od)
  | mm (max : Bool) (x y : Od)
  | mkf (f : Nat) (caps : List Od)
  | iter (gf : Nat) (args : List (Od × Bool))
  | cln (z bytes : Nat) (x : Od)
  | extu (x : Od) (i : Nat)
  | nop
  deriving Inhabited
structure IOper where
  dst : Option Nat
  op : IOp
  guard : Option (Nat × Bool)
  deriving Inhabited
inductive ItKind where
  | bwd (ag : Bool)
  | vals (ag : Bool)
  | chunk
  deriving Inhabited, DecidableEq, Repr
inductive IC where
  | skip
  | reg (ops : List IOper)
  | draw (befores : List (List Nat)) (ops : List IOper)
  | seq (a b : IC)
  | cond (c : Od) (a b : IC)
  | block (id : Nat) (a : IC)
  | loop (a : IC)
  | exit (id : Nat)
  | scope (a : IC)
  | label (l : Nat)
  | goto (l : Nat)
  | ret
  | range (x : Nat) (ps : List Nat) (keep : List Nat) (a b : IC)
  deriving Inhabited
inductive IRes where
  | tmp (t : Nat)
  | cell (t n : Nat) (ag : Bool)
  deriving Inhabited
structure IFn where
  np : Nat
  nt : Nat
  res : List IRes
  kills : Kills
  keeps : List Nat
  body : IC
  deriving Inhabited
abbrev CRes := List (Bool × List OV) × List (List OV)
section
variable (K : Kills) (callf : Nat → List AV → Option CRes)
def out (dst : Option Nat) (v : AV) : Pg Unit := match dst with | some d => wr K d v | none => .ret ()
def outOn (dst : Option Nat) (h : Nat) (v : AV) : Pg Unit :=
  match dst with
  | some d => if (K.getD h []).contains d && d != h then wr K d v else .fail
  | none => .ret ()
def sc (x : Od) : Pg PV := (val x).bind fun v => match v.ag, v.cs with | false, [.p c] => .ret c | _, _ => .fail
def scInt (x : Od) : Pg Int := (sc x).bind fun | .int _ n => .ret n | _ => .fail
def capsOn (d : Nat) : List AV → Bool
  | [] => true
  | .ptr (.b h 0) :: r => (K.getD h []).contains d && d != h && capsOn d r
  | .w c :: r => c.plain && capsOn d r
  | .a cs :: r => plainAll cs && capsOn d r
  | .fp _ :: r => capsOn d r
  | _ :: _ => false
def movPtr (dst : Option Nat) (i : Nat) (els : Pg Unit) : AV → Pg Unit
  | .box _ => outOn K dst i (.ptr (.b i 0))
  | .ptr pl => outOn K dst pl.holder (.ptr pl)
  | .fp cs => out K dst (.fp cs)
  | .clo f caps => match dst with | some d => if capsOn K d caps then wr K d (.clo f caps) else .fail | none => .ret ()
  | _ => els
def movVal (dst : Option Nat) (i : Nat) : AV → Pg Unit
  | .w c => if c.plain then out K dst (.w c) else outOn K dst i (.al (.r i) 1 false)
  | .a cs => if plainAll cs then out K dst (.a cs) else outOn K dst i (.al (.r i) cs.length true)
  | .al pl n ag => outOn K dst pl.holder (.al pl n ag)
  | .sv pl z lo hi => outOn K dst pl.holder (.sv pl z lo hi)
  | .t vs => (wr K i .u).bind fun _ => out K dst (.t vs)
  | .mp _ => outOn K dst i (.al (.r i) 1 false)
  | _ => .fail
def outVal (dst : Option Nat) (ag : Bool) (cs : List OV) : Pg Unit := (Pg.opt (AV.mk ag cs)).bind (out K dst)
def adr : Od → Pg (Pl ⊕ List PV)
  | .t i => .get i fun | .box _ => .ret (.inl (.b i 0)) | .ptr pl => .ret (.inl pl) | .fp cs => .ret (.inr cs) | _ => .fail
  | .c _ => .fail
def Pl.plus : Pl → Nat → Pl
  | .r d, _ => .r d
  | .b d off, n => .b d (off + n)
  | .e d c z i off, n => .e d c z i (off + n)
def buildP : List OV → List (Nat × Nat × Od) → Pg (List OV)
  | cs, [] => .ret cs
  | cs, (off, n, x) :: r => (val x).bind fun v => (Pg.guard (v.cs.length == n && OV.wholes v.cs)).bind fun _ => (take K v).bind fun new => (Pg.opt (cellsPut cs off new)).bind fun cs' => buildP cs' r
def bsliceP (z : Nat) : List (List OV) → List (Nat × Od) → Pg (List (List OV))
  | els, [] => .ret els
  | els, (i, x) :: r => (val x).bind fun v => (Pg.guard (v.cs.length == z && decide (i < els.length) && OV.wholes v.cs)).bind fun _ => (take K v).bind fun new => bsliceP z (els.set i new) r
def ends (len : Nat) (lo hi : Option Od) : Pg (Nat × Nat) :=
  (match lo with | some x => scInt x | none => .ret 0).bind fun l =>
  (match hi with | some x => scInt x | none => .ret (len : Int)).bind fun h =>
  if 0 ≤ l ∧ l ≤ h ∧ h ≤ (len : Int) then .ret (l.toNat, h.toNat) else .fail
def elsLen : List OV → Option Nat
  | [.p (.sl _ els)] => some els.length
  | [.own _ els] => some els.length
  | _ => none
def lend : AV → Bool
  | .box _ => true
  | _ => false
def argP : Od × Bool → Pg (AV × Option Nat)
  | (.c v, mv) => match v with | .w c => .ret (.w (if mv || !c.whole then c else .p c.frz), none) | .a cs => .ret (.a (if mv || !OV.wholes cs then cs else (OV.frzs cs).map .p), none) | .clo f caps => if caps.isEmpty then .ret (.clo f [], none) else .fail | _ => .fail
  | (.t i, mv) => .get i fun
    | .box cs => (killMem K i).bind fun _ => .put i .u (.ret (.box cs, some i))
    | .ptr (.b d 0) => .get d fun | .box cs => (killMem K d).bind fun _ => .put d .u (.ret (.box cs, some d)) | _ => .fail
    | .fp cs => .ret (.fp cs, none)
    | .clo f caps => if caps.all (fun | .w c => c.plain | .a cs => plainAll cs | _ => false) then .ret (.clo f caps, none) else .fail
    | a => (valOf i a).bind fun v => if mv then (take K v).bind fun cs => (Pg.opt (AV.mk v.ag cs)).bind fun x => .ret (x, none)
      else (copy v).bind fun cs => (Pg.opt (AV.mk v.ag (cs.map .p))).bind fun x => .ret (x, none)
def argsP : List (Od × Bool) → Pg (List AV × List Nat)
  | [] => .ret ([], [])
  | x :: xs => (argP K x).bind fun (a, l) => (argsP xs).bind fun (as, ls) => .ret (a :: as, l.toList ++ ls)
def capsP : List AV → Pg (List AV × List Nat)
  | [] => .ret ([], [])
  | .ptr (.b d 0) :: r => .get d fun | .box cs => (killMem K d).bind fun _ => .put d .u ((capsP r).bind fun (as, ls) => .ret (.box cs :: as, d :: ls)) | _ => .fail
  | .w c :: r => if c.plain then (capsP r).bind fun (as, ls) => .ret (.w c :: as, ls) else .fail
  | .a cs :: r => if plainAll cs then (capsP r).bind fun (as, ls) => .ret (.a cs :: as, ls) else .fail
  | _ :: _ => .fail
def giveBack : List Nat → List (List OV) → Pg Unit
  | [], [] => .ret ()
  | d :: ds, cs :: css => .put d (.box cs) ((killMem K d).bind fun _ => giveBack ds css)
  | _, _ => .fail
def outRes (dst : Option Nat) : List (Bool × List OV) → Pg Unit
  | [(ag, cs)] => outVal K dst ag cs
  | vs => out K dst (.t vs)
def callP (dst : Option Nat) (f : Nat) (as : List AV) (ls : List Nat) : Pg Unit :=
  (Pg.opt (callf f as)).bind fun (rs, bs) => (giveBack K ls bs).bind fun _ => outRes K dst rs
def setAt {α : Type} : List α → Nat → α → List α := List.set
def frzT (vs : List (Bool × List OV)) : List (Bool × List OV) := vs.map fun p => (p.1, (OV.frzs p.2).map OV.p)
def toFps : List AV → Option (List AV)
  | [] => some []
  | .w (.p c) :: r => (toFps r).map (.fp [c] :: ·)
  | _ :: _ => none
def keyEq : PV → PV → Option Bool
  | .int k a, .int k' b => if k = k' then some (a == b) else none
  | .str a, .str b => some (a == b)
  | _, _ => none
def mfind (k : PV) : List (PV × PV) → Option (Option PV)
  | [] => some none
  | e :: r => match keyEq k e.1 with | some true => some (some e.2) | some false => mfind k r | none => none
def mput (k v : PV) : List (PV × PV) → List (PV × PV)
  | [] => [(k, v)]
  | e :: r => if keyEq k e.1 = some true then (k, v) :: r else e :: mput k v r
def mapOf : Od → Pg (Nat × List (PV × PV))
  | .t i => .get i fun
    | .mp kvs => .ret (i, kvs)
    | .al (.r d) _ false => .get d fun | .mp kvs => .ret (d, kvs) | _ => .fail
    | _ => .fail
  | .c _ => .fail
def mkey (d : TypeDesc) : PV → Bool
  | .int k _ => match d with | .int k' => k == k' | _ => false
  | .str _ => match d with | .string => true | _ => false
  | _ => false
def opP (dst : Option Nat) : IOp → Pg Unit
  | .mov (.c v) => out K dst v
  | .mov (.t i) => .get i fun v => movPtr K dst i (movVal K dst i v) v
  | .asg (.c v) => out K dst v
  | .asg (.t i) => .get i fun
    | .mp _ => outOn K dst i (.al (.r i) 1 false)
    | .al (.r d) n false => .get d fun
      | .mp _ => outOn K dst d (.al (.r d) 1 false)
      | .u => .fail
      | _ => (valOf i (.al (.r d) n false)).bind fun v => (take K v).bind (outVal K dst v.ag)
    | a => movPtr K dst i ((valOf i a).bind fun v => (take K v).bind (outVal K dst v.ag)) a
  | .frz (.c v) => out K dst v
  | .frz (.t i) => .get i fun
    | .t vs => (Pg.guard (vs.all fun p => OV.wholes p.2)).bind fun _ => .put i (.t (frzT vs)) (movVal K dst i (.t (frzT vs)))
    | a => movPtr K dst i ((valOf i a).bind fun v => (copy v).bind fun ps => outVal K dst v.ag (ps.map .p)) a
  | .loadf n ag x => (adr x).bind fun
    | .inl pl => (getPl pl n).bind fun cs => (copy ⟨ag, cs, .at_ pl⟩).bind fun ps => outVal K dst ag (ps.map .p)
    | .inr cs => (Pg.guard (decide (n ≤ cs.length))).bind fun _ => outVal K dst ag ((cs.take n).map .p)
  | .pick c a b => (sc c).bind fun | .bool t => (sc (if t then a else b)).bind fun v => out K dst (.w (.p v)) | _ => .fail
  | .alloc zero => out K dst (.box zero)
  | .box x => (val x).bind fun v => (Pg.guard (OV.wholes v.cs)).bind fun _ => (take K v).bind fun cs => out K dst (.box cs)
  | .build zero parts => (buildP K zero parts).bind fun cs => out K dst (.a cs)
  | .bslice z zero n parts => (bsliceP K z (List.replicate n zero) parts).bind fun els => out K dst (.w (.own z els))
  | .load n ag x => (adr x).bind fun
    | .inl pl => (getPl pl n).bind fun cs => if plainAll cs then outVal K dst ag cs else outOn K dst pl.holder (.al pl n ag)
    | .inr cs => (Pg.guard (decide (n ≤ cs.length))).bind fun _ => outVal K dst ag ((cs.take n).map .p)
  | .store n x v keep => (adr x).bind fun
    | .inl pl => (val v).bind fun v => (Pg.guard (v.cs.length == n && OV.wholes v.cs)).bind fun _ =>
      (match pl, keep with
       | .e _ _ _ _ _, false => (copy v).bind fun cs => .ret (cs.map OV.p)
       | _, _ => take K v).bind fun cs => (putPl pl cs).bind fun _ => killMem K pl.holder
    | .inr _ => .fail
  | .nilchk (.t i) => .get i (movPtr K dst i .fail)
  | .mkm => out K dst (.mp [])
  | .rng x => (sc x).bind fun | .str s => out K dst (.it s 0) | _ => .fail
  | .nxt (.t i) => .get i fun
    | .it s pos => if pos < s.length then (killMem K i).bind fun _ => .put i (.it s (pos + (Utf8.decode ⟨s.toArray⟩ pos).2)) (out K dst (.t [(false, [.p (.bool true)]), (false, [.p (.int .i64 pos)]), (false, [.p (.int .i32 (Utf8.decode ⟨s.toArray⟩ pos).1)])]))
      else out K dst (.t [(false, [.p (.bool false)])])
    | _ => .fail
  | .nxt (.c _) => .fail
  | .mup td m k v => (mapOf m).bind fun (d, kvs) => (sc k).bind fun k => (sc v).bind fun v => (Pg.guard (mkey td k)).bind fun _ => (Pg.opt (mfind k kvs)).bind fun _ => .put d (.mp (mput k v kvs)) (.ret ())
  | .mlk td ok zero m k => (mapOf m).bind fun (_, kvs) => (sc k).bind fun k => (Pg.guard (mkey td k)).bind fun _ => (Pg.opt (mfind k kvs)).bind fun r =>
    if ok then out K dst (.t [(false, [.p (r.getD zero)]), (false, [.p (.bool r.isSome)])]) else out K dst (.w (.p (r.getD zero)))
  | .movk (.t i) => .get i fun
    | .w (.own z els) => (valOf i (.w (.own z els))).bind fun v => (take K v).bind fun cs => .put i (.ln els.length) (outVal K dst v.ag cs)
    | _ => .fail
  | .movk (.c _) => .fail
  | .movl (.t i) => .getl i fun | some _ => outOn K dst i (.al (.r i) 1 false) | none => .fail
  | .movl (.c _) => .fail
  | .lenl (.t i) => .get i fun
    | .al (.r d) _ false => .getl d fun | some (false, n) => out K dst (.w (.p (.int .i64 n))) | _ => .fail
    | _ => .fail
  | .lenl (.c _) => .fail
  | .nilchk (.c _) => .fail
  | .bin op x y => (sc x).bind fun a => (sc y).bind fun b => (Pg.opt (binPV op a b)).bind fun c => out K dst (.w (.p c))
  | .eqs neg ks x y => (val x).bind fun a => (val y).bind fun b => (Pg.guard (a.ag && b.ag && plainAll a.cs && plainAll b.cs)).bind fun _ =>
    (Pg.opt (cellsEq ks (OV.frzs a.cs) (OV.frzs b.cs))).bind fun r => out K dst (.w (.p (.bool (if neg then !r else r))))
  | .beq neg x y => (sc x).bind fun | .bool a => (sc y).bind (fun | .bool b => out K dst (.w (.p (.bool (if neg then !(a == b) else a == b)))) | _ => .fail) | _ => .fail
  | .un op x => (sc x).bind fun a => (Pg.opt (unPV op a)).bind fun c => out K dst (.w (.p c))
  | .cvi k x => (scInt x).bind fun n => out K dst (.w (.p (.int k (k.wrap n))))
  | .b2s x => (val x).bind fun v => (Pg.guard (!v.ag)).bind fun _ => match v.cs with
    | [.p (.sl 1 els)] => (Pg.opt (bytesOf els)).bind fun s => out K dst (.w (.p (.str s)))
    | [.own 1 els] => (Pg.guard (OV.wholess els)).bind fun _ => (Pg.opt (bytesOf (OV.frzss els))).bind fun s => out K dst (.w (.p (.str s)))
    | _ => .fail
  | .s2b x => (sc x).bind fun | .str s => out K dst (.w (.own 1 (plains (ofBytes s)))) | _ => .fail
  | .i2s x => (scInt x).bind fun n => out K dst (.w (.p (.str (Utf8.encode n).data.toList)))
  | .sid x => (sc x).bind fun | .str s => out K dst (.w (.p (.str s))) | _ => .fail
  | .sls x lo hi => (sc x).bind fun | .str s => (ends s.length lo hi).bind fun (l, h) => out K dst (.w (.p (.str ((s.take h).drop l)))) | _ => .fail
  | .slc z x lo hi => (val x).bind fun v => (Pg.guard (!v.ag)).bind fun _ => (Pg.opt (elsLen v.cs)).bind fun len => (ends len lo hi).bind fun (l, h) => match v.cs with
    | [.p (.sl z' els)] => if z' = z then out K dst (.w (.p (.sl z ((els.take h).drop l)))) else .fail
    | [.own z' els] => if z' = z then match v.src with
      | .no => out K dst (.w (.own z ((els.take h).drop l)))
      | .at_ pl => outOn K dst pl.holder (.sv pl z l h)
      | .sub _ _ => .fail else .fail
    | _ => .fail
  | .fad off x => (adr x).bind fun | .inl pl => outOn K dst pl.holder (.ptr (pl.plus off)) | .inr cs => out K dst (.fp (cs.drop off))
  | .fld off n ag x => (val x).bind fun v => (Pg.guard v.ag).bind fun _ => (Pg.opt (cellsAt v.cs off n)).bind fun cs => (Pg.guard (plainAll cs)).bind fun _ => outVal K dst ag cs
  | .iad z x i => (val x).bind fun v => (Pg.guard (!v.ag)).bind fun _ => (scInt i).bind fun i => (Pg.guard (decide (0 ≤ i))).bind fun _ => match v.cs with
    | [.p (.sl z' els)] => if z' = z then (Pg.opt els[i.toNat]?).bind fun e => out K dst (.fp e) else .fail
    | [.own z' els] => if z' = z then (Pg.guard (decide (i.toNat < els.length))).bind fun _ => match v.src with
      | .at_ (.r d) => outOn K dst d (.ptr (.e d none z i.toNat 0))
      | .at_ (.b d off) => outOn K dst d (.ptr (.e d (some off) z i.toNat 0))
      | .sub (.r d) lo => outOn K dst d (.ptr (.e d none z (lo + i.toNat) 0))
      | .sub (.b d off) lo => outOn K dst d (.ptr (.e d (some off) z (lo + i.toNat) 0))
      | _ => (copy v).bind fun | [.sl _ els] => (Pg.opt els[i.toNat]?).bind fun e => out K dst (.fp e) | _ => .fail else .fail
    | _ => .fail
  | .ixs x i => (sc x).bind fun | .str s => (scInt i).bind fun i => (Pg.guard (decide (0 ≤ i))).bind fun _ => (Pg.opt s[i.toNat]?).bind fun b => out K dst (.w (.p (.int .u8 b.toNat))) | _ => .fail
  | .ext (.t x) i => .get x fun
    | .t vs => (Pg.opt vs[i]?).bind fun (ag, cs) => if plainAll cs then outVal K dst ag cs
      else .pute x (.t (vs.set i (ag, cs.map fun _ => .hole))) (outVal K dst ag cs)
    | _ => .fail
  | .ext (.c _) _ => .fail
  | .extu (.t x) i => .getl x fun | some (true, n) => if i < n then out K dst .u else .fail | _ => .fail
  | .extu (.c _) _ => .fail
  | .nop => out K dst .u
  | .call f args => (argsP K args).bind fun (as, ls) => callP K callf dst f as ls
  | .callv (.t x) args => .get x fun
    | .clo f caps => (argsP K args).bind fun (as, ls) => (capsP K caps).bind fun (cs, ms) => callP K callf dst f (as ++ cs) (ls ++ ms)
    | _ => .fail
  | .callv (.c _) _ => .fail
  | .len false x => (val x).bind fun v => (Pg.guard (!v.ag)).bind fun _ => (Pg.opt (elsLen v.cs)).bind fun n => out K dst (.w (.p (.int .i64 n)))
  | .len true x => (sc x).bind fun | .str s => out K dst (.w (.p (.int .i64 s.length))) | _ => .fail
  | .app z bytes x y keep => (val x).bind fun v => (Pg.guard (!v.ag)).bind fun _ => match v.cs with
    | [.own z' els] => if z' = z then (take K v).bind fun _ => (val y).bind fun u => (Pg.guard (!u.ag)).bind fun _ =>
        (if keep then take K u else (copy u).bind fun cs => .ret (cs.map OV.p)).bind fun
        | [.p (.sl z'' new)] => if z'' = z && decide (els.length + new.length ≤ 140737488351232) && decide ((els.length + new.length) * bytes ≤ 140737488351232) then out K dst (.w (.own z (els ++ plains new))) else .fail
        | [.own z'' new] => if z'' = z && OV.wholess new && decide (els.length + new.length ≤ 140737488351232) && decide ((els.length + new.length) * bytes ≤ 140737488351232) then out K dst (.w (.own z (els ++ new))) else .fail
        | _ => .fail
      else .fail
    | _ => .fail
  | .apps x y => (val x).bind fun v => (Pg.guard (!v.ag)).bind fun _ => match v.cs with
    | [.own 1 els] => (take K v).bind fun _ => (sc y).bind fun
        | .str s => if els.length + s.length ≤ 140737488351232 then out K dst (.w (.own 1 (els ++ plains (ofBytes s)))) else .fail
        | _ => .fail
    | _ => .fail
  | .mks z bytes zero n c => (scInt n).bind fun n => (scInt c).bind fun c => if 0 ≤ n ∧ n ≤ c ∧ c * bytes ≤ 140737488351232 ∧ c ≤ 140737488351232 then out K dst (.w (.own z (List.replicate n.toNat zero))) else .fail
  | .mm max x y => (sc x).bind fun a => (sc y).bind fun b => match a, b with
    | .int k a, .int k' b => if k = k' then out K dst (.w (.p (.int k (if max then (if b > a then b else a) else (if b < a then b else a))))) else .fail
    | _, _ => .fail
  | .iter gf args => (argsP K args).bind fun (as, ls) => (Pg.guard ls.isEmpty).bind fun _ => (Pg.opt (toFps as)).bind fun cs => out K dst (.clo gf cs)
  | .cln z bytes x => (val x).bind fun v => (Pg.guard (!v.ag)).bind fun _ => (Pg.opt (clEls z bytes v.cs)).bind fun els => out K dst (.w (.own z els))
  | .mkf f caps => match dst with
    | none => .ret ()
    | some d => (capsM caps).bind fun cs => if capsOn K d cs then wr K d (.clo f cs) else .fail
  where
  capsM : List Od → Pg (List AV)
    | [] => .ret []
    | .c v :: r => (capsM r).bind fun cs => .ret (v :: cs)
    | .t i :: r => .get i fun
      | .box _ => (capsM r).bind fun cs => .ret (.ptr (.b i 0) :: cs)
      | v => (capsM r).bind fun cs => .ret (v :: cs)
def operP (o : IOper) : Pg Unit :=
  match o.guard with
  | none => opP K callf o.dst o.op
  | some (t, want) => .get t fun
    | .w (.p (.bool b)) => if b == want then opP K callf o.dst o.op else (match o.dst with | some d => wr K d (.t []) | none => .ret ())
    | .t [] => (match o.dst with | some d => wr K d (.t []) | none => .ret ())
    | _ => .fail
def runOps : List IOper → List AV → Option (List AV)
  | [], σ => some σ
  | o :: os, σ => ((operP K callf o).run σ).bind fun r => runOps os r.2
def logs : List IOper → List AV → List Lg
  | [], _ => []
  | o :: os, σ => (operP K callf o).log σ .emp :: (match (operP K callf o).run σ with | some r => logs os r.2 | none => [])
def Lg.kc (L : Lg) (t : Nat) (v : AV) : Bool := L.Kl.any fun k => k.2.contains t && k.1 v
def Lg.ok (L : Lg) : Bool := (L.Kl.all fun k => !k.1 .u) && (L.R.all fun p => !p.2.isU) && L.RL.all fun p => p.2.isSome
def apartL (a b : Lg) : Bool := a.ok && b.ok && (a.W.all fun p => !hasKey p.1 b.R && !hasKey p.1 b.W && !b.kc p.1 p.2) && (b.W.all fun p => !hasKey p.1 a.R && !a.kc p.1 p.2) && (a.R.all fun p => !b.kc p.1 p.2) && (b.R.all fun p => !a.kc p.1 p.2) && (a.RL.all fun p => !b.full p.1) && (b.RL.all fun p => !a.full p.1)
def apartAll (bfs : List (List Nat)) (ls : List Lg) : Bool :=
  ls.zipIdx.all fun (b, j) => (ls.zipIdx.take j).all fun (a, i) => (bfs.getD j []).contains i || apartL a b
end
inductive Ex where
  | nor
  | exit (id : Nat)
  | goto (l : Nat)
  | ret
  deriving Inhabited, DecidableEq
def IC.after (l : Nat) : IC → Option IC
  | .label l' => if l' = l then some .skip else none
  | .seq a b => match a.after l with
    | some r => some (.seq r b)
    | none => b.after l
  | _ => none
def resP (K : Kills) : List IRes → Pg (List (Bool × List OV))
  | [] => .ret []
  | .tmp t :: r => (val (.t t)).bind fun v => (take K v).bind fun cs => (resP K r).bind fun vs => .ret ((v.ag, cs) :: vs)
  | .cell t n ag :: r => .get t fun
    | .box cs => if cs.length = n then (killMem K t).bind fun _ => .put t .u ((resP K r).bind fun vs => .ret ((ag, cs) :: vs)) else .fail
    | _ => .fail
def backP (K : Kills) (G : List Nat) : List AV → Nat → Pg (List (List OV))
  | [], _ => .ret []
  | .box _ :: r, j => if G.contains j then .get j fun | .box cs => (killMem K j).bind fun _ => .put j .u ((backP K G r (j + 1)).bind fun bs => .ret (cs :: bs)) | _ => .fail else .fail
  | _ :: r, j => backP K G r (j + 1)
structure Env where
  prog : Nat → Option IFn
  ext : Nat → Option (List AV → Option CRes)
  it : Nat → Option (ItKind × Nat) := fun _ => none
def elAV (ag : Bool) (e : List PV) : Option AV := if ag then some (.a (e.map .p)) else match e with | [c] => some (.w (.p c)) | _ => none
def rowsUp (ag : Bool) : Nat → List (List PV) → Option (List (List AV))
  | _, [] => some []
  | i, e :: r => match elAV ag e, rowsUp ag (i + 1) r with
    | some x, some l => some ([.w (.p (.int .i64 i)), x] :: l)
    | _, _ => none
def rowsEl (ag : Bool) : List (List PV) → Option (List (List AV))
  | [] => some []
  | e :: r => match elAV ag e, rowsEl ag r with
    | some x, some l => some ([x] :: l)
    | _, _ => none
def rowsCh (z n : Nat) : Nat → List (List PV) → List (List AV)
  | 0, _ => []
  | k + 1, els => if els.isEmpty then [] else [.w (.p (.sl z (els.take n)))] :: rowsCh z n k (els.drop n)
def few (n : Nat) : Bool := Nat.blt n 4611686018427387904
def rowsOf (kd : ItKind) (z : Nat) : List (List PV) → Option (List (List AV))
  | [[.sl z' els]] => if z' = z ∧ few els.length = true then match kd with
    | .bwd ag => (rowsUp ag 0 els).map List.reverse
    | .vals ag => rowsEl ag els
    | .chunk => none else none
  | [[.sl z' els], [.int .i64 n]] => if z' = z ∧ 0 < n ∧ kd = .chunk ∧ few els.length = true ∧ few n.toNat = true then some (rowsCh z n.toNat els.length els) else none
  | _ => none
def fpCaps : List AV → Option (List (List PV))
  | [] => some []
  | .fp cs :: r => (fpCaps r).map (cs :: ·)
  | _ :: _ => none
def simpleAV : AV → Bool
  | .w _ | .a _ | .box _ | .fp _ => true
  | .clo _ caps => (fpCaps caps).isSome
  | _ => false
def keepG (G : List Nat) (σ : List AV) : List AV := σ.mapIdx fun t v => if G.contains t && simpleAV v then v else .u
def putPs : List Nat → List AV → List AV → List AV
  | p :: ps, x :: xs, σ => putPs ps xs (σ.set p x)
  | _, _, σ => σ
def rangeGo (fa fb : List AV → Option (Ex × List AV)) (ps G : List Nat) : List (List AV) → List AV → Option (Ex × List AV)
  | [], σ => some (.nor, σ)
  | row :: rows, σ => if row.length = ps.length then match fa (putPs ps row σ) with
    | some (.nor, σ1) => match fb σ1 with
      | some (.nor, σ2) => rangeGo fa fb ps G rows (keepG G σ2)
      | _ => none
    | _ => none else none
def bodyOf (fn : IFn) (as : List AV) (go : Kills → IC → List AV → Option (Ex × List AV)) : Option CRes :=
  if as.length = fn.np ∧ fn.np ≤ fn.nt then
    match go fn.kills fn.body (as ++ List.replicate (fn.nt - fn.np) .u) with
    | some (.nor, σ) | some (.ret, σ) => ((resP fn.kills fn.res).run σ).bind fun (rs, σ) => ((backP fn.kills fn.keeps as 0).run σ).bind fun (bs, _) => some (rs, bs)
    | _ => none
  else none
def callBody (E : Env) (go : Kills → IC → List AV → Option (Ex × List AV)) (f : Nat) (as : List AV) : Option CRes :=
  match E.ext f with
  | some g => g as
  | none => match E.prog f with
    | some fn => bodyOf fn as go
    | none => none
def evC (E : Env) : Nat → Kills → IC → List AV → Option (Ex × List AV)
  | 0, _, _, _ => none
  | k + 1, K, c, σ =>
    match c with
    | .skip | .label _ => some (.nor, σ)
    | .reg ops => (runOps K (callBody E (evC E k)) ops σ).map (Ex.nor, ·)
    | .draw bfs ops => if apartAll bfs (logs K (callBody E (evC E k)) ops σ) then (runOps K (callBody E (evC E k)) ops σ).map (Ex.nor, ·) else none
    | .seq a b => match evC E k K a σ with
      | some (.nor, σ') => evC E k K b σ'
      | r => r
    | .cond x a b => match (sc x).run σ with
      | some (.bool t, _) => evC E k K (if t then a else b) σ
      | _ => none
    | .block id a => match evC E k K a σ with
      | some (.exit id', σ') => if id' = id then some (.nor, σ') else some (.exit id', σ')
      | r => r
    | .loop a => match evC E k K a σ with
      | some (.nor, σ') => evC E k K (.loop a) σ'
      | r => r
    | .exit id => some (.exit id, σ)
    | .scope a => leap E k K a (evC E k K a σ)
    | .goto l => some (.goto l, σ)
    | .ret => some (.ret, σ)
    | .range x ps G ca cb => match σ.getD x .u with
      | .clo gf caps => match E.it gf, fpCaps caps with
        | some (kd, z), some cs => match rowsOf kd z cs with
          | some rows => if ps.all (fun p => decide (p < σ.length)) then rangeGo (evC E k K ca) (evC E k K cb) ps G rows (keepG G σ) else none
          | none => none
        | _, _ => none
      | _ => none
  where
  leap (E : Env) : Nat → Kills → IC → Option (Ex × List AV) → Option (Ex × List AV)
    | 0, _, _, _ => none
    | k + 1, K, a, r => match r with
      | some (.goto l, σ) => match a.after l with
        | some rest => leap E k K a (evC E k K rest σ)
        | none => none
      | r => r
def callF (E : Env) (k : Nat) (f : Nat) (as : List AV) : Option CRes := callBody E (evC E k) f as
end Go.Pv
end

section
namespace Go.Pv
section
variable (P : Program)
def zeroOf : Nat → TypeId → Option (List OV)
  | 0, _ => none
  | k + 1, t => match P.underlying t with
    | some .bool => some [.p (.bool false)]
    | some (.int k) => some [.p (.int k 0)]
    | some .string => some [.p (.str [])]
    | some (.slice e) => some [.own (P.cellsOf e) []]
    | some (.struct fs) => zerosOf (fun f => zeroOf k f.type) fs.toList
    | _ => none
  where
  zerosOf (g : Field → Option (List OV)) : List Field → Option (List OV)
    | [] => some []
    | f :: fs => match g f, zerosOf g fs with
      | some a, some b => some (a ++ b)
      | _, _ => none
def constCell : OV → Value → Option OV
  | .p (.bool _), .bool b => some (.p (.bool b))
  | .p (.int k _), .int k' n => if k = k' then some (.p (.int k n)) else none
  | .p (.str _), .string s => some (.p (.str s.data.toList))
  | .own z [], .slice none 0 0 => some (.own z [])
  | _, _ => none
def constCells : List OV → List Value → Option (List OV)
  | [], [] => some []
  | z :: zs, v :: vs => match constCell z v, constCells zs vs with
    | some c, some cs => some (c :: cs)
    | _, _ => none
  | _, _ => none
def zeroCells (t : TypeId) : Option (List OV) :=
  match P.info? t with
  | some i => match i.zero, zeroOf P 12 t with
    | some v, some zs => constCells zs v.cells.toList
    | _, _ => none
  | none => none
def constAV (t : TypeId) (v : Value) : Option AV :=
  match v with
  | .bool b => some (.w (.p (.bool b)))
  | .int k n => some (.w (.p (.int k n)))
  | .string s => some (.w (.p (.str s.data.toList)))
  | .slice none 0 0 => match P.underlying t with
    | some (.slice e) => some (.w (.own (P.cellsOf e) []))
    | _ => none
  | .agg cs => match zeroOf P 12 t with
    | some zs => match constCells zs cs.toList with
      | some l => some (.a l)
      | none => none
    | none => none
  | _ => none
def odOf (t : TypeId) : Operand → Option Od
  | .tmp i => some (.t i)
  | .const v => match constAV P t v with
    | some a => some (.c a)
    | none => none
  | .func f => some (.c (.clo f []))
  | .global _ => none
def odS : Operand → Option Od
  | .tmp i => some (.t i)
  | .const (.bool b) => some (.c (.w (.p (.bool b))))
  | .const (.int k n) => some (.c (.w (.p (.int k n))))
  | .const (.string s) => some (.c (.w (.p (.str s.data.toList))))
  | _ => none
def odT : Operand → Option Od
  | .tmp i => some (.t i)
  | _ => none
def isAg (t : TypeId) : Bool := match P.underlying t with | some (.struct _) => true | some (.array _ _) => true | _ => false
def has (t : TypeId) : Bool := (P.info? t).isSome && (P.underlying t).isSome
def odOpt : Option Operand → Option (Option Od)
  | none => some none
  | some x => match odS x with | some o => some (some o) | none => none
def partsS (fs : Array Field) : List (Nat × Operand) → Option (List (Nat × Nat × Od))
  | [] => some []
  | (i, x) :: r => match fs[i]? with
    | some f => match odOf P f.type x, partsS fs r with
      | some o, some l => if has P f.type then some ((f.offset, P.cellsOf f.type, o) :: l) else none
      | _, _ => none
    | none => none
def partsE (e : TypeId) : List (Nat × Operand) → Option (List (Nat × Od))
  | [] => some []
  | (i, x) :: r => match odOf P e x, partsE e r with
    | some o, some l => some ((i, o) :: l)
    | _, _ => none
def argsO (H : List Nat) : Nat → List TypeId → List Operand → Option (List (Od × Bool))
  | _, [], [] => some []
  | j, t :: ts, x :: xs => match odOf P t x, argsO H (j + 1) ts xs with
    | some o, some l => some ((o, H.contains j) :: l)
    | _, _ => none
  | _, _, _ => none
def eqlFields (g : TypeId → Option (List CK)) (n : Nat) : Nat → List Field → Option (List CK)
  | k, [] => if k = n then some [] else none
  | k, f :: fs => match g f.type, eqlFields g n (k + P.cellsOf f.type) fs with
    | some a, some b => if f.name ≠ "_" ∧ f.offset = k ∧ has P f.type = true ∧ k + P.cellsOf f.type ≤ n then some (a ++ b) else none
    | _, _ => none
def eqlKs : Nat → TypeId → Option (List CK)
  | 0, _ => none
  | k + 1, t => match P.underlying t with
    | some .bool => if P.cellsOf t = 1 then some [.b] else none
    | some (.int _) => if P.cellsOf t = 1 then some [.i] else none
    | some .string => if P.cellsOf t = 1 then some [.s] else none
    | some (.struct fs) => if P.stoodInHeld t = false then eqlFields P (eqlKs k) (P.cellsOf t) 0 fs.toList else none
    | _ => none
def isU8 (t : TypeId) : Bool := match P.underlying t with | some (.int .u8) => true | _ => false
def capsO : List Operand → Option (List Od)
  | [] => some []
  | .tmp i :: r => match capsO r with | some l => some (.t i :: l) | none => none
  | _ => none
def zeroPV (t : TypeId) : Option PV := match P.info? t with
  | some i => match i.zero with
    | some (.bool b) => some (.bool b)
    | some (.int k n) => some (.int k n)
    | some (.string s) => some (.str s.data.toList)
    | _ => none
  | none => none
def mapKd (t : TypeId) : Option (TypeDesc × TypeId) := match P.underlying t with
  | some (.map kt et) => match P.underlying kt with
    | some (.int k) => some (.int k, et)
    | some .string => some (.string, et)
    | _ => none
  | _ => none
def mkmOf (t : TypeId) (r : Option Operand) : Option IOp := match r with
  | none => some .mkm
  | some (.const (.int _ _)) => match P.underlying t with | some (.map _ _) => some .mkm | _ => none
  | _ => none
def mupOf (t : TypeId) (m k v : Operand) (dst : Option Nat) : Option IOp := match mapKd P t with
  | some (d, et) => match odT m, odS k, odOf P et v with
    | some m, some k, some v => if dst.isNone then some (.mup d m k v) else none
    | _, _, _ => none
  | none => none
def mlkOf (t : TypeId) (m k : Operand) (c : Bool) : Option IOp := match mapKd P t with
  | some (d, et) => match odT m, odS k, zeroPV P et with
    | some m, some k, some z => some (.mlk d c z m k)
    | _, _, _ => none
  | none => none
def mkOp : Op → Option Nat
  | .makeFunc (.func gf) _ _ => some gf
  | _ => none
def firstMk : Code → Option Nat
  | .region _ ops _ => ops.toList.findSome? fun o => mkOp o.op
  | .seq a b => match firstMk a with | some g => some g | none => firstMk b
  | .cond _ a b => match firstMk a with | some g => some g | none => firstMk b
  | .block _ a | .loop a | .scope a => firstMk a
  | _ => none
def makerOf (f : Nat) : Option Nat := match P.funcs[f]? with
  | some fn => if fn.origin = "slices.Backward" ∨ fn.origin = "slices.Values" ∨ fn.origin = "slices.Chunk" then fn.body.bind firstMk else none
  | none => none
def clonerOf (f : Nat) : Option (Nat × Nat) := match P.funcs[f]? with
  | some fn => if fn.origin = "slices.Clone" then (match fn.params.toList with
    | [t] => (match P.underlying t with
      | some (.slice e) => (match P.info? e with | some i => some (P.cellsOf e, i.bytes) | none => none)
      | _ => none)
    | _ => none) else none
  | none => none
def opOf (H : List Nat) (o : Oper) : Option IOp :=
  match o.op with
  | .move x => if H.contains 7 then (odOf P o.type x).map .frz else if H.contains 8 then (odOf P o.type x).map .movl else if H.contains 9 then (odOf P o.type x).map .movk else (odOf P o.type x).map .mov
  | .assign x => if H.contains 13 then some .nop else (odOf P o.type x).map .asg
  | .pick c a b => match odS c, odS a, odS b with | some c, some a, some b => some (.pick c a b) | _, _, _ => none
  | .alloc e => (zeroCells P e).map .alloc
  | .box e x => (odOf P e x).map .box
  | .build t parts => match P.underlying t with
    | some (.struct fs) => match zeroCells P t, partsS P fs parts.toList with
      | some z, some l => if fs.toList.all fun f => has P f.type then some (.build z l) else none
      | _, _ => none
    | _ => none
  | .buildSlice t len parts => match P.underlying t with
    | some (.slice e) => match zeroCells P e, partsE P e parts.toList with
      | some z, some l => if 0 < P.cellsOf e ∧ z.length = P.cellsOf e ∧ len * P.cellsOf e ≤ 16777216 then some (.bslice (P.cellsOf e) z len l) else none
      | _, _ => none
    | _ => none
  | .load t x => match odT x with | some x => if has P t ∧ (isAg P t = true ∨ P.cellsOf t = 1) then (if H.contains 7 then some (.loadf (P.cellsOf t) (isAg P t) x) else some (.load (P.cellsOf t) (isAg P t) x)) else none | none => none
  | .store t x v => match odT x, odOf P t v with | some x, some v => if has P t && o.dst.isNone then some (.store (P.cellsOf t) x v (H.contains 0)) else none | _, _ => none
  | .nilCheck x => (odT x).map .nilchk
  | .binOp op t x y _ => match P.underlying t with
    | some (.int _) => match odS x, odS y with | some x, some y => some (.bin op x y) | _, _ => none
    | some .string => match odS x, odS y with | some x, some y => some (.bin op x y) | _, _ => none
    | some .bool => match odS x, odS y, op with | some x, some y, .eql => some (.beq false x y) | some x, some y, .neq => some (.beq true x y) | _, _, _ => none
    | some (.struct _) => match eqlKs P 12 t, odOf P t x, odOf P t y, op with
      | some ks, some x, some y, .eql => if P.eqGuardType P.depth t = false then some (.eqs false ks x y) else none
      | some ks, some x, some y, .neq => if P.eqGuardType P.depth t = false then some (.eqs true ks x y) else none
      | _, _, _, _ => none
    | _ => none
  | .unOp op _ x => (odS x).map (.un op)
  | .convert s d x => match P.underlying s, P.underlying d with
    | some (.int _), some (.int k) => (odS x).map (.cvi k)
    | some (.int _), some .string => (odS x).map .i2s
    | some .string, some .string => (odS x).map .sid
    | some (.slice e), some .string => if isU8 P e then (odOf P s x).map .b2s else none
    | some .string, some (.slice e) => if isU8 P e && has P e then (odS x).map .s2b else none
    | _, _ => none
  | .slice t x lo hi none => match odOpt lo, odOpt hi, P.underlying t with
    | some lo, some hi, some .string => (odS x).map (.sls · lo hi)
    | some lo, some hi, some (.slice e) => if has P e && decide (0 < P.cellsOf e) then (odOf P t x).map (.slc (P.cellsOf e) · lo hi) else none
    | _, _, _ => none
  | .fieldAddr t x i => match P.underlying t, odT x with
    | some (.struct fs), some x => match fs[i]? with
      | some f => if has P f.type ∧ 0 < P.cellsOf f.type then some (.fad f.offset x) else none
      | none => none
    | _, _ => none
  | .field t x i => match P.underlying t, odOf P t x with
    | some (.struct fs), some x => match fs[i]? with
      | some f => if has P f.type ∧ (isAg P f.type = true ∨ P.cellsOf f.type = 1) then some (.fld f.offset (P.cellsOf f.type) (isAg P f.type) x) else none
      | none => none
    | _, _ => none
  | .indexAddr t x i => match P.underlying t, odOf P t x, odS i with
    | some (.slice e), some x, some i => if has P e then some (.iad (P.cellsOf e) x i) else none
    | _, _, _ => none
  | .index t x i => match P.underlying t, odS x, odS i with
    | some .string, some x, some i => some (.ixs x i)
    | _, _, _ => none
  | .extract x i => if H.contains 12 then (odT x).map fun x => .extu x i else (odT x).map (.ext · i)
  | .makeSlice t n c => match P.underlying t with
    | some (.slice e) => match zeroCells P e, odS n, odS c, P.info? e with
      | some z, some n, some c, some i => if 0 < P.cellsOf e ∧ z.length = P.cellsOf e then some (.mks (P.cellsOf e) i.bytes z n c) else none
      | _, _, _, _ => none
    | _ => none
  | .makeFunc (.func f) first caps => if first.isEmpty then (capsO caps.toList).map (.mkf f) else none
  | .call c => match c.callee with
    | .builtin .len => match c.args.toList, c.argTypes.toList with
      | [x], [t] => match P.underlying t with
        | some .string => (odS x).map (.len true)
        | some (.slice _) => if H.contains 8 then (odOf P t x).map .lenl else (odOf P t x).map (.len false)
        | _ => none
      | _, _ => none
    | .builtin .append => match c.args.toList, c.argTypes.toList with
      | [x, y], [t, u] => match P.underlying t, P.underlying u with
        | some (.slice e), some (.slice _) => match odOf P t x, odOf P u y, zeroCells P e, P.info? e with
          | some x, some y, some z, some i => if 0 < P.cellsOf e ∧ z.length = P.cellsOf e ∧ 0 < i.bytes then some (.app (P.cellsOf e) i.bytes x y (H.contains 0)) else none
          | _, _, _, _ => none
        | some (.slice e), some .string => match odOf P t x, odS y, zeroCells P e, P.info? e with
          | some x, some y, some z, some i => if isU8 P e ∧ P.cellsOf e = 1 ∧ z.length = 1 ∧ i.bytes = 1 then some (.apps x y) else none
          | _, _, _, _ => none
        | _, _ => none
      | _, _ => none
    | .builtin .max => match c.args.toList with | [x, y] => (match odS x, odS y with | some x, some y => some (.mm true x y) | _, _ => none) | _ => none
    | .builtin .min => match c.args.toList with | [x, y] => (match odS x, odS y with | some x, some y => some (.mm false x y) | _, _ => none) | _ => none
    | .value (.func f) => match P.funcs[f]? with
      | some fn => if fn.body.isSome ∧ fn.name ≠ "runtime.NumGoroutine" then (if H.contains 10 then (match makerOf P f with | some gf => (argsO P H 0 fn.params.toList c.args.toList).map (.iter gf) | none => none) else if H.contains 11 then (match clonerOf P f, fn.params.toList, c.args.toList with | some (z, b), [t], [x] => (odOf P t x).map (.cln z b) | _, _, _ => none) else (argsO P H 0 fn.params.toList c.args.toList).map (.call f)) else none
      | none => none
    | .value (.tmp t) => (argsO P H 0 c.argTypes.toList c.args.toList).map (.callv (.t t))
    | _ => none
  | .makeMap t r => mkmOf P t r
  | .mapUpdate t m k v => mupOf P t m k v o.dst
  | .insert t m k v => mupOf P t m k v o.dst
  | .lookup t m k c => mlkOf P t m k c
  | .range t x => match P.underlying t with | some .string => (odS x).map .rng | _ => none
  | .next x true => (odT x).map .nxt
  | _ => none
def sparesDst (G : List Nat) : Option Nat → Bool
  | some d => !G.contains d
  | none => true
def operOf (G H : List Nat) (ops : Array Oper) (o : Oper) : Option IOper :=
  match opOf P H o with
  | none => none
  | some i => if sparesDst G o.dst then (match o.guard with
    | none => some ⟨o.dst, i, none⟩
    | some (j, want) => match (ops[j]?).bind (·.dst) with
      | some t => some ⟨o.dst, i, some (t, want)⟩
      | none => none) else none
abbrev Hints := List (Nat × Nat × List Nat)
def hintAt (H : Hints) (id i : Nat) : List Nat := match H.find? fun h => h.1 == id && h.2.1 == i with | some h => h.2.2 | none => []
def opersOf (G : List Nat) (H : Hints) (id : Nat) (ops : Array Oper) : Nat → List Oper → Option (List IOper)
  | _, [] => some []
  | i, o :: os => match operOf P G (hintAt H id i) ops o, opersOf G H id ops (i + 1) os with
    | some a, some l => some (a :: l)
    | _, _ => none
def aheadOf (acc : List (List Nat)) (o : Oper) : List Nat :=
  (o.after.toList.filter (Region.binds .any)).foldl (fun s e => if s.contains e.on then s else e.on :: ((acc.getD e.on []).filter (!s.contains ·) ++ s)) []
def aheads (ops : List Oper) : List (List Nat) := ops.foldl (fun acc o => acc ++ [aheadOf acc o]) []
def edgesOk (ops : List Oper) : Bool := ops.zipIdx.all fun (o, i) => o.after.toList.all fun e => !Region.binds .any e || decide (e.on < i)
def simpleC : Code → Bool
  | .skip | .exit _ => true
  | .region _ _ d => !d
  | .seq a b => simpleC a && simpleC b
  | .cond _ a b => simpleC a && simpleC b
  | .block _ a => simpleC a
  | _ => false
def codeOf (G : List Nat) (H : Hints) : Code → Option IC
  | .skip => some .skip
  | .region id ops false => (opersOf P G H id ops 0 ops.toList).map .reg
  | .region id ops true => if edgesOk ops.toList then (opersOf P G H id ops 0 ops.toList).map (.draw (aheads ops.toList)) else none
  | .seq a b => match codeOf G H a, codeOf G H b with | some a, some b => some (.seq a b) | _, _ => none
  | .cond c a b => match odS c, codeOf G H a, codeOf G H b with | some c, some a, some b => some (.cond c a b) | _, _, _ => none
  | .block id a => (codeOf G H a).map (.block id)
  | .loop a => (codeOf G H a).map .loop
  | .exit id => some (.exit id)
  | .scope a => (codeOf G H a).map .scope
  | .label l => some (.label l)
  | .goto l => some (.goto l)
  | .ret => some .ret
  | .rangeFunc (.tmp x) ps asg body =>
    if simpleC asg && simpleC body && ps.toList.all (fun p => !(hintAt H 1000000 x).contains p) && decide ps.toList.Nodup then
      match codeOf (hintAt H 1000000 x) H asg, codeOf (hintAt H 1000000 x) H body with
      | some a, some b => some (.range x ps.toList (hintAt H 1000000 x) a b)
      | _, _ => none
    else none
  | _ => none
def ressOf : List ResultVar → Option (List IRes)
  | [] => some []
  | .tmp t :: r => (ressOf r).map (.tmp t :: ·)
  | .cell t ty :: r => if has P ty ∧ (isAg P ty = true ∨ P.cellsOf ty = 1) then (ressOf r).map (.cell t (P.cellsOf ty) (isAg P ty) :: ·) else none
def fnOf (H : Hints) (kills : Kills) (keeps : List Nat) (f : Func) : Option IFn :=
  match f.body with
  | some c => match codeOf P keeps H c, ressOf P f.results.toList with
    | some b, some r => if f.nfree + f.params.size ≤ f.ntmps then some ⟨f.nfree + f.params.size, f.ntmps, r, kills, keeps, b⟩ else none
    | _, _ => none
  | none => none
end
end Go.Pv
end

section
namespace Go.Pv
open Go.RowKit
set_option linter.unusedVariables false
abbrev BSet := Nat → Prop
def CellsAt (w : World) (b off : Nat) (vs : List Value) : Prop := ∀ (j : Nat) (v : Value), vs[j]? = some v → w.cell? ⟨b, off + j, none⟩ = some v
def Row (w : World) (b n : Nat) : Prop := ∃ cur e fz, w.heap[b]? = some (.cells cur e fz) ∧ n ≤ cur.size ∧ ∀ o, o < cur.size → ¬ (fz.1 ≤ o ∧ o < fz.2)
def Unm (w : World) (b : Nat) : Prop := ∃ cur e fz, w.heap[b]? = some (.cells cur e fz) ∧ ¬ (fz.1 ≤ cur.size ∧ cur.size < fz.2)
def RowZ (z : Nat) (w : World) (b n : Nat) : Prop := Row w b n ∧ (z = 1 ∨ Unm w b)
inductive RepP (w : World) (Fz : BSet) : PV → Value → Prop where
  | bool (b : Bool) : RepP w Fz (.bool b) (.bool b)
  | int (k : IntKind) (n : Int) : RepP w Fz (.int k n) (.int k n)
  | str (s : List UInt8) : RepP w Fz (.str s) (.string ⟨s.toArray⟩)
  | nil (z : Nat) (a : Option Addr) (cap : Nat) : RepP w Fz (.sl z []) (.slice a 0 cap)
  | sl (z : Nat) (els : List (List PV)) (a : Addr) (cap : Nat) (vs : List Value) (hf : Fz a.block) (hs : a.spot = none) (hz : 0 < z) (hl : ∀ e ∈ els, e.length = z)
      (hcap : els.length ≤ cap) (hn : vs.length = els.flatten.length) (hc : CellsAt w a.block a.off vs)
      (hr : ∀ (j : Nat) (c : PV) (v : Value), els.flatten[j]? = some c → vs[j]? = some v → RepP w Fz c v) : RepP w Fz (.sl z els) (.slice (some a) els.length cap)
inductive RepO (w : World) (Fz : BSet) : OV → Value → BSet → Prop where
  | p {c : PV} {v : Value} {T : BSet} (h : RepP w Fz c v) : RepO w Fz (.p c) v T
  | hole (v : Value) (T : BSet) : RepO w Fz .hole v T
  | nil (z : Nat) (a : Option Addr) (T : BSet) : RepO w Fz (.own z []) (.slice a 0 0) T
  | own (z : Nat) (els : List (List OV)) (a : Addr) (cap : Nat) (vs : List Value) (T : BSet) (S : Nat → BSet) (ht : T a.block) (hs : a.spot = none) (hz : 0 < z)
      (hl : ∀ e ∈ els, e.length = z) (hcap : els.length ≤ cap) (hrow : RowZ z w a.block (a.off + cap * z)) (hn : vs.length = els.flatten.length) (hc : CellsAt w a.block a.off vs)
      (hS : ∀ (j b : Nat), S j b → T b ∧ b ≠ a.block) (hd : ∀ (i j b : Nat), i ≠ j → S i b → ¬ S j b)
      (hr : ∀ (j : Nat) (c : OV) (v : Value), els.flatten[j]? = some c → vs[j]? = some v → RepO w Fz c v (S j)) : RepO w Fz (.own z els) (.slice (some a) els.length cap) T
def RepL (w : World) (Fz : BSet) : List OV → List Value → BSet → Prop
  | [], [], _ => True
  | c :: cs, v :: vs, T => ∃ T1 T2 : BSet, RepO w Fz c v T1 ∧ RepL w Fz cs vs T2 ∧ (∀ b, T1 b → T b) ∧ (∀ b, T2 b → T b) ∧ ∀ b, T1 b → ¬ T2 b
  | _, _, _ => False
section
variable {w w' : World} {Fz Fz' : BSet} {T T' : BSet}
theorem CellsAt.keep {b off : Nat} {vs : List Value} (h : CellsAt w b off vs) (hb : w'.heap[b]? = w.heap[b]?) : CellsAt w' b off vs :=
  fun j v hj => (World.cell?_of_block (w := w) (a := ⟨b, off + j, none⟩) hb).trans (h j v hj)
theorem Row.keep {b n : Nat} (h : Row w b n) (hb : w'.heap[b]? = w.heap[b]?) : Row w' b n := by
  obtain ⟨cur, e, fz, h1, h2, h3⟩ := h
  exact ⟨cur, e, fz, hb.trans h1, h2, h3⟩
theorem RowZ.keep {z b n : Nat} (h : RowZ z w b n) (hb : w'.heap[b]? = w.heap[b]?) : RowZ z w' b n := by
  refine ⟨h.1.keep hb, h.2.imp id fun ⟨cur, e, fz, h1, h2⟩ => ⟨cur, e, fz, hb.trans h1, h2⟩⟩
theorem RepP.keep {c : PV} {v : Value} (h : RepP w Fz c v) (hF : ∀ b, Fz b → Fz' b) (hw : ∀ b, Fz b → w'.heap[b]? = w.heap[b]?) : RepP w' Fz' c v := by
  induction h with
  | bool b => exact .bool b
  | int k n => exact .int k n
  | str s => exact .str s
  | nil z a cap => exact .nil z a cap
  | sl z els a cap vs hf hs hz hl hcap hn hc hr ih => exact .sl z els a cap vs (hF _ hf) hs hz hl hcap hn (hc.keep (hw _ hf)) ih
theorem RepO.keep {c : OV} {v : Value} (h : RepO w Fz c v T) (hF : ∀ b, Fz b → Fz' b) (hw : ∀ b, Fz b ∨ T b → w'.heap[b]? = w.heap[b]?) (hT : ∀ b, T b → T' b) : RepO w' Fz' c v T' := by
  induction h generalizing T' with
  | p h => exact .p (h.keep hF fun b hb => hw b (.inl hb))
  | hole v _ => exact .hole v _
  | nil z a _ => exact .nil z a _
  | own z els a cap vs T S ht hs hz hl hcap hrow hn hc hS hd hr ih =>
    exact .own z els a cap vs T' S (hT _ ht) hs hz hl hcap (hrow.keep (hw _ (.inr ht))) hn (hc.keep (hw _ (.inr ht))) (fun j b hb => ⟨hT _ (hS j b hb).1, (hS j b hb).2⟩) hd
      (fun j c v h1 h2 => ih j c v h1 h2 (fun b hb => hw b (hb.imp id fun h => (hS j b h).1)) fun _ h => h)
theorem RepL.keep : ∀ {cs : List OV} {vs : List Value} {T T' : BSet}, RepL w Fz cs vs T → (∀ b, Fz b → Fz' b) → (∀ b, Fz b ∨ T b → w'.heap[b]? = w.heap[b]?) → (∀ b, T b → T' b) → RepL w' Fz' cs vs T'
  | [], [], _, _, _, _, _, _ => trivial
  | c :: cs, v :: vs, T, T', ⟨T1, T2, h1, h2, h3, h4, h5⟩, hF, hw, hT =>
    ⟨T1, T2, h1.keep hF (fun b hb => hw b (hb.imp id (h3 b))) fun _ h => h, RepL.keep h2 hF (fun b hb => hw b (hb.imp id (h4 b))) fun _ h => h, fun b hb => hT b (h3 b hb), fun b hb => hT b (h4 b hb), h5⟩
  | [], _ :: _, _, _, h, _, _, _ => h.elim
  | _ :: _, [], _, _, h, _, _, _ => h.elim
theorem RepL.mono {cs : List OV} {vs : List Value} (h : RepL w Fz cs vs T) (hT : ∀ b, T b → T' b) : RepL w Fz cs vs T' := h.keep (fun _ h => h) (fun _ _ => rfl) hT
theorem RepO.mono {c : OV} {v : Value} (h : RepO w Fz c v T) (hT : ∀ b, T b → T' b) : RepO w Fz c v T' := h.keep (fun _ h => h) (fun _ _ => rfl) hT
theorem RepL.length : ∀ {cs : List OV} {vs : List Value} {T : BSet}, RepL w Fz cs vs T → vs.length = cs.length
  | [], [], _, _ => rfl
  | _ :: _, _ :: _, _, ⟨_, _, _, h, _⟩ => by simp [RepL.length h]
  | [], _ :: _, _, h => h.elim
  | _ :: _, [], _, h => h.elim
theorem RepL.append : ∀ {A B : List OV} {VA VB : List Value} {T1 T2 T : BSet}, RepL w Fz A VA T1 → RepL w Fz B VB T2 → (∀ b, T1 b → T b) → (∀ b, T2 b → T b) → (∀ b, T1 b → ¬ T2 b) → RepL w Fz (A ++ B) (VA ++ VB) T
  | [], B, [], VB, T1, T2, T, _, h2, _, h4, _ => h2.mono h4
  | c :: A, B, v :: VA, VB, T1, T2, T, ⟨U1, U2, h1, h2, h3, h4, h5⟩, hB, hT1, hT2, hd =>
    ⟨U1, fun b => U2 b ∨ T2 b, h1, RepL.append h2 hB (fun b h => .inl h) (fun b h => .inr h) (fun b h => hd b (h4 b h)), fun b h => hT1 b (h3 b h), fun b h => h.elim (fun h => hT1 b (h4 b h)) (hT2 b),
      fun b h k => k.elim (h5 b h) (hd b (h3 b h))⟩
  | [], _, _ :: _, _, _, _, _, h, _, _, _, _ => h.elim
  | _ :: _, _, [], _, _, _, _, h, _, _, _, _ => h.elim
theorem RepL.split : ∀ {A B : List OV} {V : List Value} {T : BSet}, RepL w Fz (A ++ B) V T → ∃ VA VB T1 T2, V = VA ++ VB ∧ RepL w Fz A VA T1 ∧ RepL w Fz B VB T2 ∧ (∀ b, T1 b → T b) ∧ (∀ b, T2 b → T b) ∧ ∀ b, T1 b → ¬ T2 b
  | [], B, V, T, h => ⟨[], V, fun _ => False, T, rfl, trivial, h, fun _ h => h.elim, fun _ h => h, fun _ h => h.elim⟩
  | c :: A, B, v :: V, T, ⟨U1, U2, h1, h2, h3, h4, h5⟩ => by
    obtain ⟨VA, VB, T1, T2, rfl, hA, hB, g1, g2, g3⟩ := RepL.split h2
    exact ⟨v :: VA, VB, fun b => U1 b ∨ T1 b, T2, rfl, ⟨U1, T1, h1, hA, fun b h => .inl h, fun b h => .inr h, fun b h k => h5 b h (g1 b k)⟩, hB, fun b h => h.elim (h3 b) fun h => h4 b (g1 b h), fun b h => h4 b (g2 b h),
      fun b h k => h.elim (fun h => h5 b h (g2 b k)) fun h => g3 b h k⟩
  | _ :: _, _, [], _, h => h.elim
theorem RepL.family : ∀ {cs : List OV} {vs : List Value} {T : BSet}, RepL w Fz cs vs T → ∃ S : Nat → BSet, (∀ (j b : Nat), S j b → T b) ∧ (∀ (i j b : Nat), i ≠ j → S i b → ¬ S j b) ∧ ∀ (j : Nat) (c : OV) (v : Value), cs[j]? = some c → vs[j]? = some v → RepO w Fz c v (S j)
  | [], [], T, _ => ⟨fun _ _ => False, fun _ _ h => h.elim, fun _ _ _ _ h => h.elim, fun j c v h => by simp at h⟩
  | c :: cs, v :: vs, T, ⟨T1, T2, h1, h2, h3, h4, h5⟩ => by
    obtain ⟨S, g1, g2, g3⟩ := RepL.family h2
    refine ⟨fun j => match j with | 0 => T1 | j + 1 => S j, fun j b h => ?_, fun i j b hij h k => ?_, fun j c' v' hc hv => ?_⟩
    · cases j with
      | zero => exact h3 b h
      | succ j => exact h4 b (g1 j b h)
    · cases i <;> cases j
      · exact hij rfl
      · exact h5 b h (g1 _ b k)
      · exact h5 b k (g1 _ b h)
      · exact g2 _ _ b (by omega) h k
    · cases j with
      | zero => simp at hc hv; subst hc; subst hv; exact h1
      | succ j => exact g3 j c' v' (by simpa using hc) (by simpa using hv)
  | [], _ :: _, _, h => h.elim
  | _ :: _, [], _, h => h.elim
theorem RepL.of_family : ∀ {cs : List OV} {vs : List Value} {T : BSet} (S : Nat → BSet), vs.length = cs.length → (∀ (j b : Nat), S j b → T b) → (∀ (i j b : Nat), i ≠ j → S i b → ¬ S j b) → (∀ (j : Nat) (c : OV) (v : Value), cs[j]? = some c → vs[j]? = some v → RepO w Fz c v (S j)) → RepL w Fz cs vs T
  | [], [], _, _, _, _, _, _ => trivial
  | c :: cs, v :: vs, T, S, hn, h1, h2, h3 =>
    ⟨S 0, fun b => ∃ j, S (j + 1) b, h3 0 c v rfl rfl, RepL.of_family (fun j => S (j + 1)) (by simpa using hn) (fun j b h => ⟨j, h⟩) (fun i j b hij => h2 _ _ b (by omega)) (fun j c v hc hv => h3 (j + 1) c v (by simpa using hc) (by simpa using hv)),
      fun b h => h1 0 b h, fun b ⟨j, h⟩ => h1 _ b h, fun b h ⟨j, k⟩ => h2 0 (j + 1) b (by omega) h k⟩
  | [], _ :: _, _, _, h, _, _, _ => by simp at h
  | _ :: _, [], _, _, h, _, _, _ => by simp at h
theorem repO_own {z : Nat} {els : List (List OV)} {v : Value} : RepO w Fz (.own z els) v T ↔
    (els = [] ∧ ∃ a, v = .slice a 0 0) ∨
    ∃ (a : Addr) (cap : Nat) (vs : List Value) (T1 : BSet), v = .slice (some a) els.length cap ∧ T a.block ∧ a.spot = none ∧ 0 < z ∧ (∀ e ∈ els, e.length = z) ∧ els.length ≤ cap ∧ RowZ z w a.block (a.off + cap * z) ∧
      CellsAt w a.block a.off vs ∧ RepL w Fz els.flatten vs T1 ∧ (∀ b, T1 b → T b) ∧ ¬ T1 a.block := by
  constructor
  · intro h
    cases h with
    | nil z a _ => exact .inl ⟨rfl, a, rfl⟩
    | own z els a cap vs T S ht hs hz hl hcap hrow hn hc hS hd hr =>
      exact .inr ⟨a, cap, vs, fun b => ∃ j, S j b, rfl, ht, hs, hz, hl, hcap, hrow, hc, .of_family S hn (fun j b h => ⟨j, h⟩) hd hr, fun b ⟨j, h⟩ => (hS j b h).1, fun ⟨j, h⟩ => (hS j _ h).2 rfl⟩
  · rintro (⟨rfl, a, rfl⟩ | ⟨a, cap, vs, T1, rfl, ht, hs, hz, hl, hcap, hrow, hc, hL, h1, h2⟩)
    · exact .nil z a T
    · obtain ⟨S, g1, g2, g3⟩ := hL.family
      exact .own z els a cap vs T S ht hs hz hl hcap hrow hL.length hc (fun j b h => ⟨h1 b (g1 j b h), fun e => h2 (e ▸ g1 j b h)⟩) g2 g3
theorem frzs_eq_map : ∀ cs : List OV, OV.frzs cs = cs.map OV.frz
  | [] => rfl
  | c :: cs => by simp [OV.frzs, frzs_eq_map cs]
theorem frzss_eq_map : ∀ els : List (List OV), OV.frzss els = els.map (·.map OV.frz)
  | [] => rfl
  | e :: es => by simp [OV.frzss, frzs_eq_map, frzss_eq_map es]
theorem wholes_eq : ∀ cs : List OV, OV.wholes cs = cs.all OV.whole
  | [] => rfl
  | c :: cs => by simp [OV.wholes, wholes_eq cs]
theorem wholess_eq : ∀ els : List (List OV), OV.wholess els = els.all (·.all OV.whole)
  | [] => rfl
  | e :: es => by simp [OV.wholess, wholes_eq, wholess_eq es]
theorem flatten_map_map {α β : Type} (f : α → β) : ∀ l : List (List α), (l.map (·.map f)).flatten = l.flatten.map f
  | [] => rfl
  | x :: l => by rw [List.map_cons, List.flatten_cons, List.flatten_cons, List.map_append, flatten_map_map f l]
theorem RepO.freeze {c : OV} {v : Value} (h : RepO w Fz c v T) (hw : c.whole = true) (hF : ∀ b, Fz b ∨ T b → Fz' b) : RepP w Fz' c.frz v := by
  induction h with
  | p h => exact h.keep (fun b hb => hF b (.inl hb)) fun _ _ => rfl
  | hole v _ => simp [OV.whole] at hw
  | nil z a _ => exact .nil z a 0
  | own z els a cap vs T S ht hs hz hl hcap hrow hn hc hS hd hr ih =>
    simp only [OV.frz, frzss_eq_map]
    have e := flatten_map_map OV.frz els
    have hlen : (els.map (·.map OV.frz)).length = els.length := by simp
    rw [← hlen]
    refine .sl z _ a cap vs (hF _ (.inr ht)) hs hz (fun x hx => ?_) (by rw [hlen]; exact hcap) (by rw [e, List.length_map]; exact hn) hc (fun j c v h1 h2 => ?_)
    · obtain ⟨y, hy, rfl⟩ := List.mem_map.1 hx
      simpa using hl y hy
    · rw [e, List.getElem?_map, Option.map_eq_some_iff] at h1
      obtain ⟨c', hc', rfl⟩ := h1
      refine ih j c' v hc' h2 ?_ (fun b hb => hF b (hb.imp id fun h => (hS j b h).1))
      simp only [OV.whole, wholess_eq, List.all_eq_true] at hw
      have hm := List.mem_of_getElem? hc'
      obtain ⟨l, hl1, hl2⟩ := List.mem_flatten.1 hm
      exact hw l hl1 c' hl2
theorem RepL.freeze : ∀ {cs : List OV} {vs : List Value} {T : BSet}, RepL w Fz cs vs T → OV.wholes cs = true → (∀ b, Fz b ∨ T b → Fz' b) → RepL w Fz' ((OV.frzs cs).map .p) vs (fun _ => False)
  | [], [], _, _, _, _ => trivial
  | c :: cs, v :: vs, T, ⟨T1, T2, h1, h2, h3, h4, h5⟩, hw, hF => by
    simp only [OV.wholes, Bool.and_eq_true] at hw
    exact ⟨fun _ => False, fun _ => False, .p (h1.freeze hw.1 fun b hb => hF b (hb.imp id (h3 b))), RepL.freeze h2 hw.2 fun b hb => hF b (hb.imp id (h4 b)), fun _ h => h, fun _ h => h, fun _ h => h.elim⟩
  | [], _ :: _, _, h, _, _ => h.elim
  | _ :: _, [], _, h, _, _ => h.elim
theorem plain_frz {cs : List OV} (h : plainAll cs = true) : (OV.frzs cs).map .p = cs := by
  rw [frzs_eq_map]
  induction cs with
  | nil => rfl
  | cons c cs ih =>
    simp only [plainAll, List.all_cons, Bool.and_eq_true] at h ih
    cases c with
    | p v => simp [OV.frz, ih h.2]
    | own z els => simp [OV.plain] at h
    | hole => simp [OV.plain] at h
theorem RepL.plain : ∀ {cs : List OV} {vs : List Value} {T T' : BSet}, RepL w Fz cs vs T → plainAll cs = true → RepL w Fz cs vs T'
  | [], [], _, _, _, _ => trivial
  | c :: cs, v :: vs, T, T', ⟨T1, T2, h1, h2, h3, h4, h5⟩, hp => by
    simp only [plainAll, List.all_cons, Bool.and_eq_true] at hp
    refine ⟨fun _ => False, fun _ => False, ?_, RepL.plain h2 hp.2, fun _ h => h.elim, fun _ h => h.elim, fun _ h => h.elim⟩
    cases h1 with
    | p h => exact .p h
    | hole => simp [OV.plain] at hp
    | nil => simp [OV.plain] at hp
    | own => simp [OV.plain] at hp
  | [], _ :: _, _, _, h, _ => h.elim
  | _ :: _, [], _, _, h, _ => h.elim
theorem RepL.holes : ∀ {cs : List OV} {vs : List Value} {T : BSet}, vs.length = cs.length → RepL w Fz (cs.map fun _ => .hole) vs T
  | [], [], _, _ => trivial
  | c :: cs, v :: vs, T, h => ⟨fun _ => False, T, .hole _ _, RepL.holes (by simpa using h), fun _ h => h.elim, fun _ h => h, fun _ h => h.elim⟩
  | [], _ :: _, _, h => by simp at h
  | _ :: _, [], _, h => by simp at h
theorem RepP.oneCell {c : PV} {v : Value} (h : RepP w Fz c v) : v.oneCell' = true := by cases h <;> rfl
theorem RepO.oneCell {c : OV} {v : Value} (h : RepO w Fz c v T) (hc : c ≠ .hole) : v.oneCell' = true := by
  cases h with
  | p h => exact h.oneCell
  | hole => exact absurd rfl hc
  | nil => rfl
  | own => rfl
theorem RepL.ofP : ∀ {cs : List PV} {vs : List Value}, vs.length = cs.length → (∀ (j : Nat) (c : PV) (v : Value), cs[j]? = some c → vs[j]? = some v → RepP w Fz c v) → RepL w Fz (cs.map .p) vs T
  | [], [], _, _ => trivial
  | c :: cs, v :: vs, hn, h => ⟨fun _ => False, T, .p (h 0 c v rfl rfl), RepL.ofP (by simpa using hn) fun j c v h1 h2 => h (j + 1) c v (by simpa using h1) (by simpa using h2), fun _ h => h.elim, fun _ h => h, fun _ h => h.elim⟩
  | [], _ :: _, hn, _ => by simp at hn
  | _ :: _, [], hn, _ => by simp at hn
theorem RepL.toP : ∀ {cs : List PV} {vs : List Value} {T : BSet}, RepL w Fz (cs.map .p) vs T → ∀ (j : Nat) (c : PV) (v : Value), cs[j]? = some c → vs[j]? = some v → RepP w Fz c v
  | [], [], _, _, _, _, _, h, _ => by simp at h
  | c :: cs, v :: vs, T, ⟨T1, T2, h1, h2, _⟩, j, c', v', hc, hv => by
    cases j with
    | zero => simp at hc hv; subst hc; subst hv; cases h1 with | p h => exact h
    | succ j => exact RepL.toP h2 j c' v' (by simpa using hc) (by simpa using hv)
  | [], _ :: _, _, h, _, _, _, _, _ => h.elim
  | _ :: _, [], _, h, _, _, _, _, _ => h.elim
end
end Go.Pv
end

section
namespace Go.Pv
open Go.RowKit
set_option linter.unusedVariables false
def valIs (ag : Bool) (v : Value) (vs : List Value) : Prop := (ag = true ∧ v = .agg vs.toArray) ∨ (ag = false ∧ vs = [v])
section
variable (vals : Nat → Value) (w : World) (Fz : BSet) (S : Nat → BSet)
def Hdr (d : Nat) : Option Nat → Value → Prop
  | none, x => vals d = x
  | some k, x => ∃ b, vals d = .pointer (some ⟨b, 0, none⟩) ∧ (S d b ∨ Fz b) ∧ w.cell? ⟨b, k, none⟩ = some x
def PlAddr : Pl → Addr → Prop
  | .r _, _ => False
  | .b d off, ad => ∃ b, vals d = .pointer (some ⟨b, 0, none⟩) ∧ ad = ⟨b, off, none⟩
  | .e d c z i off, ad => ∃ a len cap, Hdr vals w Fz S d c (.slice (some a) len cap) ∧ ad = ⟨a.block, a.off + i * z + off, none⟩
def PlVal (pl : Pl) (n : Nat) (vs : List Value) : Prop := ∃ ad, (PlAddr vals w Fz S pl ad ∧ (S pl.holder ad.block ∨ Fz ad.block)) ∧ vs.length = n ∧ CellsAt w ad.block ad.off vs
def PlHdr : Pl → Value → Prop
  | .r d, x => vals d = x
  | pl, x => ∃ ad, (PlAddr vals w Fz S pl ad ∧ (S pl.holder ad.block ∨ Fz ad.block)) ∧ w.cell? ad = some x
variable (K : Kills)
def Leans (t h : Nat) : Prop := (K.getD h []).contains t = true ∧ t ≠ h
def RepT : List (Bool × List OV) → List Value → BSet → Prop
  | [], [], _ => True
  | (ag, cs) :: l, u :: us, T => ∃ T1 T2 : BSet, ∃ vs, valIs ag u vs ∧ RepL w Fz cs vs T1 ∧ RepT l us T2 ∧ (∀ b, T1 b → T b) ∧ (∀ b, T2 b → T b) ∧ ∀ b, T1 b → ¬ T2 b
  | _, _, _ => False
def RepFp (cs : List PV) (v : Value) : Prop := ∃ ad vs, v = .pointer (some ad) ∧ ad.spot = none ∧ (cs ≠ [] → Fz ad.block) ∧ vs.length = cs.length ∧ CellsAt w ad.block ad.off vs ∧ ∀ (j : Nat) (c : PV) (x : Value), cs[j]? = some c → vs[j]? = some x → RepP w Fz c x
def RepCaps (t : Nat) : List AV → List Value → Prop
  | [], [] => True
  | .w c :: r, v :: vs => RepO w Fz c v (fun _ => False) ∧ c.plain = true ∧ RepCaps t r vs
  | .a cs :: r, v :: vs => (∃ us, v = .agg us.toArray ∧ RepL w Fz cs us (fun _ => False)) ∧ plainAll cs = true ∧ RepCaps t r vs
  | .ptr (.b d off) :: r, v :: vs => (∃ ad, PlAddr vals w Fz S (.b d off) ad ∧ v = .pointer (some ad)) ∧ Leans K t d ∧ RepCaps t r vs
  | .fp cs :: r, v :: vs => RepFp w Fz cs v ∧ RepCaps t r vs
  | _, _ => False
def RepBox (cs : List OV) (v : Value) (T : BSet) : Prop := ∃ b vs, v = .pointer (some ⟨b, 0, none⟩) ∧ T b ∧ Row w b cs.length ∧ CellsAt w b 0 vs ∧ ∃ T1, RepL w Fz cs vs T1 ∧ (∀ b', T1 b' → T b') ∧ ¬ T1 b
def RepSv (pl : Pl) (z lo hi : Nat) (v : Value) : Prop := ∃ a len cap, PlHdr vals w Fz S pl (.slice a len cap) ∧ v = .slice (if cap = lo then a else a.map (·.add (lo * z))) (hi - lo) (cap - lo)
def RepKvs : List (PV × PV) → List MapEntry → Prop
  | [], [] => True
  | p :: l, e :: es => RepP w Fz p.1 e.key ∧ RepP w Fz p.2 e.val ∧ RepKvs l es
  | _, _ => False
def RepIt (s : List UInt8) (pos : Nat) (v : Value) (T : BSet) : Prop := ∃ r, v = .pointer (some ⟨r, 0, none⟩) ∧ T r ∧ w.heap[r]? = some (.stringIter ⟨s.toArray⟩ pos)
def RepMap (kvs : List (PV × PV)) (v : Value) (T : BSet) : Prop := ∃ r es clock, v = .map (some r) ∧ T r ∧ w.heap[r]? = some (.map es clock) ∧ RepKvs w Fz kvs es.toList
def RepA (t : Nat) : AV → Value → Prop
  | .u, _ => True
  | .w c, v => RepO w Fz c v (S t)
  | .a cs, v => ∃ vs, v = .agg vs.toArray ∧ RepL w Fz cs vs (S t)
  | .t l, v => ∃ us, v = .tuple us.toArray ∧ RepT w Fz l us (S t)
  | .box cs, v => RepBox w Fz cs v (S t)
  | .ptr pl, v => (∃ ad, PlAddr vals w Fz S pl ad ∧ v = .pointer (some ad)) ∧ Leans K t pl.holder
  | .fp cs, v => RepFp w Fz cs v
  | .al (.r d) n ag, v => v = vals d ∧ Leans K t d
  | .al pl n ag, v => (∃ vs, PlVal vals w Fz S pl n vs ∧ valIs ag v vs) ∧ Leans K t pl.holder
  | .sv pl z lo hi, v => RepSv vals w Fz S pl z lo hi v ∧ Leans K t pl.holder
  | .clo f caps, v => ∃ cvs, v = .func (.func f) #[] cvs.toArray ∧ RepCaps vals w Fz S K t caps cvs
  | .mp kvs, v => RepMap w Fz kvs v (S t)
  | .it s pos, v => RepIt w s pos v (S t)
  | .ln n, v => ∃ x cap, v = .slice x n cap
end
section
variable {vals vals' : Nat → Value} {w w' : World} {Fz Fz' : BSet} {S S' : Nat → BSet} {K : Kills} {t : Nat}
theorem RepT.keep : ∀ {l : List (Bool × List OV)} {us : List Value} {T T' : BSet}, RepT w Fz l us T → (∀ b, Fz b → Fz' b) → (∀ b, Fz b ∨ T b → w'.heap[b]? = w.heap[b]?) → (∀ b, T b → T' b) → RepT w' Fz' l us T'
  | [], [], _, _, _, _, _, _ => trivial
  | (ag, cs) :: l, u :: us, T, T', ⟨T1, T2, vs, h0, h1, h2, h3, h4, h5⟩, hF, hw, hT =>
    ⟨T1, T2, vs, h0, h1.keep hF (fun b hb => hw b (hb.imp id (h3 b))) fun _ h => h, RepT.keep h2 hF (fun b hb => hw b (hb.imp id (h4 b))) fun _ h => h, fun b hb => hT b (h3 b hb), fun b hb => hT b (h4 b hb), h5⟩
  | [], _ :: _, _, _, h, _, _, _ => h.elim
  | _ :: _, [], _, _, h, _, _, _ => by simp [RepT] at h
theorem RepKvs.keep : ∀ {l : List (PV × PV)} {es : List MapEntry}, RepKvs w Fz l es → (∀ b, Fz b → Fz' b) → (∀ b, Fz b → w'.heap[b]? = w.heap[b]?) → RepKvs w' Fz' l es
  | [], [], _, _, _ => trivial
  | p :: l, e :: es, ⟨h1, h2, h3⟩, hF, hw => ⟨h1.keep hF hw, h2.keep hF hw, RepKvs.keep h3 hF hw⟩
  | [], _ :: _, h, _, _ => h.elim
  | _ :: _, [], h, _, _ => h.elim
theorem RepMap.keep {kvs : List (PV × PV)} {v : Value} {T T' : BSet} (h : RepMap w Fz kvs v T) (hF : ∀ b, Fz b → Fz' b) (hw : ∀ b, Fz b ∨ T b → w'.heap[b]? = w.heap[b]?) (hT : ∀ b, T b → T' b) : RepMap w' Fz' kvs v T' := by
  obtain ⟨r, es, clock, h1, h2, h3, h4⟩ := h
  exact ⟨r, es, clock, h1, hT r h2, (hw r (.inr h2)).trans h3, h4.keep hF fun b hb => hw b (.inl hb)⟩
structure Held (vals vals' : Nat → Value) (w w' : World) (Fz Fz' : BSet) (S S' : Nat → BSet) (mem el : Bool) (h : Nat) : Prop where
  val : vals' h = vals h
  setB : mem = true → ∀ b, vals h = .pointer (some ⟨b, 0, none⟩) → S h b → S' h b ∨ Fz' b
  setE : mem = true → ∀ a len cap, vals h = .slice (some a) len cap → S h a.block → S' h a.block ∨ Fz' a.block
  setA : el = true → ∀ b, S h b → S' h b ∨ Fz' b
  mem : mem = true → ∀ b, S h b → w'.heap[b]? = w.heap[b]?
theorem Held.same (h : Nat) (m e : Bool) (hv : vals' h = vals h) (hs : ∀ b, S h b → S' h b ∨ Fz' b) (hw : ∀ b, S h b → w'.heap[b]? = w.heap[b]?) : Held vals vals' w w' Fz Fz' S S' m e h :=
  ⟨hv, fun _ b _ => hs b, fun _ a _ _ _ => hs _, fun _ => hs, fun _ => hw⟩
theorem Hdr.keep {d : Nat} {c : Option Nat} {x : Value} {m e : Bool} (h : Hdr vals w Fz S d c x) (hF : ∀ b, Fz b → Fz' b) (hw : ∀ b, Fz b → w'.heap[b]? = w.heap[b]?) (hh : Held vals vals' w w' Fz Fz' S S' m e d) (hm : c.isSome = true → m = true) : Hdr vals' w' Fz' S' d c x := by
  cases c with
  | none => exact hh.val.trans h
  | some k =>
    obtain ⟨b, h1, h2, h3⟩ := h
    refine ⟨b, hh.val.trans h1, h2.elim (hh.setB (hm rfl) b h1) fun h => .inr (hF b h), ?_⟩
    rw [World.cell?_of_block (w := w) (a := ⟨b, k, none⟩) (h2.elim (hh.mem (hm rfl) b) (hw b))]
    exact h3
def Pl.deep : Pl → Bool
  | .e _ c _ _ _ => c.isSome
  | _ => false
theorem PlAddr.keep {pl : Pl} {ad : Addr} {m e : Bool} (h : PlAddr vals w Fz S pl ad) (hF : ∀ b, Fz b → Fz' b) (hw : ∀ b, Fz b → w'.heap[b]? = w.heap[b]?) (hh : Held vals vals' w w' Fz Fz' S S' m e pl.holder)
    (hm : pl.deep = true → m = true ∧ e = true) : PlAddr vals' w' Fz' S' pl ad := by
  cases pl with
  | r d => exact h
  | b d off =>
    obtain ⟨b, h1, h3⟩ := h
    exact ⟨b, hh.val.trans h1, h3⟩
  | e d c z i off =>
    obtain ⟨a, len, cap, h1, h3⟩ := h
    exact ⟨a, len, cap, h1.keep hF hw hh fun h => (hm h).1, h3⟩
theorem PlAddr.keepM {pl : Pl} {ad : Addr} {e : Bool} (h : PlAddr vals w Fz S pl ad ∧ (S pl.holder ad.block ∨ Fz ad.block)) (hF : ∀ b, Fz b → Fz' b) (hw : ∀ b, Fz b → w'.heap[b]? = w.heap[b]?) (hh : Held vals vals' w w' Fz Fz' S S' true e pl.holder)
    (hm : pl.deep = true → e = true) : PlAddr vals' w' Fz' S' pl ad ∧ (S' pl.holder ad.block ∨ Fz' ad.block) := by
  refine ⟨h.1.keep hF hw hh fun q => ⟨rfl, hm q⟩, h.2.elim (fun hS => ?_) fun q => .inr (hF _ q)⟩
  obtain ⟨h, _⟩ := h
  cases pl with
  | r d => exact h.elim
  | b d off => obtain ⟨b, h1, rfl⟩ := h; exact hh.setB rfl b h1 hS
  | e d c z i off =>
    obtain ⟨a, len, cap, h1, rfl⟩ := h
    cases c with
    | none => exact hh.setE rfl a len cap h1 hS
    | some k => exact hh.setA (hm rfl) _ hS
theorem PlAddr.spot {pl : Pl} {ad : Addr} (h : PlAddr vals w Fz S pl ad) : ad.spot = none := by
  cases pl with
  | r d => exact h.elim
  | b d off => obtain ⟨b, h1, rfl⟩ := h; rfl
  | e d c z i off => obtain ⟨a, len, cap, h1, rfl⟩ := h; rfl
theorem RepFp.keep {cs : List PV} {v : Value} (h : RepFp w Fz cs v) (hF : ∀ b, Fz b → Fz' b) (hwF : ∀ b, Fz b → w'.heap[b]? = w.heap[b]?) : RepFp w' Fz' cs v := by
  obtain ⟨ad, vs, h1, h2, h3, h4, h5, h6⟩ := h
  refine ⟨ad, vs, h1, h2, fun hc => hF _ (h3 hc), h4, ?_, fun j c x hc hx => (h6 j c x hc hx).keep hF hwF⟩
  intro j v hj
  have hc : cs ≠ [] := fun e => by subst e; simp at h4; subst h4; simp at hj
  exact h5.keep (hwF _ (h3 hc)) j v hj
theorem RepCaps.keep : ∀ {caps : List AV} {cvs : List Value}, RepCaps vals w Fz S K t caps cvs → (∀ b, Fz b → Fz' b) → (∀ b, Fz b → w'.heap[b]? = w.heap[b]?) →
    (∀ h, (AV.clo 0 caps).on h = true → Held vals vals' w w' Fz Fz' S S' false false h) → RepCaps vals' w' Fz' S' K t caps cvs
  | [], [], _, _, _, _ => trivial
  | .w c :: r, v :: vs, ⟨h1, h2, h3⟩, hF, hw, hh => ⟨h1.keep hF (fun b hb => hb.elim (hw b) fun h => h.elim) fun _ h => h, h2, RepCaps.keep h3 hF hw fun h hr => hh h (by simpa [AV.on] using hr)⟩
  | .a cs :: r, v :: vs, ⟨⟨us, h0, h1⟩, h2, h3⟩, hF, hw, hh => ⟨⟨us, h0, h1.keep hF (fun b hb => hb.elim (hw b) fun h => h.elim) fun _ h => h⟩, h2, RepCaps.keep h3 hF hw fun h hr => hh h (by simpa [AV.on] using hr)⟩
  | .ptr (.b d off) :: r, v :: vs, ⟨⟨ad, h0, h1⟩, h2, h3⟩, hF, hw, hh =>
    ⟨⟨ad, h0.keep hF hw (hh d (by simp [AV.on, Pl.holder])) (fun h => by simp [Pl.deep] at h), h1⟩, h2, RepCaps.keep h3 hF hw fun h hr => hh h (by simp only [AV.on, List.any_cons, Bool.or_eq_true] at hr ⊢; exact .inr hr)⟩
  | [], _ :: _, h, _, _, _ => by simp [RepCaps] at h
  | .w _ :: _, [], h, _, _, _ => by simp [RepCaps] at h
  | .a _ :: _, [], h, _, _, _ => by simp [RepCaps] at h
  | .ptr (.b _ _) :: _, [], h, _, _, _ => by simp [RepCaps] at h
  | .ptr (.r _) :: _, _, h, _, _, _ => by simp [RepCaps] at h
  | .ptr (.e _ _ _ _ _) :: _, _, h, _, _, _ => by simp [RepCaps] at h
  | .u :: _, _, h, _, _, _ => by simp [RepCaps] at h
  | .t _ :: _, _, h, _, _, _ => by simp [RepCaps] at h
  | .box _ :: _, _, h, _, _, _ => by simp [RepCaps] at h
  | .fp cs :: r, v :: vs, ⟨h1, h3⟩, hF, hw, hh => ⟨h1.keep hF hw, RepCaps.keep h3 hF hw fun h hr => hh h (by simpa [AV.on] using hr)⟩
  | .fp _ :: _, [], h, _, _, _ => by simp [RepCaps] at h
  | .al _ _ _ :: _, _, h, _, _, _ => by simp [RepCaps] at h
  | .sv _ _ _ _ :: _, _, h, _, _, _ => by simp [RepCaps] at h
  | .clo _ _ :: _, _, h, _, _, _ => by simp [RepCaps] at h
  | .mp _ :: _, _, h, _, _, _ => by simp [RepCaps] at h
  | .it _ _ :: _, _, h, _, _, _ => by simp [RepCaps] at h
  | .ln _ :: _, _, h, _, _, _ => by simp [RepCaps] at h
theorem RepA.keep {av : AV} {v : Value} (h : RepA vals w Fz S K t av v) (hF : ∀ b, Fz b → Fz' b) (hw : ∀ b, Fz b ∨ S t b → w'.heap[b]? = w.heap[b]?) (hS : ∀ b, S t b → S' t b)
    (hh : ∀ h, av.on h = true → Held vals vals' w w' Fz Fz' S S' (av.onMem h) (av.onEl h) h) : RepA vals' w' Fz' S' K t av v := by
  have hwF : ∀ b, Fz b → w'.heap[b]? = w.heap[b]? := fun b hb => hw b (.inl hb)
  have self : ∀ pl : Pl, (pl.holder == pl.holder) = true := fun pl => by simp
  cases av with
  | u => trivial
  | w c => exact RepO.keep h hF hw hS
  | a cs => obtain ⟨vs, h1, h2⟩ := h; exact ⟨vs, h1, h2.keep hF hw hS⟩
  | t l => obtain ⟨us, h1, h2⟩ := h; exact ⟨us, h1, h2.keep hF hw hS⟩
  | box cs =>
    obtain ⟨b, vs, h1, h2, h3, h4, T1, h5, h6, h7⟩ := h
    exact ⟨b, vs, h1, hS b h2, h3.keep (hw b (.inr h2)), h4.keep (hw b (.inr h2)), T1, h5.keep hF (fun b hb => hw b (hb.imp id (h6 b))) (fun _ h => h), fun b hb => hS b (h6 b hb), h7⟩
  | ptr pl =>
    obtain ⟨⟨ad, h1, h2⟩, h3⟩ := h
    have hp := hh pl.holder (self pl)
    refine ⟨⟨ad, h1.keep hF hwF hp (fun hm => ?_), h2⟩, h3⟩
    cases pl with
    | r d => simp [Pl.deep] at hm
    | b d off => simp [Pl.deep] at hm
    | e d c z i off => cases c <;> simp [AV.onMem, AV.onEl, Pl.isEl, Pl.holder, Pl.deep] at hm ⊢
  | fp cs =>
    obtain ⟨ad, vs, h1, h2, h3, h4, h5, h6⟩ := h
    refine ⟨ad, vs, h1, h2, fun hc => hF _ (h3 hc), h4, ?_, fun j c x hc hx => (h6 j c x hc hx).keep hF hwF⟩
    intro j v hj
    have hc : cs ≠ [] := fun e => by subst e; simp at h4; subst h4; simp at hj
    exact h5.keep (hwF _ (h3 hc)) j v hj
  | al pl n ag =>
    have hp := hh pl.holder (self pl)
    cases pl with
    | r d => exact ⟨h.1.trans hp.val.symm, h.2⟩
    | b d off =>
      obtain ⟨⟨vs, ⟨ad, h1, h2, h3⟩, h4⟩, h5⟩ := h
      have hp' : Held vals vals' w w' Fz Fz' S S' true ((AV.al (.b d off) n ag).onEl d) d := by simpa [AV.onMem, Pl.holder] using hp
      exact ⟨⟨vs, ⟨ad, PlAddr.keepM h1 hF hwF hp' (fun q => by simp [Pl.deep] at q), h2, h3.keep (h1.2.elim (hp'.mem rfl _) (hwF _))⟩, h4⟩, h5⟩
    | e d c z i off =>
      obtain ⟨⟨vs, ⟨ad, h1, h2, h3⟩, h4⟩, h5⟩ := h
      have hp' : Held vals vals' w w' Fz Fz' S S' true ((AV.al (.e d c z i off) n ag).onEl d) d := by simpa [AV.onMem, Pl.holder] using hp
      exact ⟨⟨vs, ⟨ad, PlAddr.keepM h1 hF hwF hp' (fun q => by cases c <;> simp [Pl.deep, AV.onEl, Pl.isEl] at q ⊢), h2, h3.keep (h1.2.elim (hp'.mem rfl _) (hwF _))⟩, h4⟩, h5⟩
  | sv pl z lo hi =>
    have hp := hh pl.holder (self pl)
    obtain ⟨⟨a, len, cap, h1, h2⟩, h5⟩ := h
    refine ⟨⟨a, len, cap, ?_, h2⟩, h5⟩
    cases pl with
    | r d => exact hp.val.trans h1
    | b d off =>
      obtain ⟨ad, h1, h3⟩ := h1
      have hp' : Held vals vals' w w' Fz Fz' S S' true ((AV.sv (.b d off) z lo hi).onEl d) d := by simpa [AV.onMem, Pl.holder] using hp
      exact ⟨ad, PlAddr.keepM h1 hF hwF hp' (fun q => by simp [Pl.deep] at q), (World.cell?_of_block (w := w) (h1.2.elim (hp'.mem rfl _) (hwF _))).trans h3⟩
    | e d c z' i off =>
      obtain ⟨ad, h1, h3⟩ := h1
      have hp' : Held vals vals' w w' Fz Fz' S S' true ((AV.sv (.e d c z' i off) z lo hi).onEl d) d := by simpa [AV.onMem, Pl.holder] using hp
      exact ⟨ad, PlAddr.keepM h1 hF hwF hp' (fun q => by cases c <;> simp [Pl.deep, AV.onEl, Pl.isEl] at q ⊢), (World.cell?_of_block (w := w) (h1.2.elim (hp'.mem rfl _) (hwF _))).trans h3⟩
  | clo f caps =>
    obtain ⟨cvs, h1, h2⟩ := h
    refine ⟨cvs, h1, h2.keep hF hwF fun h hr => ?_⟩
    have := hh h hr
    exact this
  | mp kvs => exact RepMap.keep h hF hw hS
  | it s pos => obtain ⟨r, h1, h2, h3⟩ := h; exact ⟨r, h1, hS r h2, (hw r (.inr h2)).trans h3⟩
  | ln n => exact h
end
end Go.Pv
end

section
namespace Go.Pv
open Go.RowKit
set_option linter.unusedVariables false
theorem flatten_at {α : Type} {z : Nat} : ∀ {els : List (List α)} {i : Nat} {e : List α}, (∀ e ∈ els, e.length = z) → els[i]? = some e →
    els.flatten = (els.take i).flatten ++ e ++ (els.drop (i + 1)).flatten ∧ (els.take i).flatten.length = i * z
  | [], i, e, _, h => by simp at h
  | x :: els, 0, e, hl, h => by simp at h; subst h; simp
  | x :: els, i + 1, e, hl, h => by
    have ih := flatten_at (els := els) (i := i) (e := e) (fun e he => hl e (by simp [he])) (by simpa using h)
    have hx := hl x (by simp)
    refine ⟨?_, ?_⟩
    · rw [List.flatten_cons, ih.1]; simp
    · simp only [List.take_succ_cons, List.flatten_cons, List.length_append, ih.2, hx, Nat.add_mul]; omega
theorem flatten_set {α : Type} : ∀ {els : List (List α)} {i : Nat} {e e' : List α}, els[i]? = some e →
    (els.set i e').flatten = (els.take i).flatten ++ e' ++ (els.drop (i + 1)).flatten
  | [], i, e, e', h => by simp at h
  | x :: els, 0, e, e', h => by simp
  | x :: els, i + 1, e, e', h => by
    have ih := flatten_set (els := els) (i := i) (e := e) (e' := e') (by simpa using h)
    simp [ih]
theorem cellsAt_split {cs r : List OV} {off n : Nat} (h : cellsAt cs off n = some r) : cs = cs.take off ++ r ++ cs.drop (off + n) ∧ r.length = n ∧ (cs.take off).length = off := by
  unfold cellsAt at h
  split at h
  · rename_i hle
    simp only [Option.some.injEq] at h
    subst h
    refine ⟨?_, by simp; omega, by simp; omega⟩
    rw [List.append_assoc, ← List.drop_drop, List.take_append_drop, List.take_append_drop]
  · simp at h
theorem cellsPut_eq {cs r new : List OV} {off : Nat} (h : cellsPut cs off new = some r) : r = cs.take off ++ new ++ cs.drop (off + new.length) ∧ off + new.length ≤ cs.length := by
  unfold cellsPut at h
  split at h
  · rename_i hle
    simp only [Option.some.injEq] at h
    exact ⟨h.symm, hle⟩
  · simp at h
theorem getElem?_mid {α : Type} (A B C : List α) (j : Nat) : (A ++ B ++ C)[j]? = if j < A.length then A[j]? else if j < A.length + B.length then B[j - A.length]? else C[j - A.length - B.length]? := by
  rw [List.append_assoc]
  split
  · rw [List.getElem?_append_left (by omega)]
  · rw [List.getElem?_append_right (by omega)]
    split
    · rw [List.getElem?_append_left (by omega)]
    · rw [List.getElem?_append_right (by omega)]
section
variable {w w' : World} {Fz Fz' : BSet}
structure Upd (w w' : World) (b off : Nat) (vs : List Value) : Prop where
  cell : ∀ o, w'.cell? ⟨b, o, none⟩ = if off ≤ o ∧ o < off + vs.length then vs[o - off]? else w.cell? ⟨b, o, none⟩
  row : ∀ n, Row w b n → Row w' b n
  unm : Unm w b → Unm w' b
theorem Upd.rowZ {w w' : World} {b off z n : Nat} {vs : List Value} (h : Upd w w' b off vs) (k : RowZ z w b n) : RowZ z w' b n := ⟨h.row n k.1, k.2.imp id h.unm⟩
theorem Upd.same {b off : Nat} {vs : List Value} (h : CellsAt w b off vs) : Upd w w b off vs := by
  refine ⟨fun o => ?_, fun n h => h, fun h => h⟩
  split
  · rename_i ho
    have : o - off < vs.length := by omega
    have e := h (o - off) vs[o - off] (by simp [this])
    rw [show off + (o - off) = o by omega] at e
    rw [e, List.getElem?_eq_getElem this]
  · rfl
theorem Upd.cells {b off o : Nat} {vs VA VB old : List Value} (h : Upd w w' b off vs) (hc : CellsAt w b o (VA ++ old ++ VB)) (ho : off = o + VA.length) (hl : vs.length = old.length) : CellsAt w' b o (VA ++ vs ++ VB) := by
  intro j v hj
  rw [h.cell]
  rw [getElem?_mid] at hj
  have hc' := hc j v
  rw [getElem?_mid] at hc'
  split at hj
  · rename_i h1
    rw [if_neg (by omega)]
    rw [if_pos h1] at hc'
    exact hc' hj
  · rename_i h1
    split at hj
    · rename_i h2
      rw [if_pos (by omega), ← hj]
      congr 1
      omega
    · rename_i h2
      rw [if_neg (by omega)]
      rw [if_neg h1, if_neg (by omega), ← hl] at hc'
      exact hc' hj
theorem Row.le {b m n : Nat} (h : Row w b m) (hn : n ≤ m) : Row w b n := by
  obtain ⟨cur, e, fz, h1, h2, h3⟩ := h
  exact ⟨cur, e, fz, h1, by omega, h3⟩
theorem own_focus {z i off n : Nat} {els : List (List OV)} {x : Value} {T : BSet} {e cs : List OV} (h : RepO w Fz (.own z els) x T) (hi : els[i]? = some e) (hg : cellsAt e off n = some cs) :
    ∃ (a : Addr) (len cap : Nat) (vs : List Value) (T1 T2 : BSet), x = .slice (some a) len cap ∧ vs.length = n ∧ CellsAt w a.block (a.off + i * z + off) vs ∧ RepL w Fz cs vs T1 ∧ (∀ b, T1 b → T b) ∧ (∀ b, T2 b → T b) ∧ (∀ b, T1 b → ¬ T2 b) ∧ (T2 a.block ∧ Row w a.block (a.off + i * z + off + n)) ∧
      ∀ (w' : World) (Fz' : BSet) (new : List OV) (vs' : List Value) (Tn T' : BSet) (e' : List OV), cellsPut e off new = some e' → new.length = n → RepL w' Fz' new vs' Tn → (∀ b, Tn b → ¬ T2 b) → (∀ b, Fz b → Fz' b) →
        (∀ b, T2 b ∨ Fz b → b ≠ a.block → w'.heap[b]? = w.heap[b]?) → Upd w w' a.block (a.off + i * z + off) vs' → ¬ Fz a.block → (∀ b, T2 b ∨ Tn b → T' b) → RepO w' Fz' (.own z (els.set i e')) x T' := by
  rcases repO_own.1 h with ⟨rfl, _⟩ | ⟨a, cap, vs, T1, rfl, ht, hs, hz, hl, hcap, hrow, hc, hL, h1, h2⟩
  · simp at hi
  obtain ⟨f1, f2⟩ := flatten_at hl hi
  obtain ⟨g1, g2, g3⟩ := cellsAt_split hg
  rw [f1, g1] at hL
  have hL' : RepL w Fz (((els.take i).flatten ++ e.take off) ++ (cs ++ (e.drop (off + n) ++ (els.drop (i + 1)).flatten))) vs T1 := by simpa [List.append_assoc] using hL
  obtain ⟨VA, V2, U1, U2, rfl, hA, hL2, k1, k2, k3⟩ := hL'.split
  obtain ⟨VC, VB, U3, U4, rfl, hC, hB, m1, m2, m3⟩ := hL2.split
  have lA := hA.length
  rw [List.length_append, f2, g3] at lA
  have lC := hC.length
  have hci : i < els.length := (List.getElem?_eq_some_iff.1 hi).1
  refine ⟨a, els.length, cap, VC, U3, fun b => U1 b ∨ U4 b ∨ b = a.block, rfl, by omega, ?_, hC, fun b hb => h1 b (k2 b (m1 b hb)), ?_, ?_, ⟨.inr (.inr rfl), hrow.1.le (by
      have he := hl e (List.mem_of_getElem? hi)
      have hle : off + n ≤ e.length := by unfold cellsAt at hg; split at hg; assumption; simp at hg
      have h3 : (i + 1) * z ≤ cap * z := Nat.mul_le_mul_right _ (by omega)
      rw [Nat.add_mul] at h3
      omega)⟩, ?_⟩
  · intro j v hj
    have := hc (VA.length + j) v (by rw [List.getElem?_append_right (by omega), show VA.length + j - VA.length = j by omega, List.getElem?_append_left (by have := (List.getElem?_eq_some_iff.1 hj).1; omega)]; exact hj)
    rw [lA] at this
    rw [show a.off + i * z + off + j = a.off + (i * z + off + j) by omega]
    exact this
  · rintro b (hb | hb | rfl)
    · exact h1 b (k1 b hb)
    · exact h1 b (k2 b (m2 b hb))
    · exact ht
  · rintro b hb (k | k | rfl)
    · exact k3 b k (m1 b hb)
    · exact m3 b hb k
    · exact h2 (k2 _ (m1 _ hb))
  · intro w' Fz' new vs' Tn T' e' hput hnew hN hd hF hw hU hnf hT'
    obtain ⟨p1, p2⟩ := cellsPut_eq hput
    have lN := hN.length
    have keep : ∀ {cs : List OV} {vs : List Value} {U : BSet}, RepL w Fz cs vs U → (∀ b, U b → (U1 b ∨ U4 b)) → RepL w' Fz' cs vs U := by
      intro cs vs U hU1 hU2
      refine hU1.keep hF (fun b hb => hw b ?_ ?_) fun _ h => h
      · rcases hb with hb | hb
        · exact .inr hb
        · rcases hU2 b hb with q | q
          · exact .inl (.inl q)
          · exact .inl (.inr (.inl q))
      · rintro rfl
        rcases hb with hb | hb
        · exact hnf hb
        · rcases hU2 _ hb with q | q
          · exact h2 (k1 _ q)
          · exact h2 (k2 _ (m2 _ q))
    have hA' := keep hA fun b hb => .inl hb
    have hB' := keep hB fun b hb => .inr hb
    refine repO_own.2 (.inr ⟨a, cap, VA ++ vs' ++ VB, fun b => (U1 b ∨ U4 b) ∨ Tn b, by simp, hT' _ (.inl (.inr (.inr rfl))), hs, hz, ?_, by simpa using hcap, hU.rowZ hrow, ?_, ?_, ?_, ?_⟩)
    · intro y hy
      rcases List.mem_or_eq_of_mem_set hy with hy | rfl
      · exact hl y hy
      · rw [p1]
        have := hl e (List.mem_of_getElem? hi)
        simp
        omega
    · refine hU.cells (old := VC) (by simpa [List.append_assoc] using hc) (by omega) (by omega)
    · rw [flatten_set hi, p1]
      have hN' : RepL w' Fz' (new ++ (e.drop (off + n) ++ (els.drop (i + 1)).flatten)) (vs' ++ VB) (fun b => Tn b ∨ U4 b) :=
        hN.append hB' (fun b h => .inl h) (fun b h => .inr h) (fun b h k => hd b h (.inr (.inl k)))
      have := hA'.append hN' (T := fun b => (U1 b ∨ U4 b) ∨ Tn b) (fun b h => .inl (.inl h)) (fun b h => h.elim .inr fun h => .inl (.inr h)) (fun b h k => k.elim (fun k => hd b k (.inl h)) fun k => k3 b h (m2 b k))
      simpa [List.append_assoc, hnew] using this
    · rintro b ((hb | hb) | hb)
      · exact hT' b (.inl (.inl hb))
      · exact hT' b (.inl (.inr (.inl hb)))
      · exact hT' b (.inr hb)
    · rintro ((hb | hb) | hb)
      · exact h2 (k1 _ hb)
      · exact h2 (k2 _ (m2 _ hb))
      · exact hd _ hb (.inr (.inr rfl))
theorem list_split {α : Type} {l : List α} {k : Nat} {x : α} (h : l[k]? = some x) : l = l.take k ++ x :: l.drop (k + 1) ∧ (l.take k).length = k := by
  have hk := (List.getElem?_eq_some_iff.1 h).1
  have hx := (List.getElem?_eq_some_iff.1 h).2
  refine ⟨?_, by simp; omega⟩
  conv => lhs; rw [← List.take_append_drop k l]
  rw [List.drop_eq_getElem_cons hk, hx]
theorem list_set_split {α : Type} {l : List α} {k : Nat} {x y : α} (h : l[k]? = some x) : l.set k y = l.take k ++ y :: l.drop (k + 1) := by
  have hk := (List.getElem?_eq_some_iff.1 h).1
  rw [List.set_eq_take_append_cons_drop, if_pos hk]
variable {vals vals' : Nat → Value} {S : Nat → BSet} {K K' : Kills} {d : Nat}
theorem focus {A : AV} {pl : Pl} {n : Nat} {cs : List OV} (hA : RepA vals w Fz S K d A (vals d)) (hd : pl.holder = d) (hr : ∀ x, pl ≠ .r x) (hg : getIn A pl n = some cs) :
    ∃ (ad : Addr) (vs : List Value) (T1 T2 : BSet), PlAddr vals w Fz S pl ad ∧ vs.length = n ∧ CellsAt w ad.block ad.off vs ∧ RepL w Fz cs vs T1 ∧ (∀ b, T1 b → S d b) ∧ (∀ b, T2 b → S d b) ∧ (∀ b, T1 b → ¬ T2 b) ∧ (T2 ad.block ∧ Row w ad.block (ad.off + n)) ∧
      ((∀ b, vals d = .pointer (some ⟨b, 0, none⟩) → T2 b) ∧ ∀ a len cap, vals d = .slice (some a) len cap → T2 a.block) ∧
      ∀ (w' : World) (Fz' : BSet) (S' : Nat → BSet) (new : List OV) (vs' : List Value) (Tn : BSet) (A' : AV), putIn A pl new = some A' → new.length = n → RepL w' Fz' new vs' Tn → (∀ b, Tn b → ¬ T2 b) → (∀ b, Fz b → Fz' b) →
        (∀ b, T2 b ∨ Fz b → b ≠ ad.block → w'.heap[b]? = w.heap[b]?) → Upd w w' ad.block ad.off vs' → ¬ Fz ad.block → (∀ b, T2 b ∨ Tn b → S' d b) → RepA vals' w' Fz' S' K' d A' (vals d) := by
  cases pl with
  | r x => exact absurd rfl (hr x)
  | b d' off =>
    simp only [Pl.holder] at hd
    subst hd
    cases A <;> simp only [getIn, reduceCtorEq] at hg
    rename_i cs0
    obtain ⟨b, vs0, h1, h2, h3, h4, T0, h5, h6, h7⟩ := hA
    obtain ⟨g1, g2, g3⟩ := cellsAt_split hg
    rw [g1] at h5
    have hL' : RepL w Fz (cs0.take off ++ (cs ++ cs0.drop (off + n))) vs0 T0 := by simpa [List.append_assoc] using h5
    obtain ⟨VA, V2, U1, U2, rfl, hA, hL2, k1, k2, k3⟩ := hL'.split
    obtain ⟨VC, VB, U3, U4, rfl, hC, hB, m1, m2, m3⟩ := hL2.split
    have lA := hA.length
    have lC := hC.length
    refine ⟨⟨b, off, none⟩, VC, U3, fun b' => U1 b' ∨ U4 b' ∨ b' = b, ⟨b, h1, rfl⟩, by omega, ?_, hC, fun b' hb => h6 b' (k2 b' (m1 b' hb)), ?_, ?_, ⟨.inr (.inr rfl), h3.le (by unfold cellsAt at hg; split at hg; assumption; simp at hg)⟩, ⟨fun b' e => .inr (.inr (by rw [h1] at e; simp at e; exact e.symm)), fun a len cap e => by rw [h1] at e; simp at e⟩, ?_⟩
    · intro j v hj
      have := h4 (VA.length + j) v (by rw [List.getElem?_append_right (by omega), show VA.length + j - VA.length = j by omega, List.getElem?_append_left (by have := (List.getElem?_eq_some_iff.1 hj).1; omega)]; exact hj)
      rw [lA, g3] at this
      simpa using this
    · rintro b' (hb | hb | rfl)
      · exact h6 b' (k1 b' hb)
      · exact h6 b' (k2 b' (m2 b' hb))
      · exact h2
    · rintro b' hb (k | k | rfl)
      · exact k3 b' k (m1 b' hb)
      · exact m3 b' hb k
      · exact h7 (k2 _ (m1 _ hb))
    · intro w' Fz' S' new vs' Tn A' hput hnew hN hdj hF hw hU hnf hT'
      simp only [putIn, Option.map_eq_some_iff] at hput
      obtain ⟨r, hr', rfl⟩ := hput
      obtain ⟨p1, p2⟩ := cellsPut_eq hr'
      have lN := hN.length
      have keep : ∀ {cs : List OV} {vs : List Value} {U : BSet}, RepL w Fz cs vs U → (∀ b, U b → (U1 b ∨ U4 b)) → RepL w' Fz' cs vs U := by
        intro cs vs U hU1 hU2
        refine hU1.keep hF (fun b' hb => hw b' ?_ ?_) fun _ h => h
        · rcases hb with hb | hb
          · exact .inr hb
          · rcases hU2 b' hb with q | q
            · exact .inl (.inl q)
            · exact .inl (.inr (.inl q))
        · rintro rfl
          rcases hb with hb | hb
          · exact hnf hb
          · rcases hU2 _ hb with q | q
            · exact h7 (k1 _ q)
            · exact h7 (k2 _ (m2 _ q))
      have hA' := keep hA fun b hb => .inl hb
      have hB' := keep hB fun b hb => .inr hb
      have hlen : r.length = cs0.length := by rw [p1]; simp; omega
      refine ⟨b, VA ++ vs' ++ VB, h1, hT' _ (.inl (.inr (.inr rfl))), by rw [hlen]; exact hU.row _ h3, ?_, fun b => (U1 b ∨ U4 b) ∨ Tn b, ?_, ?_, ?_⟩
      · refine hU.cells (old := VC) (by simpa [List.append_assoc] using h4) (by simp; omega) (by omega)
      · rw [p1]
        have hN' : RepL w' Fz' (new ++ cs0.drop (off + n)) (vs' ++ VB) (fun b => Tn b ∨ U4 b) :=
          hN.append hB' (fun b h => .inl h) (fun b h => .inr h) (fun b h k => hdj b h (.inr (.inl k)))
        have := hA'.append hN' (T := fun b => (U1 b ∨ U4 b) ∨ Tn b) (fun b h => .inl (.inl h)) (fun b h => h.elim .inr fun h => .inl (.inr h)) (fun b h k => k.elim (fun k => hdj b k (.inl h)) fun k => k3 b h (m2 b k))
        simpa [List.append_assoc, hnew] using this
      · rintro b' ((hb | hb) | hb)
        · exact hT' b' (.inl (.inl hb))
        · exact hT' b' (.inl (.inr (.inl hb)))
        · exact hT' b' (.inr hb)
      · rintro ((hb | hb) | hb)
        · exact h7 (k1 _ hb)
        · exact h7 (k2 _ (m2 _ hb))
        · exact hdj _ hb (.inr (.inr rfl))
  | e d' c z i off =>
    simp only [Pl.holder] at hd
    subst hd
    simp only [getIn] at hg
    cases hs : slot A c with
    | none => rw [hs] at hg; simp at hg
    | some o =>
      rw [hs] at hg
      cases o with
      | p v => simp at hg
      | hole => simp at hg
      | own z' els =>
        simp only at hg
        split at hg
        case isFalse => simp at hg
        rename_i hz
        subst hz
        rw [Option.bind_eq_some_iff] at hg
        obtain ⟨e, hi, hg⟩ := hg
        cases c with
        | none =>
          cases A <;> simp only [slot, reduceCtorEq, Option.some.injEq] at hs
          subst hs
          obtain ⟨a, len, cap, vs, T1, T2, hx, hl, hc, hL, i1, i2, i3, i4, upd⟩ := own_focus hA hi hg
          refine ⟨⟨a.block, a.off + i * z' + off, none⟩, vs, T1, T2, ⟨a, len, cap, hx, rfl⟩, hl, hc, hL, i1, i2, i3, i4, ⟨fun b' e => by rw [hx] at e; simp at e, fun a' len' cap' e => by rw [hx] at e; simp at e; rw [← e.1]; exact i4.1⟩, ?_⟩
          intro w' Fz' S' new vs' Tn A' hput hnew hN hdj hF hw hU hnf hT'
          simp only [putIn, slot, if_true, hi, Option.bind_eq_some_iff] at hput
          obtain ⟨e', he', hput⟩ := hput
          simp only [Option.some.injEq] at hput
          subst hput
          exact upd w' Fz' new vs' Tn (S' d') e' he' hnew hN hdj hF hw hU hnf hT'
        | some k =>
          cases A <;> simp only [slot, reduceCtorEq] at hs
          rename_i cs0
          obtain ⟨b, vs0, h1, h2, h3, h4, T0, h5, h6, h7⟩ := hA
          obtain ⟨s1, s2⟩ := list_split hs
          rw [s1] at h5
          obtain ⟨VA, V2, U1, U2, rfl, hA, hL2, k1, k2, k3⟩ := h5.split
          have lA := hA.length
          cases V2 with
          | nil => exact hL2.elim
          | cons x VB =>
            obtain ⟨U3, U4, hC, hB, m1, m2, m3⟩ := hL2
            obtain ⟨a, len, cap, vs, T1, T2, hx, hl, hc, hL, i1, i2, i3, i4, upd⟩ := own_focus hC hi hg
            have hxc : w.cell? ⟨b, k, none⟩ = some x := by
              have := h4 k x (by rw [List.getElem?_append_right (by omega), show k - VA.length = 0 by omega]; rfl)
              simpa using this
            refine ⟨⟨a.block, a.off + i * z' + off, none⟩, vs, T1, fun b' => T2 b' ∨ U1 b' ∨ U4 b' ∨ b' = b, ⟨a, len, cap, ⟨b, h1, .inl h2, hx ▸ hxc⟩, rfl⟩, hl, hc, hL,
              fun b' hb => h6 b' (k2 b' (m1 b' (i1 b' hb))), ?_, ?_, ⟨.inl i4.1, i4.2⟩, ⟨fun b' e => .inr (.inr (.inr (by rw [h1] at e; simp at e; exact e.symm))), fun a len cap e => by rw [h1] at e; simp at e⟩, ?_⟩
            · rintro b' (hb | hb | hb | rfl)
              · exact h6 b' (k2 b' (m1 b' (i2 b' hb)))
              · exact h6 b' (k1 b' hb)
              · exact h6 b' (k2 b' (m2 b' hb))
              · exact h2
            · rintro b' hb (k' | k' | k' | rfl)
              · exact i3 b' hb k'
              · exact k3 b' k' (m1 b' (i1 b' hb))
              · exact m3 b' (i1 b' hb) k'
              · exact h7 (k2 _ (m1 _ (i1 _ hb)))
            · intro w' Fz' S' new vs' Tn A' hput hnew hN hdj hF hw hU hnf hT'
              simp only [putIn, slot, hs, if_true, hi, Option.bind_eq_some_iff] at hput
              obtain ⟨e', he', hput⟩ := hput
              simp only [Option.some.injEq] at hput
              subst hput
              have hab : a.block ≠ b := fun e => h7 (e ▸ k2 _ (m1 _ (i2 _ i4.1)))
              have hO := upd w' Fz' new vs' Tn (fun b' => T2 b' ∨ Tn b') e' he' hnew hN (fun b' hb k' => hdj b' hb (.inl k')) hF (fun b' hb => hw b' (hb.imp .inl id)) hU hnf (fun b' hb => hb)
              have keep : ∀ {cs : List OV} {vs : List Value} {U : BSet}, RepL w Fz cs vs U → (∀ b, U b → (U1 b ∨ U4 b)) → RepL w' Fz' cs vs U := by
                intro cs vs U hU1 hU2
                refine hU1.keep hF (fun b' hb => hw b' ?_ ?_) fun _ h => h
                · rcases hb with hb | hb
                  · exact .inr hb
                  · rcases hU2 b' hb with q | q
                    · exact .inl (.inr (.inl q))
                    · exact .inl (.inr (.inr (.inl q)))
                · rintro rfl
                  rcases hb with hb | hb
                  · exact hnf hb
                  · rcases hU2 _ hb with q | q
                    · exact k3 _ q (m1 _ (i2 _ i4.1))
                    · exact m3 _ (i2 _ i4.1) q
              have hA' := keep hA fun b hb => .inl hb
              have hB' := keep hB fun b hb => .inr hb
              have hbb : w'.heap[b]? = w.heap[b]? := hw b (.inl (.inr (.inr (.inr rfl)))) hab.symm
              refine ⟨b, VA ++ x :: VB, h1, hT' _ (.inl (.inr (.inr (.inr rfl)))), by rw [List.length_set]; exact h3.keep hbb, h4.keep hbb, fun b' => (U1 b' ∨ U4 b') ∨ (T2 b' ∨ Tn b'), ?_, ?_, ?_⟩
              · rw [list_set_split hs]
                refine hA'.append (T2 := fun b' => U4 b' ∨ (T2 b' ∨ Tn b')) ⟨fun b' => T2 b' ∨ Tn b', U4, hO, hB', fun b' h => .inr h, fun b' h => .inl h, ?_⟩ (fun b h => .inl (.inl h)) (fun b h => h.elim (fun h => .inl (.inr h)) .inr) ?_
                · rintro b' (h | h) k'
                  · exact m3 b' (i2 b' h) k'
                  · exact hdj b' h (.inr (.inr (.inl k')))
                · rintro b' h (k' | k' | k')
                  · exact k3 b' h (m2 b' k')
                  · exact k3 b' h (m1 b' (i2 b' k'))
                  · exact hdj b' k' (.inr (.inl h))
              · rintro b' ((hb | hb) | hb | hb)
                · exact hT' b' (.inl (.inr (.inl hb)))
                · exact hT' b' (.inl (.inr (.inr (.inl hb))))
                · exact hT' b' (.inl (.inl hb))
                · exact hT' b' (.inr hb)
              · rintro ((hb | hb) | hb | hb)
                · exact h7 (k1 _ hb)
                · exact h7 (k2 _ (m2 _ hb))
                · exact h7 (k2 _ (m1 _ (i2 _ hb)))
                · exact hdj _ hb (.inr (.inr (.inr rfl)))
end
end Go.Pv
end

section
namespace Go.Pv
open Go.RowKit
set_option linter.unusedVariables false
namespace Pg
theorem run_bind {α β : Type} (m : Pg α) (f : α → Pg β) (σ : List AV) : (m.bind f).run σ = (m.run σ).bind fun r => (f r.1).run r.2 := by
  induction m generalizing σ with
  | ret x => rfl
  | fail => rfl
  | get t k ih => exact ih _ σ
  | put t v k ih => exact ih _
  | kill c ts k ih => exact ih _
  | getl t k ih => exact ih _ σ
  | pute t v k ih =>
    simp only [Pg.bind, Pg.run]
    split
    · exact ih _
    · rfl
@[simp] theorem run_ret {α : Type} (x : α) (σ : List AV) : (Pg.ret x).run σ = some (x, σ) := rfl
@[simp] theorem run_fail {α : Type} (σ : List AV) : (Pg.fail : Pg α).run σ = none := rfl
@[simp] theorem run_get {α : Type} (t : Nat) (k : AV → Pg α) (σ : List AV) : (Pg.get t k).run σ = (k (σ.getD t .u)).run σ := rfl
@[simp] theorem run_put {α : Type} (t : Nat) (v : AV) (k : Pg α) (σ : List AV) : (Pg.put t v k).run σ = k.run (σ.set t v) := rfl
@[simp] theorem run_opt {α : Type} (o : Option α) (σ : List AV) : (Pg.opt o).run σ = o.map (·, σ) := by cases o <;> rfl
@[simp] theorem run_guard (c : Bool) (σ : List AV) : (Pg.guard c).run σ = if c then some ((), σ) else none := by cases c <;> rfl
theorem bind_some {α β : Type} {m : Pg α} {f : α → Pg β} {σ : List AV} {r : β × List AV} (h : (m.bind f).run σ = some r) : ∃ x σ', m.run σ = some (x, σ') ∧ (f x).run σ' = some r := by
  rw [run_bind, Option.bind_eq_some_iff] at h
  obtain ⟨⟨x, σ'⟩, h1, h2⟩ := h
  exact ⟨x, σ', h1, h2⟩
theorem opt_some {α β : Type} {o : Option α} {f : α → Pg β} {σ : List AV} {r : β × List AV} (h : ((Pg.opt o).bind f).run σ = some r) : ∃ x, o = some x ∧ (f x).run σ = some r := by
  cases o with
  | none => simp [Pg.opt, Pg.bind] at h
  | some x => exact ⟨x, rfl, h⟩
theorem guard_some {β : Type} {c : Bool} {f : Unit → Pg β} {σ : List AV} {r : β × List AV} (h : ((Pg.guard c).bind f).run σ = some r) : c = true ∧ (f ()).run σ = some r := by
  cases c with
  | false => simp [Pg.guard, Pg.bind] at h
  | true => exact ⟨rfl, h⟩
end Pg
theorem getD_set (σ : List AV) (d t : Nat) (v : AV) : (σ.set d v).getD t .u = if t = d then (if d < σ.length then v else .u) else σ.getD t .u := by
  simp only [List.getD_eq_getElem?_getD, List.getElem?_set]
  by_cases h : t = d
  · subst h
    by_cases h2 : t < σ.length
    · simp [h2]
    · simp [h2]
  · rw [if_neg (fun e => h e.symm), if_neg h]
structure Base (I : World → Prop) where
  w0 : World
  F0 : BSet
  T0 : BSet
  O : World
  hI : I O
  hO : O.heap.size ≤ w0.heap.size ∧ ∀ b, b < O.heap.size → w0.heap[b]? = O.heap[b]?
  hT : ∀ b, T0 b → O.heap.size ≤ b
  ds : List Deferred
structure St {I : World → Prop} (B : Base I) (K : Kills) (σ : List AV) (vals : Nat → Value) (w : World) (Fz : BSet) (S : Nat → BSet) : Prop where
  rep : ∀ t, RepA vals w Fz S K t (σ.getD t .u) (vals t)
  dis : ∀ t u b, t ≠ u → S t b → ¬ S u b
  tok : ∀ t b, S t b → b < w.heap.size ∧ ¬ Fz b ∧ (B.T0 b ∨ B.w0.heap.size ≤ b)
  hol : ∀ t h, (σ.getD t .u).on h = true → h < σ.length
  frz : ∀ b, Fz b → b < w.heap.size
  os : w.os = B.w0.os
  tape : w.tape = B.w0.tape
  output : w.output = B.w0.output
  size : B.w0.heap.size ≤ w.heap.size
  old : ∀ b, b < B.w0.heap.size → ¬ B.T0 b → w.heap[b]? = B.w0.heap[b]?
  fz0 : ∀ b, B.F0 b → Fz b
  fz1 : ∀ b, Fz b → B.F0 b ∨ B.T0 b ∨ B.w0.heap.size ≤ b
def mvS (S : Nat → BSet) (h d : Nat) : Nat → BSet := fun t => if t = d then S h else if t = h then fun _ => False else S t
def upd (vals : Nat → Value) (d : Nat) (x : Value) : Nat → Value := fun t => if t = d then x else vals t
def updS (S : Nat → BSet) (d : Nat) (T : BSet) : Nat → BSet := fun t => if t = d then T else S t
section
variable {I : World → Prop} {B : Base I} {K : Kills} {σ σ' σ1 : List AV} {vals vals' : Nat → Value} {w w' : World} {Fz Fz' : BSet} {S S' : Nat → BSet}
theorem St.oldO (h : St B K σ vals w Fz S) : B.O.heap.size ≤ w.heap.size ∧ ∀ b, b < B.O.heap.size → w.heap[b]? = B.O.heap[b]? :=
  ⟨Nat.le_trans B.hO.1 h.size, fun b hb => (h.old b (Nat.lt_of_lt_of_le hb B.hO.1) fun q => absurd (B.hT b q) (by omega)).trans (B.hO.2 b hb)⟩
theorem St.tokO {t b : Nat} (h : St B K σ vals w Fz S) (hb : S t b) : B.O.heap.size ≤ b := by
  rcases (h.tok t b hb).2.2 with q | q
  · exact B.hT b q
  · exact Nat.le_trans B.hO.1 q
theorem killL_len (c : AV → Bool) (ts : List Nat) (σ : List AV) : (killL c ts σ).length = σ.length := by simp [killL]
theorem killL_get (c : AV → Bool) (ts : List Nat) (σ : List AV) (t : Nat) : (killL c ts σ).getD t .u = if ts.contains t && c (σ.getD t .u) then .u else σ.getD t .u := by
  simp only [killL, List.getD_eq_getElem?_getD, List.getElem?_mapIdx]
  cases h : σ[t]? with
  | none => simp
  | some v => simp
theorem kill_run (c : AV → Bool) (l : List Nat) (σ : List AV) : ∃ σ', (killIf c l).run σ = some ((), σ') ∧ σ'.length = σ.length ∧
    ∀ t, (σ'.getD t .u = σ.getD t .u ∧ (t ∈ l → c (σ.getD t .u) = false ∨ σ.getD t .u = .u)) ∨ (t ∈ l ∧ c (σ.getD t .u) = true ∧ σ'.getD t .u = .u) := by
  refine ⟨killL c l σ, rfl, killL_len c l σ, fun t => ?_⟩
  rw [killL_get]
  by_cases hm : t ∈ l
  · cases hc : c (σ.getD t .u) with
    | true => exact .inr ⟨hm, rfl, by simp [hm]⟩
    | false => exact .inl ⟨by simp, fun _ => .inl rfl⟩
  · exact .inl ⟨by simp [hm], fun h => absurd h hm⟩
theorem leans_of_on : ∀ {av : AV} {t d : Nat} {v : Value}, RepA vals w Fz S K t av v → av.on d = true → t ∈ K.getD d [] ∧ t ≠ d := by
  intro av t d v h hon
  have key : ∀ h', Leans K t h' → (h' == d) = true → t ∈ K.getD d [] ∧ t ≠ d := fun h' hl he => by
    rw [beq_iff_eq] at he; subst he
    exact ⟨List.contains_iff_mem.1 hl.1, hl.2⟩
  cases av with
  | ptr pl => exact key _ h.2 hon
  | al pl n ag => cases pl <;> exact key _ h.2 hon
  | sv pl z lo hi => exact key _ h.2 hon
  | clo f caps =>
    obtain ⟨cvs, _, hc⟩ := h
    simp only [AV.on, List.any_eq_true] at hon
    obtain ⟨x, hx, hp⟩ := hon
    have : ∀ {caps : List AV} {cvs : List Value}, RepCaps vals w Fz S K t caps cvs → x ∈ caps → ∀ pl, x = .ptr pl → Leans K t pl.holder := by
      intro caps
      induction caps with
      | nil => intro _ _ h; simp at h
      | cons y r ih =>
        intro cvs hc hm pl hpl
        cases cvs with
        | nil =>
          cases y with
          | ptr pl' => cases pl' <;> simp [RepCaps] at hc
          | _ => simp [RepCaps] at hc
        | cons v vs =>
          rcases List.mem_cons.1 hm with rfl | hm'
          · subst hpl
            cases pl with
            | b d off => exact hc.2.1
            | r d => simp [RepCaps] at hc
            | e d c z i off => simp [RepCaps] at hc
          · cases y with
            | w c => exact ih hc.2.2 hm' pl hpl
            | a cs => exact ih hc.2.2 hm' pl hpl
            | ptr pl' =>
              cases pl' with
              | b d off => exact ih hc.2.2 hm' pl hpl
              | r d => simp [RepCaps] at hc
              | e d c z i off => simp [RepCaps] at hc
            | fp cs => exact ih hc.2 hm' pl hpl
            | _ => simp [RepCaps] at hc
    split at hp
    · rename_i pl
      exact key _ (this hc hx _ rfl) hp
    · simp at hp
  | _ => simp [AV.on] at hon
theorem onMem_on {av : AV} {d : Nat} (h : av.onMem d = true) : av.on d = true := by
  cases av with
  | ptr pl => cases pl with | e d' c z i off => (cases c <;> simp_all [AV.onMem, AV.on, Pl.holder]) | _ => simp [AV.onMem] at h
  | al pl n ag => cases pl <;> simp_all [AV.onMem, AV.on, Pl.holder]
  | sv pl z lo hi => cases pl <;> simp_all [AV.onMem, AV.on, Pl.holder]
  | _ => simp [AV.onMem] at h
theorem St.wr {d : Nat} {v : AV} {x : Value} (h : St B K σ vals w Fz S) (hr : (wr K d v).run σ = some ((), σ')) (hS : ∀ t, t ≠ d → t < σ.length → S' t = S t) (hdis : ∀ t u b, t ≠ u → S' t b → ¬ S' u b)
    (htok : ∀ t b, S' t b → b < w.heap.size ∧ ¬ Fz b ∧ (B.T0 b ∨ B.w0.heap.size ≤ b)) (hv : d < σ.length → RepA (upd vals d x) w Fz S' K d v x) (hh : ∀ h, v.on h = true → h < σ.length) : St B K σ' (upd vals d x) w Fz S' ∧ σ'.length = σ.length := by
  obtain ⟨u, σ1, h1, h2⟩ := Pg.bind_some hr
  obtain ⟨σ1', e1, hl, hk⟩ := kill_run (AV.on d) (K.getD d []) σ
  rw [e1] at h1
  obtain ⟨rfl, rfl⟩ : () = u ∧ σ1' = σ1 := by simpa using h1
  simp only [Pg.run_put, Pg.run_ret, Option.some.injEq, Prod.mk.injEq, true_and] at h2
  subst h2
  refine ⟨⟨fun t => ?_, hdis, htok, fun t h' hon => ?_, h.frz, h.os, h.tape, h.output, h.size, h.old, h.fz0, h.fz1⟩, by simpa using hl⟩
  rotate_left
  · rw [getD_set] at hon
    simp only [List.length_set, hl]
    by_cases ht : t = d
    · rw [if_pos ht] at hon
      split at hon
      · exact hh h' hon
      · simp [AV.on] at hon
    · rw [if_neg ht] at hon
      rcases hk t with ⟨e, _⟩ | ⟨_, _, e⟩
      · rw [e] at hon; exact h.hol t h' hon
      · rw [e] at hon; simp [AV.on] at hon
  rw [getD_set]
  by_cases ht : t = d
  · subst ht
    simp only [if_true, upd]
    split
    · exact hv (by omega)
    · trivial
  · rw [if_neg ht]
    simp only [upd, if_neg ht]
    rcases hk t with ⟨e, hm⟩ | ⟨_, _, e⟩
    · rw [e]
      rcases Nat.lt_or_ge t σ.length with htl | htl
      · have hrep := h.rep t
        have hno : (σ.getD t .u).on d = false := by
          cases hon : (σ.getD t .u).on d with
          | false => rfl
          | true =>
            rcases hm (leans_of_on hrep hon).1 with q | q
            · rw [q] at hon; exact hon.symm
            · rw [q] at hon; simp [AV.on] at hon
        refine hrep.keep (fun _ h => h) (fun _ _ => rfl) (fun b hb => by rw [hS t ht htl]; exact hb) (fun h' hon => ?_)
        have hne : h' ≠ d := fun e => by rw [e, hno] at hon; simp at hon
        refine Held.same _ _ _ (by simp [upd, hne]) (fun b hb => ?_) (fun _ _ => rfl)
        exact .inl (by rw [hS h' hne (h.hol t h' hon)]; exact hb)
      · have : σ.getD t .u = .u := by simp [List.getD_eq_getElem?_getD, List.getElem?_eq_none htl]
        rw [this]
        trivial
    · rw [e]
      trivial
end
end Go.Pv
end

section
namespace Go.Pv
open Go.RowKit
set_option linter.unusedVariables false
theorem addr_add {a : Addr} (hs : a.spot = none) (n : Nat) : a.add n = ⟨a.block, a.off + n, none⟩ := by
  unfold Addr.add
  split
  · rename_i h; subst h; cases a; simp_all
  · rfl
theorem flatten_len {α : Type} {z : Nat} : ∀ {els : List (List α)}, (∀ e ∈ els, e.length = z) → els.flatten.length = els.length * z
  | [], _ => by simp
  | x :: els, h => by
    have ih := flatten_len (els := els) (z := z) fun e he => h e (by simp [he])
    rw [List.flatten_cons, List.length_append, ih, h x (by simp), List.length_cons, Nat.add_mul]; omega
section
variable {w w' : World} {Fz Fz' : BSet}
theorem own_sub {z lo hi : Nat} {els : List (List OV)} {T : BSet} {a : Option Addr} {len cap : Nat} (h : RepO w Fz (.own z els) (.slice a len cap) T) (h1 : lo ≤ hi) (h2 : hi ≤ els.length) :
    RepO w Fz (.own z ((els.take hi).drop lo)) (.slice (if cap = lo then a else a.map (·.add (lo * z))) (hi - lo) (cap - lo)) T := by
  rcases repO_own.1 h with ⟨rfl, a', e⟩ | ⟨a', cap', vs, T1, e, ht, hs, hz, hl, hcap, hrow, hc, hL, i1, i2⟩
  · simp only [Value.slice.injEq] at e
    obtain ⟨rfl, rfl, rfl⟩ := e
    simp at h2
    subst h2
    have : lo = 0 := by omega
    subst this
    exact .nil z _ T
  · simp only [Value.slice.injEq] at e
    obtain ⟨rfl, rfl, rfl⟩ := e
    by_cases hcl : cap = lo
    · rw [if_pos hcl]
      have e1 : hi - lo = 0 := by omega
      have e2 : cap - lo = 0 := by omega
      have e3 : (els.take hi).drop lo = [] := List.drop_eq_nil_of_le (by simp; omega)
      rw [e1, e2, e3]
      exact .nil z _ T
    · rw [if_neg hcl]
      simp only [Option.map_some, addr_add hs]
      have hf : els.flatten = (els.take lo).flatten ++ (((els.take hi).drop lo).flatten ++ (els.drop hi).flatten) := by
        rw [← List.append_assoc, ← List.flatten_append, ← List.flatten_append]
        congr 1
        conv => lhs; rw [← List.take_append_drop hi els]
        congr 1
        conv => lhs; rw [← List.take_append_drop lo (els.take hi)]
        rw [List.take_take, Nat.min_eq_left h1]
      rw [hf] at hL
      obtain ⟨VA, V2, U1, U2, rfl, hA, hL2, k1, k2, k3⟩ := hL.split
      obtain ⟨VC, VB, U3, U4, rfl, hC, hB, m1, m2, m3⟩ := hL2.split
      have lA := hA.length
      rw [flatten_len (z := z) (fun e he => hl e (List.mem_of_mem_take he)), List.length_take, Nat.min_eq_left (by omega)] at lA
      have hlen : ((els.take hi).drop lo).length = hi - lo := by simp; omega
      rw [← hlen]
      refine repO_own.2 (.inr ⟨_, _, VC, U3, rfl, ht, rfl, hz, fun e he => hl e (List.mem_of_mem_take (List.mem_of_mem_drop he)), by omega, ?_, ?_, hC, fun b hb => i1 b (k2 b (m1 b hb)), fun hb => i2 (k2 _ (m1 _ hb))⟩)
      · have : a'.off + lo * z + (cap - lo) * z = a'.off + cap * z := by
          rw [Nat.add_assoc, ← Nat.add_mul]; congr 2; omega
        rw [this]; exact hrow
      · intro j v hj
        have := hc (VA.length + j) v (by rw [List.getElem?_append_right (by omega), show VA.length + j - VA.length = j by omega, List.getElem?_append_left (by have := (List.getElem?_eq_some_iff.1 hj).1; omega)]; exact hj)
        rw [lA] at this
        rw [show a'.off + lo * z + j = a'.off + (lo * z + j) by omega]
        exact this
variable {I : World → Prop} {B : Base I} {K : Kills} {σ σ' σ1 : List AV} {vals vals' : Nat → Value} {S S' : Nat → BSet}
theorem St.kill {c : AV → Bool} {l : List Nat} {u : Unit} (h : St B K σ vals w Fz S) (hr : (killIf c l).run σ = some (u, σ')) : St B K σ' vals w Fz S ∧ σ'.length = σ.length := by
  obtain ⟨σ1, e1, hl, hk⟩ := kill_run c l σ
  rw [e1] at hr
  obtain ⟨_, rfl⟩ : () = u ∧ σ1 = σ' := by simpa using hr
  refine ⟨⟨fun t => ?_, h.dis, h.tok, fun t h' hon => ?_, h.frz, h.os, h.tape, h.output, h.size, h.old, h.fz0, h.fz1⟩, hl⟩
  · rcases hk t with ⟨e, _⟩ | ⟨_, _, e⟩
    · rw [e]; exact h.rep t
    · rw [e]; trivial
  · rcases hk t with ⟨e, _⟩ | ⟨_, _, e⟩
    · rw [e] at hon; rw [hl]; exact h.hol t h' hon
    · rw [e] at hon; simp [AV.on] at hon
def ConstOk (v : AV) (y : Value) : Prop := ∀ (w : World) (Fz : BSet), match v with
  | .w c => RepO w Fz c y (fun _ => False)
  | .a cs => ∃ vs, y = .agg vs.toArray ∧ RepL w Fz cs vs (fun _ => False)
  | .clo f [] => y = .func (.func f) #[] #[]
  | _ => False
def OdIs (vals : Nat → Value) : Od → Value → Prop
  | .t i, y => vals i = y
  | .c v, y => ConstOk v y
def VOk (σ : List AV) (vals : Nat → Value) (w : World) (Fz : BSet) (S : Nat → BSet) (y : Value) (v : Val) : Prop :=
  match v.src with
  | .no => ∃ vs, valIs v.ag y vs ∧ RepL w Fz v.cs vs (fun _ => False)
  | .at_ (.r d) => (σ.getD d .u).cells = some (v.ag, v.cs) ∧ vals d = y
  | .at_ pl => getIn (σ.getD pl.holder .u) pl v.cs.length = some v.cs ∧ ∃ vs, PlVal vals w Fz S pl v.cs.length vs ∧ valIs v.ag y vs
  | .sub (.r d) lo => ∃ z hi els, v.ag = false ∧ v.cs = [.own z ((els.take hi).drop lo)] ∧ lo ≤ hi ∧ hi ≤ els.length ∧ RepSv vals w Fz S (.r d) z lo hi y ∧ σ.getD d .u = .w (.own z els)
  | .sub pl lo => ∃ z hi els, v.ag = false ∧ v.cs = [.own z ((els.take hi).drop lo)] ∧ lo ≤ hi ∧ hi ≤ els.length ∧ RepSv vals w Fz S pl z lo hi y ∧ getIn (σ.getD pl.holder .u) pl 1 = some [.own z els]
theorem subOf_some {z lo hi : Nat} {cs cs' : List OV} (h : subOf z lo hi cs = some cs') : ∃ els, cs = [.own z els] ∧ lo ≤ hi ∧ hi ≤ els.length ∧ cs' = [.own z ((els.take hi).drop lo)] := by
  unfold subOf at h
  split at h
  · rename_i z' els
    split at h
    · rename_i hc
      obtain ⟨rfl, h1, h2⟩ := hc
      simp only [Option.some.injEq] at h
      exact ⟨els, rfl, h1, h2, h.symm⟩
    · simp at h
  · simp at h
theorem getPl_some {α : Type} {pl : Pl} {n : Nat} {f : List OV → Pg α} {r : α × List AV} (h : ((getPl pl n).bind f).run σ = some r) : ∃ cs, getIn (σ.getD pl.holder .u) pl n = some cs ∧ (f cs).run σ = some r := by
  obtain ⟨x, σ1, h1, h2⟩ := Pg.bind_some h
  simp only [getPl, Pg.run_get, Pg.run_opt, Option.map_eq_some_iff] at h1
  obtain ⟨cs, h3, h4⟩ := h1
  simp only [Prod.mk.injEq] at h4
  obtain ⟨rfl, rfl⟩ := h4
  exact ⟨cs, h3, h2⟩
theorem getIn_len {A : AV} {pl : Pl} {n : Nat} {cs : List OV} (h : getIn A pl n = some cs) : cs.length = n := by
  cases pl with
  | r d =>
    simp only [getIn] at h
    split at h
    · split at h
      · simp only [Option.some.injEq] at h; subst h; assumption
      · simp at h
    · simp at h
  | b d off =>
    simp only [getIn] at h
    split at h
    · exact (cellsAt_split h).2.1
    · simp at h
  | e d c z i off =>
    simp only [getIn] at h
    split at h
    · split at h
      · rw [Option.bind_eq_some_iff] at h
        obtain ⟨e, _, h⟩ := h
        exact (cellsAt_split h).2.1
      · simp at h
    · simp at h
theorem valOf_ok {i : Nat} {A : AV} {v : Val} {y : Value} (h : St B K σ vals w Fz S) (hA : RepA vals w Fz S K i A y) (hi : ∀ c, A.cells = some c → σ.getD i .u = A ∧ vals i = y) (hr : (valOf i A).run σ = some (v, σ1)) : σ1 = σ ∧ VOk σ vals w Fz S y v := by
  cases A with
  | w c =>
    simp only [valOf, Pg.run_ret, Option.some.injEq, Prod.mk.injEq] at hr
    obtain ⟨rfl, rfl⟩ := hr
    have := hi _ rfl
    exact ⟨rfl, by rw [this.1]; rfl, this.2⟩
  | a cs =>
    simp only [valOf, Pg.run_ret, Option.some.injEq, Prod.mk.injEq] at hr
    obtain ⟨rfl, rfl⟩ := hr
    have := hi _ rfl
    exact ⟨rfl, by rw [this.1]; rfl, this.2⟩
  | al pl n ag =>
    cases pl with
    | r d =>
      simp only [valOf, Pg.run_get] at hr
      split at hr
      · rename_i ag' cs hc
        split at hr
        · rename_i hag
          simp only [Pg.run_ret, Option.some.injEq, Prod.mk.injEq] at hr
          obtain ⟨rfl, rfl⟩ := hr
          subst hag
          exact ⟨rfl, hc, hA.1.symm⟩
        · simp at hr
      · simp at hr
    | b d off =>
      simp only [valOf] at hr
      obtain ⟨cs, h1, h2⟩ := getPl_some hr
      simp only [Pg.run_ret, Option.some.injEq, Prod.mk.injEq] at h2
      obtain ⟨rfl, rfl⟩ := h2
      obtain ⟨⟨vs, h3, h4⟩, _⟩ := hA
      have hl := getIn_len h1
      exact ⟨rfl, by rw [hl]; exact h1, vs, by rw [hl]; exact h3, h4⟩
    | e d c z j off =>
      simp only [valOf] at hr
      obtain ⟨cs, h1, h2⟩ := getPl_some hr
      simp only [Pg.run_ret, Option.some.injEq, Prod.mk.injEq] at h2
      obtain ⟨rfl, rfl⟩ := h2
      obtain ⟨⟨vs, h3, h4⟩, _⟩ := hA
      have hl := getIn_len h1
      exact ⟨rfl, by rw [hl]; exact h1, vs, by rw [hl]; exact h3, h4⟩
  | sv pl z lo hi =>
    cases pl with
    | r d =>
      simp only [valOf, Pg.run_get] at hr
      split at hr
      · rename_i c hc
        obtain ⟨cs', h1, h2⟩ := Pg.opt_some hr
        simp only [Pg.run_ret, Option.some.injEq, Prod.mk.injEq] at h2
        obtain ⟨rfl, rfl⟩ := h2
        obtain ⟨els, e1, e2, e3, rfl⟩ := subOf_some h1
        simp only [List.cons.injEq, and_true] at e1
        subst e1
        exact ⟨rfl, z, _, els, rfl, rfl, e2, e3, hA.1, hc⟩
      · simp at hr
    | b d off =>
      simp only [valOf] at hr
      obtain ⟨cs, h1, h2⟩ := getPl_some hr
      obtain ⟨cs', h3, h2⟩ := Pg.opt_some h2
      simp only [Pg.run_ret, Option.some.injEq, Prod.mk.injEq] at h2
      obtain ⟨rfl, rfl⟩ := h2
      obtain ⟨els, rfl, e2, e3, rfl⟩ := subOf_some h3
      exact ⟨rfl, z, _, els, rfl, rfl, e2, e3, hA.1, h1⟩
    | e d c z' j off =>
      simp only [valOf] at hr
      obtain ⟨cs, h1, h2⟩ := getPl_some hr
      obtain ⟨cs', h3, h2⟩ := Pg.opt_some h2
      simp only [Pg.run_ret, Option.some.injEq, Prod.mk.injEq] at h2
      obtain ⟨rfl, rfl⟩ := h2
      obtain ⟨els, rfl, e2, e3, rfl⟩ := subOf_some h3
      exact ⟨rfl, z, _, els, rfl, rfl, e2, e3, hA.1, h1⟩
  | _ => simp [valOf] at hr
theorem val_ok {x : Od} {v : Val} {y : Value} (h : St B K σ vals w Fz S) (hx : OdIs vals x y) (hr : (val x).run σ = some (v, σ1)) : σ1 = σ ∧ VOk σ vals w Fz S y v := by
  cases x with
  | t i =>
    simp only [OdIs] at hx
    subst hx
    simp only [val, Pg.run_get] at hr
    exact valOf_ok h (h.rep i) (fun _ _ => ⟨rfl, rfl⟩) hr
  | c A =>
    simp only [val] at hr
    have := hx w Fz
    cases A <;> simp only [AV.cells] at hr <;> try (simp at hr; done)
    · simp only [Pg.run_ret, Option.some.injEq, Prod.mk.injEq] at hr
      obtain ⟨rfl, rfl⟩ := hr
      exact ⟨rfl, [y], .inr ⟨rfl, rfl⟩, _, fun _ => False, this, trivial, fun _ h => h, fun _ h => h, fun _ h => h.elim⟩
    · simp only [Pg.run_ret, Option.some.injEq, Prod.mk.injEq] at hr
      obtain ⟨rfl, rfl⟩ := hr
      obtain ⟨vs, e1, e2⟩ := this
      exact ⟨rfl, vs, .inl ⟨rfl, e1⟩, e2⟩
theorem RepL.one {c : OV} {v : Value} {T : BSet} (h : RepO w Fz c v T) : RepL w Fz [c] [v] T := ⟨T, fun _ => False, h, trivial, fun _ h => h, fun _ h => h.elim, fun _ _ h => h⟩
theorem RepL.of_one {c : OV} {vs : List Value} {T : BSet} (h : RepL w Fz [c] vs T) : ∃ v, vs = [v] ∧ RepO w Fz c v T := by
  cases vs with
  | nil => exact h.elim
  | cons v vs =>
    obtain ⟨T1, T2, h1, h2, h3, _⟩ := h
    cases vs with
    | nil => exact ⟨v, rfl, h1.mono h3⟩
    | cons => exact h2.elim
theorem RepA.cells {d : Nat} {A : AV} {v : Value} {ag : Bool} {cs : List OV} (h : RepA vals w Fz S K d A v) (hc : A.cells = some (ag, cs)) : ∃ vs, valIs ag v vs ∧ RepL w Fz cs vs (S d) := by
  cases A <;> simp only [AV.cells, reduceCtorEq, Option.some.injEq, Prod.mk.injEq] at hc
  · obtain ⟨rfl, rfl⟩ := hc
    exact ⟨[v], .inr ⟨rfl, rfl⟩, .one h⟩
  · obtain ⟨rfl, rfl⟩ := hc
    obtain ⟨vs, h1, h2⟩ := h
    exact ⟨vs, .inl ⟨rfl, h1⟩, h2⟩
theorem PlAddr.uniq {pl : Pl} {ad ad' : Addr} (f1 : PlAddr vals w Fz S pl ad') (h2 : PlAddr vals w Fz' S' pl ad) : ad' = ad := by
  cases pl with
  | r d => exact f1.elim
  | b d off => obtain ⟨b1, e1, rfl⟩ := f1; obtain ⟨b2, e2, rfl⟩ := h2; rw [e1] at e2; simp at e2; rw [e2]
  | e d c z i off =>
    obtain ⟨a1, l1, c1, e1, rfl⟩ := f1
    obtain ⟨a2, l2, c2, e2, rfl⟩ := h2
    have : a1 = a2 := by
      cases c with
      | none => simp only [Hdr] at e1 e2; rw [e1] at e2; simp at e2; exact e2.1
      | some k =>
        obtain ⟨b1, p1, _, q1⟩ := e1
        obtain ⟨b2, p2, _, q2⟩ := e2
        rw [p1] at p2; simp at p2; subst p2
        rw [q1] at q2; simp at q2; exact q2.1
    rw [this]
theorem CellsAt.uniq {b off : Nat} {vs vs' : List Value} (h4 : CellsAt w b off vs) (f3 : CellsAt w b off vs') (hl : vs'.length = vs.length) : vs' = vs :=
  List.ext_getElem? fun j => by
    rcases Nat.lt_or_ge j vs.length with hj | hj
    · have e1 := h4 j _ (List.getElem?_eq_getElem hj)
      have e2 := f3 j _ (List.getElem?_eq_getElem (by omega : j < vs'.length))
      rw [e1] at e2
      rw [List.getElem?_eq_getElem hj, List.getElem?_eq_getElem (by omega : j < vs'.length), ← e2]
    · rw [List.getElem?_eq_none hj, List.getElem?_eq_none (by omega)]
theorem focusV {pl : Pl} {n : Nat} {cs : List OV} {vs : List Value} (h : St B K σ vals w Fz S) (hr : ∀ x, pl ≠ .r x) (hg : getIn (σ.getD pl.holder .u) pl n = some cs) (hv : PlVal vals w Fz S pl n vs) :
    ∃ (ad : Addr) (T1 T2 : BSet), PlAddr vals w Fz S pl ad ∧ vs.length = n ∧ CellsAt w ad.block ad.off vs ∧ RepL w Fz cs vs T1 ∧ (∀ b, T1 b → S pl.holder b) ∧ (∀ b, T2 b → S pl.holder b) ∧ (∀ b, T1 b → ¬ T2 b) ∧ (T2 ad.block ∧ Row w ad.block (ad.off + n)) ∧
      ((∀ b, vals pl.holder = .pointer (some ⟨b, 0, none⟩) → T2 b) ∧ ∀ a len cap, vals pl.holder = .slice (some a) len cap → T2 a.block) ∧
      ∀ (w' : World) (Fz' : BSet) (S' : Nat → BSet) (new : List OV) (vs' : List Value) (Tn : BSet) (A' : AV), putIn (σ.getD pl.holder .u) pl new = some A' → new.length = n → RepL w' Fz' new vs' Tn → (∀ b, Tn b → ¬ T2 b) → (∀ b, Fz b → Fz' b) →
        (∀ b, T2 b ∨ Fz b → b ≠ ad.block → w'.heap[b]? = w.heap[b]?) → Upd w w' ad.block ad.off vs' → (∀ b, T2 b ∨ Tn b → S' pl.holder b) → RepA vals w' Fz' S' K pl.holder A' (vals pl.holder) := by
  obtain ⟨ad, vs', T1, T2, f1, f2, f3, f4, f5, f6, f7, f8, f9, f10⟩ := focus (K' := K) (vals' := vals) (h.rep pl.holder) rfl hr hg
  obtain ⟨ad', ⟨g1, _⟩, g2, g3⟩ := hv
  obtain rfl := f1.uniq g1
  obtain rfl := g3.uniq f3 (by omega)
  refine ⟨ad, T1, T2, f1, f2, f3, f4, f5, f6, f7, f8, f9, fun w' Fz' S' new vs' Tn A' i1 i2 i3 i4 i5 i6 i7 i8 => f10 w' Fz' S' new vs' Tn A' i1 i2 i3 i4 i5 i6 i7 (h.tok _ _ (f6 _ f8.1)).2.1 i8⟩
theorem PlHdr.val {pl : Pl} {x : Value} (hr : ∀ x, pl ≠ .r x) (h : PlHdr vals w Fz S pl x) : PlVal vals w Fz S pl 1 [x] := by
  have key : ∀ ad, (PlAddr vals w Fz S pl ad ∧ (S pl.holder ad.block ∨ Fz ad.block)) → w.cell? ad = some x → PlVal vals w Fz S pl 1 [x] := fun ad h1 h2 => ⟨ad, h1, rfl, fun j v hj => by
    cases j with
    | zero =>
      simp at hj; subst hj
      have hs := h1.1.spot
      have : ad = ⟨ad.block, ad.off + 0, none⟩ := by cases ad; simp_all
      rw [← this]; exact h2
    | succ j => simp at hj⟩
  cases pl with
  | r d => exact absurd rfl (hr d)
  | b d off => obtain ⟨ad, h1, h2⟩ := h; exact key ad h1 h2
  | e d c z i off => obtain ⟨ad, h1, h2⟩ := h; exact key ad h1 h2
theorem VOk.cases {y : Value} {v : Val} (h : St B K σ vals w Fz S) (hv : VOk σ vals w Fz S y v) :
    (v.src = .no ∧ ∃ vs, valIs v.ag y vs ∧ RepL w Fz v.cs vs (fun _ => False)) ∨
    (∃ d vs, v.src = .at_ (.r d) ∧ (σ.getD d .u).cells = some (v.ag, v.cs) ∧ vals d = y ∧ valIs v.ag y vs ∧ RepL w Fz v.cs vs (S d)) ∨
    (∃ pl vs, v.src = .at_ pl ∧ (∀ x, pl ≠ .r x) ∧ getIn (σ.getD pl.holder .u) pl v.cs.length = some v.cs ∧ PlVal vals w Fz S pl v.cs.length vs ∧ valIs v.ag y vs) ∨
    (∃ d lo z hi els x, v.src = .sub (.r d) lo ∧ v.ag = false ∧ v.cs = [.own z ((els.take hi).drop lo)] ∧ lo ≤ hi ∧ hi ≤ els.length ∧ σ.getD d .u = .w (.own z els) ∧ vals d = x ∧ ∀ T, RepO w Fz (.own z els) x T → RepO w Fz (.own z ((els.take hi).drop lo)) y T) ∨
    (∃ pl lo z hi els x, v.src = .sub pl lo ∧ (∀ x, pl ≠ .r x) ∧ v.ag = false ∧ v.cs = [.own z ((els.take hi).drop lo)] ∧ lo ≤ hi ∧ hi ≤ els.length ∧ getIn (σ.getD pl.holder .u) pl 1 = some [.own z els] ∧ PlVal vals w Fz S pl 1 [x] ∧
      ∀ Fz' T, RepO w Fz' (.own z els) x T → RepO w Fz' (.own z ((els.take hi).drop lo)) y T) := by
  obtain ⟨ag, cs, src⟩ := v
  cases src with
  | no => exact .inl ⟨rfl, hv⟩
  | at_ pl =>
    cases pl with
    | r d =>
      obtain ⟨h1, h2⟩ := hv
      obtain ⟨vs, h3, h4⟩ := (h.rep d).cells h1
      exact .inr (.inl ⟨d, vs, rfl, h1, h2, h2 ▸ h3, h4⟩)
    | b d off => obtain ⟨h1, vs, h2, h3⟩ := hv; exact .inr (.inr (.inl ⟨_, vs, rfl, (fun x e => by cases e), h1, h2, h3⟩))
    | e d c z i off => obtain ⟨h1, vs, h2, h3⟩ := hv; exact .inr (.inr (.inl ⟨_, vs, rfl, (fun x e => by cases e), h1, h2, h3⟩))
  | sub pl lo =>
    cases pl with
    | r d =>
      obtain ⟨z, hi, els, h1, h2, h3, h4, ⟨a, len, cap, h5, rfl⟩, h6⟩ := hv
      exact .inr (.inr (.inr (.inl ⟨d, lo, z, hi, els, _, rfl, h1, h2, h3, h4, h6, h5, fun T hT => own_sub hT h3 h4⟩)))
    | b d off =>
      obtain ⟨z, hi, els, h1, h2, h3, h4, ⟨a, len, cap, h5, rfl⟩, h6⟩ := hv
      exact .inr (.inr (.inr (.inr ⟨_, lo, z, hi, els, _, rfl, (fun x e => by cases e), h1, h2, h3, h4, h6, PlHdr.val (fun x e => by cases e) h5, fun Fz' T hT => own_sub hT h3 h4⟩)))
    | e d c z' i off =>
      obtain ⟨z, hi, els, h1, h2, h3, h4, ⟨a, len, cap, h5, rfl⟩, h6⟩ := hv
      exact .inr (.inr (.inr (.inr ⟨_, lo, z, hi, els, _, rfl, (fun x e => by cases e), h1, h2, h3, h4, h6, PlHdr.val (fun x e => by cases e) h5, fun Fz' T hT => own_sub hT h3 h4⟩)))
theorem VOk.rep {y : Value} {v : Val} (h : St B K σ vals w Fz S) (hv : VOk σ vals w Fz S y v) : ∃ vs T, valIs v.ag y vs ∧ RepL w Fz v.cs vs T ∧ ∀ b, T b → ∃ t, S t b := by
  rcases hv.cases h with ⟨_, vs, h1, h2⟩ | ⟨d, vs, _, h1, rfl, h2, h3⟩ | ⟨pl, vs, _, hr, h1, h2, h3⟩ | ⟨d, lo, z, hi, els, x, _, h1, h2, h3, h4, h5, rfl, h6⟩ | ⟨pl, lo, z, hi, els, x, _, hr, h1, h2, h3, h4, h5, h6, h7⟩
  · exact ⟨vs, _, h1, h2, fun _ h => h.elim⟩
  · exact ⟨vs, _, h2, h3, fun b hb => ⟨d, hb⟩⟩
  · obtain ⟨ad, T1, T2, f1, f2, f3, f4, f5, _⟩ := focusV h hr h1 h2
    exact ⟨vs, T1, h3, f4, fun b hb => ⟨_, f5 b hb⟩⟩
  · have hO := h.rep d
    rw [h5] at hO
    rw [h1, h2]
    exact ⟨[y], S d, .inr ⟨rfl, rfl⟩, .one (h6 _ hO), fun b hb => ⟨d, hb⟩⟩
  · obtain ⟨ad, T1, T2, f1, f2, f3, f4, f5, _⟩ := focusV h hr h5 h6
    obtain ⟨x', e, hO⟩ := f4.of_one
    simp only [List.cons.injEq, and_true] at e
    subst e
    rw [h1, h2]
    exact ⟨[y], T1, .inr ⟨rfl, rfl⟩, .one (h7 _ _ hO), fun b hb => ⟨_, f5 b hb⟩⟩
theorem updS_dis {hd d : Nat} {T1 T2 : BSet} (h : St B K σ vals w Fz S) (hne : hd ≠ d) (h0 : ∀ b, ¬ S hd b) (h1 : ∀ b, T1 b → S d b) (h2 : ∀ b, T2 b → S d b) (h3 : ∀ b, T1 b → ¬ T2 b) :
    ∀ t u b, t ≠ u → updS (updS S d T2) hd T1 t b → ¬ updS (updS S d T2) hd T1 u b := by
  intro t u b htu ht hu
  simp only [updS] at ht hu
  split at ht
  · rename_i e; subst e
    rw [if_neg (fun e => htu e.symm)] at hu
    split at hu
    · exact h3 b ht hu
    · rename_i e2; exact h.dis d u b (fun e => e2 e.symm) (h1 b ht) hu
  · split at ht
    · rename_i e1 e; subst e
      split at hu
      · exact h3 b hu ht
      · rename_i e2
        rw [if_neg (fun e => htu e.symm)] at hu
        exact h.dis t u b htu (h2 b ht) hu
    · rename_i e1 e2
      split at hu
      · exact h.dis t d b e2 ht (h1 b hu)
      · split at hu
        · exact h.dis t d b e2 ht (h2 b hu)
        · exact h.dis t u b htu ht hu
theorem updS_tok {hd d : Nat} {T1 T2 : BSet} (h : St B K σ vals w Fz S) (h1 : ∀ b, T1 b → S d b) (h2 : ∀ b, T2 b → S d b) :
    ∀ t b, updS (updS S d T2) hd T1 t b → ∃ t', S t' b := by
  intro t b ht
  simp only [updS] at ht
  split at ht
  · exact ⟨d, h1 b ht⟩
  · split at ht
    · exact ⟨d, h2 b ht⟩
    · exact ⟨t, ht⟩
theorem St.takeReg {d hd : Nat} (h : St B K σ vals w Fz S) (hr : (Pv.wr K d .u).run σ = some ((), σ')) (hdl : d < σ.length) (h0 : σ.length ≤ hd) (h1 : ∀ b, ¬ S hd b) :
    St B K σ' vals w Fz (updS (updS S d fun _ => False) hd (S d)) ∧ σ'.length = σ.length := by
  have hne : hd ≠ d := by omega
  have := h.wr (x := vals d) (S' := updS (updS S d fun _ => False) hd (S d)) hr (fun t ht htl => by simp [updS, ht, show t ≠ hd by omega])
    (updS_dis h hne h1 (fun _ h => h) (fun _ h => h.elim) (fun _ _ h => h)) (fun t b hb => by obtain ⟨t', ht'⟩ := updS_tok h (fun _ h => h) (fun _ h => h.elim) t b hb; exact h.tok t' b ht')
    (fun _ => trivial) (fun h' hon => by simp [AV.on] at hon)
  have hu : upd vals d (vals d) = vals := by funext t; simp only [upd]; split <;> simp_all
  rw [hu] at this
  exact this
theorem St.takePl {pl : Pl} {hd n : Nat} {cs : List OV} {vs : List Value} {A' : AV} {u : Unit} (h : St B K σ vals w Fz S) (hr : ∀ x, pl ≠ .r x) (hg : getIn (σ.getD pl.holder .u) pl n = some cs) (hv : PlVal vals w Fz S pl n vs)
    (hp : putIn (σ.getD pl.holder .u) pl (cs.map fun _ => .hole) = some A') (hk : (killIf (AV.onEl pl.holder) (K.getD pl.holder [])).run (σ.set pl.holder A') = some (u, σ')) (hdl : pl.holder < σ.length) (h0 : σ.length ≤ hd) (h1 : ∀ b, ¬ S hd b) :
    ∃ T1 T2, RepL w Fz cs vs T1 ∧ St B K σ' vals w Fz (updS (updS S pl.holder T2) hd T1) ∧ σ'.length = σ.length := by
  obtain ⟨ad, T1, T2, f1, f2, f3, f4, f5, f6, f7, f8, f9, f10⟩ := focusV h hr hg hv
  have hne : hd ≠ pl.holder := by omega
  have hl := f4.length
  have hA := f10 w Fz (updS (updS S pl.holder T2) hd T1) (cs.map fun _ => .hole) vs (fun _ => False) A' hp (by simp; omega) (RepL.holes hl) (fun _ h => h.elim) (fun _ h => h) (fun _ _ _ => rfl) (.same f3) (fun b hb => by
    simp only [updS, if_neg hne.symm, if_true]; exact hb.elim id fun h => h.elim)
  obtain ⟨σ1, e1, hl', hk'⟩ := kill_run (AV.onEl pl.holder) (K.getD pl.holder []) (σ.set pl.holder A')
  rw [e1] at hk
  obtain ⟨_, rfl⟩ : () = u ∧ σ1 = σ' := by simpa using hk
  refine ⟨T1, T2, f4, ⟨fun t => ?_, updS_dis h hne h1 f5 f6 f7, fun t b hb => by obtain ⟨t', ht'⟩ := updS_tok h f5 f6 t b hb; exact h.tok t' b ht', fun t h' hon => ?_, h.frz, h.os, h.tape, h.output, h.size, h.old, h.fz0, h.fz1⟩, by simpa using hl'⟩
  · rcases hk' t with ⟨e, hm⟩ | ⟨_, _, e⟩
    · rw [e, getD_set]
      by_cases ht : t = pl.holder
      · rw [if_pos ht, if_pos hdl, ht]; exact hA
      · rw [if_neg ht]
        rw [getD_set, if_neg ht] at hm
        rcases Nat.lt_or_ge t σ.length with htl | htl
        · have hrep := h.rep t
          refine hrep.keep (fun _ h => h) (fun _ _ => rfl) (fun b hb => by simp only [updS, if_neg ht, if_neg (show t ≠ hd by omega)]; exact hb) (fun h' hon => ?_)
          by_cases hh : h' = pl.holder
          · subst hh
            have hno : (σ.getD t .u).onEl pl.holder = false := by
              rcases hm (leans_of_on hrep hon).1 with q | q
              · exact q
              · rw [q]; rfl
            refine ⟨rfl, fun _ b e _ => .inl (by simp only [updS, if_neg hne.symm, if_true]; exact f9.1 b e), fun _ a len cap e _ => .inl (by simp only [updS, if_neg hne.symm, if_true]; exact f9.2 a len cap e), fun e => ?_, fun _ _ _ => rfl⟩
            rw [hno] at e; simp at e
          · have hhl := h.hol t h' hon
            exact Held.same _ _ _ rfl (fun b hb => .inl (by simp only [updS, if_neg hh, if_neg (show h' ≠ hd by omega)]; exact hb)) (fun _ _ => rfl)
        · have : σ.getD t .u = .u := by simp [List.getD_eq_getElem?_getD, List.getElem?_eq_none htl]
          rw [this]; trivial
    · rw [e]; trivial
  · have hh : ∀ t h', ((σ.set pl.holder A').getD t .u).on h' = true → h' < σ.length := by
      intro t h' hon
      rw [getD_set] at hon
      by_cases ht : t = pl.holder
      · rw [if_pos ht, if_pos hdl] at hon
        exfalso
        cases pl with
        | r d => exact hr d rfl
        | b d off =>
          simp only [putIn] at hp
          split at hp
          · simp only [Option.map_eq_some_iff] at hp; obtain ⟨_, _, rfl⟩ := hp; simp [AV.on] at hon
          · simp at hp
        | e d c z i off =>
          simp only [putIn] at hp
          split at hp
          · split at hp
            · split at hp
              · rw [Option.bind_eq_some_iff] at hp
                obtain ⟨e', _, hp⟩ := hp
                split at hp <;> simp at hp <;> subst hp <;> simp [AV.on] at hon
              · simp at hp
            · simp at hp
          · simp at hp
      · rw [if_neg ht] at hon; exact h.hol t h' hon
    rw [hl', List.length_set]
    rcases hk' t with ⟨e, _⟩ | ⟨_, _, e⟩
    · rw [e] at hon; exact hh t h' hon
    · rw [e] at hon; simp [AV.on] at hon
theorem lt_of_getD {d : Nat} (h : σ.getD d .u ≠ .u) : d < σ.length := by
  rcases Nat.lt_or_ge d σ.length with hd | hd
  · exact hd
  · exact absurd (by simp [List.getD_eq_getElem?_getD, List.getElem?_eq_none hd]) h
theorem getIn_ne {A : AV} {pl : Pl} {n : Nat} {cs : List OV} (h : getIn A pl n = some cs) : A ≠ .u := by
  rintro rfl
  cases pl with
  | r d => simp [getIn, AV.cells] at h
  | b d off => simp [getIn] at h
  | e d c z i off => cases c <;> simp [getIn, slot] at h
theorem putPl_some {α : Type} {pl : Pl} {cs : List OV} {f : Unit → Pg α} {r : α × List AV} (h : ((putPl pl cs).bind f).run σ = some r) : ∃ A', putIn (σ.getD pl.holder .u) pl cs = some A' ∧ (f ()).run (σ.set pl.holder A') = some r := by
  obtain ⟨x, σ1, h1, h2⟩ := Pg.bind_some h
  simp only [putPl, Pg.run_get] at h1
  obtain ⟨A', h3, h4⟩ := Pg.opt_some h1
  have h5 : σ1 = σ.set pl.holder A' := by
    unfold putR at h4
    split at h4
    · simp only [Pg.run] at h4
      split at h4
      · simp only [Option.some.injEq, Prod.mk.injEq, true_and] at h4
        exact h4.symm
      · simp at h4
    · simp only [Pg.run_put, Pg.run_ret, Option.some.injEq, Prod.mk.injEq, true_and] at h4
      exact h4.symm
  subst h5
  exact ⟨A', h3, h2⟩
theorem take_ok {y : Value} {v : Val} {cs : List OV} {hd : Nat} (h : St B K σ vals w Fz S) (hv : VOk σ vals w Fz S y v) (ht : (take K v).run σ = some (cs, σ')) (h0 : σ.length ≤ hd) (h1 : ∀ b, ¬ S hd b) :
    cs = v.cs ∧ σ'.length = σ.length ∧ ∃ S' vs, St B K σ' vals w Fz S' ∧ valIs v.ag y vs ∧ RepL w Fz cs vs (S' hd) ∧ ∀ k, σ.length ≤ k → k ≠ hd → S' k = S k := by
  have other : ∀ (d k : Nat) (T1 T2 : BSet), d < σ.length → σ.length ≤ k → k ≠ hd → updS (updS S d T2) hd T1 k = S k := fun d k T1 T2 hd1 hk hne => by simp [updS, hne, show k ≠ d by omega]
  unfold take at ht
  split at ht
  · rename_i hp
    simp only [Pg.run_ret, Option.some.injEq, Prod.mk.injEq] at ht
    obtain ⟨rfl, rfl⟩ := ht
    obtain ⟨vs, T, g1, g2, _⟩ := hv.rep h
    exact ⟨rfl, rfl, S, vs, h, g1, g2.plain hp, fun _ _ _ => rfl⟩
  · rcases hv.cases h with ⟨e, vs, g1, g2⟩ | ⟨d, vs, e, g1, rfl, g2, g3⟩ | ⟨pl, vs, e, hr, g1, g2, g3⟩ | ⟨d, lo, z, hi, els, x, e, g1, g2, g3, g4, g5, rfl, g6⟩ | ⟨pl, lo, z, hi, els, x, e, hr, g1, g2, g3, g4, g5, g6, g7⟩
    · rw [e] at ht
      simp only [Pg.run_ret, Option.some.injEq, Prod.mk.injEq] at ht
      obtain ⟨rfl, rfl⟩ := ht
      exact ⟨rfl, rfl, S, vs, h, g1, g2.mono fun _ h => h.elim, fun _ _ _ => rfl⟩
    · rw [e] at ht
      obtain ⟨u, σ1, k1, k2⟩ := Pg.bind_some ht
      simp only [Pg.run_ret, Option.some.injEq, Prod.mk.injEq] at k2
      obtain ⟨rfl, rfl⟩ := k2
      have hdl : d < σ.length := lt_of_getD (fun e => by rw [e] at g1; simp [AV.cells] at g1)
      obtain ⟨k3, k4⟩ := h.takeReg k1 hdl h0 h1
      exact ⟨rfl, k4, _, vs, k3, g2, by simp only [updS, if_true]; exact g3, fun k hk hne => other d k _ _ hdl hk hne⟩
    · have hdl : pl.holder < σ.length := lt_of_getD (getIn_ne g1)
      rw [e] at ht
      have ht' : ((putPl pl (v.cs.map fun _ => .hole)).bind fun _ => (killIf (AV.onEl pl.holder) (K.getD pl.holder [])).bind fun _ => .ret v.cs).run σ = some (cs, σ') := by
        cases pl with
        | r d => exact absurd rfl (hr d)
        | b d off => exact ht
        | e d c z i off => exact ht
      obtain ⟨A', k1, k2⟩ := putPl_some ht'
      obtain ⟨u, σ2, k3, k4⟩ := Pg.bind_some k2
      simp only [Pg.run_ret, Option.some.injEq, Prod.mk.injEq] at k4
      obtain ⟨rfl, rfl⟩ := k4
      obtain ⟨T1, T2, m1, m2, m3⟩ := h.takePl hr g1 g2 k1 k3 hdl h0 h1
      exact ⟨rfl, m3, _, vs, m2, g3, by simp only [updS, if_true]; exact m1, fun k hk hne => other _ k _ _ hdl hk hne⟩
    · rw [e] at ht
      obtain ⟨u, σ1, k1, k2⟩ := Pg.bind_some ht
      simp only [Pg.run_ret, Option.some.injEq, Prod.mk.injEq] at k2
      obtain ⟨rfl, rfl⟩ := k2
      have hdl : d < σ.length := lt_of_getD (fun e => by rw [e] at g5; simp at g5)
      obtain ⟨k3, k4⟩ := h.takeReg k1 hdl h0 h1
      have hO := h.rep d
      rw [g5] at hO
      refine ⟨rfl, k4, _, [y], k3, .inr ⟨g1, rfl⟩, ?_, fun k hk hne => other d k _ _ hdl hk hne⟩
      simp only [updS, if_true]
      rw [g2]
      exact .one (g6 _ hO)
    · have hdl : pl.holder < σ.length := lt_of_getD (getIn_ne g5)
      rw [e] at ht
      have ht' : ((putPl pl [.hole]).bind fun _ => (killIf (AV.onEl pl.holder) (K.getD pl.holder [])).bind fun _ => .ret v.cs).run σ = some (cs, σ') := by
        cases pl with
        | r d => exact absurd rfl (hr d)
        | b d off => exact ht
        | e d c z i off => exact ht
      obtain ⟨A', k1, k2⟩ := putPl_some ht'
      obtain ⟨u, σ2, k3, k4⟩ := Pg.bind_some k2
      simp only [Pg.run_ret, Option.some.injEq, Prod.mk.injEq] at k4
      obtain ⟨rfl, rfl⟩ := k4
      obtain ⟨T1, T2, m1, m2, m3⟩ := h.takePl hr g5 g6 (by simpa using k1) k3 hdl h0 h1
      obtain ⟨x', ex, hO⟩ := m1.of_one
      simp only [List.cons.injEq, and_true] at ex
      subst ex
      refine ⟨rfl, m3, _, [y], m2, .inr ⟨g1, rfl⟩, ?_, fun k hk hne => other _ k _ _ hdl hk hne⟩
      simp only [updS, if_true]
      rw [g2]
      exact .one (g7 _ _ hO)
theorem St.setFrz {d : Nat} {A' : AV} {T2 : BSet} (h : St B K σ vals w Fz S) (hdl : d < σ.length) (hT : ∀ b, T2 b → S d b) (hon : ∀ x, A'.on x = false)
    (hA : RepA vals w (fun b => Fz b ∨ (S d b ∧ ¬ T2 b)) (updS S d T2) K d A' (vals d)) : St B K (σ.set d A') vals w (fun b => Fz b ∨ (S d b ∧ ¬ T2 b)) (updS S d T2) := by
  refine ⟨fun t => ?_, fun t u b htu ht hu => ?_, fun t b ht => ?_, fun t h' ho => ?_, fun b hb => ?_, h.os, h.tape, h.output, h.size, h.old, fun b hb => .inl (h.fz0 b hb), fun b hb => ?_⟩
  · rw [getD_set]
    by_cases ht : t = d
    · rw [if_pos ht, if_pos hdl, ht]; exact hA
    · rw [if_neg ht]
      refine (h.rep t).keep (fun _ h => .inl h) (fun _ _ => rfl) (fun b hb => by simp only [updS, if_neg ht]; exact hb) (fun h' hon => Held.same _ _ _ rfl (fun b hb => ?_) (fun _ _ => rfl))
      by_cases hh : h' = d
      · subst hh
        rcases Classical.em (T2 b) with q | q
        · exact .inl (by simp only [updS, if_true]; exact q)
        · exact .inr (.inr ⟨hb, q⟩)
      · exact .inl (by simp only [updS, if_neg hh]; exact hb)
  · simp only [updS] at ht hu
    split at ht
    · rename_i e; subst e
      rw [if_neg (fun e => htu e.symm)] at hu
      exact h.dis _ _ b htu (hT b ht) hu
    · split at hu
      · rename_i e; subst e; exact h.dis _ _ b htu ht (hT b hu)
      · exact h.dis _ _ b htu ht hu
  · simp only [updS] at ht
    split at ht
    · rename_i e; subst e
      have := h.tok t b (hT b ht)
      exact ⟨this.1, fun q => q.elim this.2.1 fun q => q.2 ht, this.2.2⟩
    · rename_i e
      have := h.tok t b ht
      exact ⟨this.1, fun q => q.elim this.2.1 fun q => h.dis _ _ b e ht q.1, this.2.2⟩
  · rw [getD_set] at ho
    rw [List.length_set]
    by_cases htd : t = d
    · rw [if_pos htd, if_pos hdl, hon] at ho; simp at ho
    · rw [if_neg htd] at ho; exact h.hol t h' ho
  · rcases hb with hb | hb
    · exact h.frz b hb
    · exact (h.tok d b hb.1).1
  · rcases hb with hb | hb
    · exact h.fz1 b hb
    · exact .inr (h.tok d b hb.1).2.2
theorem putIn_on {A A' : AV} {pl : Pl} {cs : List OV} (hp : putIn A pl cs = some A') (x : Nat) : A'.on x = false := by
  cases pl with
  | r d =>
    simp only [putIn] at hp
    split at hp
    · split at hp <;> simp at hp; subst hp; rfl
    · split at hp <;> simp at hp; subst hp; rfl
    · simp at hp
  | b d off =>
    simp only [putIn] at hp
    split at hp
    · simp only [Option.map_eq_some_iff] at hp; obtain ⟨_, _, rfl⟩ := hp; rfl
    · simp at hp
  | e d c z i off =>
    simp only [putIn] at hp
    split at hp
    · split at hp
      · split at hp
        · rw [Option.bind_eq_some_iff] at hp
          obtain ⟨e', _, hp⟩ := hp
          split at hp <;> simp at hp <;> subst hp <;> rfl
        · simp at hp
      · simp at hp
    · simp at hp
theorem frz_map (cs : List OV) : (cs.map fun c => OV.p c.frz) = (OV.frzs cs).map .p := by rw [frzs_eq_map, List.map_map]; rfl
theorem copy_ok {y : Value} {v : Val} {ps : List PV} (h : St B K σ vals w Fz S) (hv : VOk σ vals w Fz S y v) (ht : (copy v).run σ = some (ps, σ')) :
    ps = OV.frzs v.cs ∧ σ'.length = σ.length ∧ ∃ Fz' S' vs, St B K σ' vals w Fz' S' ∧ valIs v.ag y vs ∧ RepL w Fz' (ps.map .p) vs (fun _ => False) ∧ (∀ b, Fz b → Fz' b) ∧ ∀ k, σ.length ≤ k → S' k = S k := by
  have other : ∀ (d k : Nat) (T2 : BSet), d < σ.length → σ.length ≤ k → updS S d T2 k = S k := fun d k T2 hd1 hk => by simp [updS, show k ≠ d by omega]
  unfold copy at ht
  split at ht
  · rename_i hp
    simp only [Pg.run_ret, Option.some.injEq, Prod.mk.injEq] at ht
    obtain ⟨rfl, rfl⟩ := ht
    obtain ⟨vs, T, g1, g2, _⟩ := hv.rep h
    exact ⟨rfl, rfl, Fz, S, vs, h, g1, by rw [plain_frz hp]; exact g2.plain hp, fun _ h => h, fun _ _ => rfl⟩
  · split at ht
    case isFalse => simp at ht
    rename_i hwh
    rcases hv.cases h with ⟨e, vs, g1, g2⟩ | ⟨d, vs, e, g1, rfl, g2, g3⟩ | ⟨pl, vs, e, hr, g1, g2, g3⟩ | ⟨d, lo, z, hi, els, x, e, g1, g2, g3, g4, g5, rfl, g6⟩ | ⟨pl, lo, z, hi, els, x, e, hr, g1, g2, g3, g4, g5, g6, g7⟩
    · rw [e] at ht
      simp only [Pg.run_ret, Option.some.injEq, Prod.mk.injEq] at ht
      obtain ⟨rfl, rfl⟩ := ht
      exact ⟨rfl, rfl, Fz, S, vs, h, g1, g2.freeze hwh (fun b hb => hb.elim id fun h => h.elim), fun _ h => h, fun _ _ => rfl⟩
    · rw [e] at ht
      obtain ⟨A', k1, k2⟩ := putPl_some ht
      simp only [Pg.run_ret, Option.some.injEq, Prod.mk.injEq] at k2
      obtain ⟨rfl, rfl⟩ := k2
      have hdl : d < σ.length := lt_of_getD (fun e => by rw [e] at g1; simp [AV.cells] at g1)
      have hfr : RepL w (fun b => Fz b ∨ (S d b ∧ ¬ False)) ((OV.frzs v.cs).map .p) vs (fun _ => False) := g3.freeze hwh (fun b hb => hb.imp id fun h => ⟨h, id⟩)
      refine ⟨rfl, by simp [Pl.holder], _, _, vs, h.setFrz (T2 := fun _ => False) hdl (fun _ h => h.elim) (putIn_on k1) ?_, g2, hfr, fun b hb => .inl hb, fun k hk => other d k _ hdl hk⟩
      simp only [Pl.holder] at k1
      rw [frz_map] at k1
      cases hA : σ.getD d .u with
      | w c =>
        rw [hA] at k1 g1
        simp only [AV.cells, Option.some.injEq, Prod.mk.injEq] at g1
        obtain ⟨ga, gc⟩ := g1
        rw [← gc] at k1 hfr
        simp only [putIn, OV.frzs, List.map_cons, List.map_nil, Option.some.injEq] at k1 hfr
        subst k1
        rcases g2 with ⟨q, _⟩ | ⟨_, q⟩
        · rw [← ga] at q; simp at q
        · rw [q] at hfr
          obtain ⟨x, ex, hO⟩ := hfr.of_one
          simp at ex
          subst ex
          exact hO.mono fun _ h => h.elim
      | a old =>
        rw [hA] at k1 g1
        simp only [AV.cells, Option.some.injEq, Prod.mk.injEq] at g1
        obtain ⟨ga, gc⟩ := g1
        simp only [putIn] at k1
        split at k1
        · simp only [Option.some.injEq] at k1
          subst k1
          rcases g2 with ⟨_, q⟩ | ⟨q, _⟩
          · exact ⟨vs, q, hfr.mono fun _ h => h.elim⟩
          · rw [← ga] at q; simp at q
        · simp at k1
      | _ => rw [hA] at g1; simp [AV.cells] at g1
    · have hdl : pl.holder < σ.length := lt_of_getD (getIn_ne g1)
      rw [e] at ht
      obtain ⟨A', k1, k2⟩ := putPl_some ht
      simp only [Pg.run_ret, Option.some.injEq, Prod.mk.injEq] at k2
      obtain ⟨rfl, rfl⟩ := k2
      obtain ⟨ad, T1, T2, f1, f2, f3, f4, f5, f6, f7, f8, f9, f10⟩ := focusV h hr g1 g2
      have hfr : RepL w (fun b => Fz b ∨ (S pl.holder b ∧ ¬ T2 b)) ((OV.frzs v.cs).map .p) vs (fun _ => False) := f4.freeze hwh (fun b hb => hb.imp id fun h => ⟨f5 b h, f7 b h⟩)
      refine ⟨rfl, by simp, _, _, vs, h.setFrz hdl f6 (putIn_on k1) ?_, g3, hfr, fun b hb => .inl hb, fun k hk => other _ k _ hdl hk⟩
      rw [frz_map] at k1
      exact f10 w _ (updS S pl.holder T2) _ vs _ A' k1 (by simp [frzs_eq_map]) hfr (fun _ h => h.elim) (fun b hb => .inl hb) (fun _ _ _ => rfl) (.same f3) (fun b hb => by simp only [updS, if_true]; exact hb.elim id fun h => h.elim)
    · rw [e] at ht
      simp only at ht
      obtain ⟨cs1, q1, q2⟩ := getPl_some ht
      obtain ⟨q3, q2⟩ := Pg.guard_some q2
      obtain ⟨A', k1, k2⟩ := putPl_some q2
      simp only [Pg.run_ret, Option.some.injEq, Prod.mk.injEq] at k2
      obtain ⟨rfl, rfl⟩ := k2
      simp only [Pl.holder] at k1 q1
      have hdl : d < σ.length := lt_of_getD (fun e => by rw [e] at g5; simp at g5)
      have hO := h.rep d
      rw [g5] at hO k1 q1
      simp only [getIn, AV.cells, List.length_singleton, if_true, Option.some.injEq] at q1
      subst q1
      simp only [List.map_cons, List.map_nil, putIn, Option.some.injEq] at k1
      subst k1
      simp only [OV.wholes, Bool.and_true] at q3
      refine ⟨rfl, by simp [Pl.holder], _, _, [y], h.setFrz (T2 := fun _ => False) hdl (fun _ h => h.elim) (fun _ => rfl) ?_, .inr ⟨g1, rfl⟩, ?_, fun b hb => .inl hb, fun k hk => other d k _ hdl hk⟩
      · exact .p (hO.freeze q3 (fun b hb => hb.imp id fun h => ⟨h, id⟩))
      · rw [g2] at hwh ⊢
        simp only [OV.wholes, Bool.and_true] at hwh
        exact .one (.p ((g6 _ hO).freeze hwh (fun b hb => hb.imp id fun h => ⟨h, id⟩)))
    · have hdl : pl.holder < σ.length := lt_of_getD (getIn_ne g5)
      rw [e] at ht
      simp only at ht
      obtain ⟨cs1, q1, q2⟩ := getPl_some ht
      obtain ⟨q3, q2⟩ := Pg.guard_some q2
      obtain ⟨A', k1, k2⟩ := putPl_some q2
      simp only [Pg.run_ret, Option.some.injEq, Prod.mk.injEq] at k2
      obtain ⟨rfl, rfl⟩ := k2
      rw [g5] at q1
      simp only [Option.some.injEq] at q1
      subst q1
      obtain ⟨ad, T1, T2, f1, f2, f3, f4, f5, f6, f7, f8, f9, f10⟩ := focusV h hr g5 g6
      have hfr : RepL w (fun b => Fz b ∨ (S pl.holder b ∧ ¬ T2 b)) ((OV.frzs [.own z els]).map .p) [x] (fun _ => False) := f4.freeze q3 (fun b hb => hb.imp id fun h => ⟨f5 b h, f7 b h⟩)
      obtain ⟨x', ex, hO⟩ := f4.of_one
      simp only [List.cons.injEq, and_true] at ex
      subst ex
      refine ⟨rfl, by simp, _, _, [y], h.setFrz hdl f6 (putIn_on k1) ?_, .inr ⟨g1, rfl⟩, ?_, fun b hb => .inl hb, fun k hk => other _ k _ hdl hk⟩
      · rw [frz_map] at k1
        exact f10 w _ (updS S pl.holder T2) _ [x] _ A' k1 (by simp [frzs_eq_map]) hfr (fun _ h => h.elim) (fun b hb => .inl hb) (fun _ _ _ => rfl) (.same f3) (fun b hb => by simp only [updS, if_true]; exact hb.elim id fun h => h.elim)
      · rw [g2] at hwh ⊢
        simp only [OV.wholes, Bool.and_true] at hwh
        exact .one (.p ((g7 _ _ hO).freeze hwh (fun b hb => hb.imp id fun h => ⟨f5 b h, f7 b h⟩)))
end
end Go.Pv
end

section
namespace Go.Pv
open Go.RowKit
set_option linter.unusedVariables false
set_option linter.unusedSimpArgs false
def valsOf (a : Act) : Nat → Value := fun t => a.tmps.getD t undef
structure Inv {I : World → Prop} (B : Base I) (K : Kills) (σ : List AV) (a : Act) (w : World) : Prop where
  defers : a.defers = B.ds
  size : a.tmps.size = σ.length
  st : ∃ Fz S, St B K σ (valsOf a) w Fz S ∧ ∀ k, σ.length ≤ k → ∀ b, ¬ S k b
theorem valsOf_put (a : Act) (d : Nat) (x : Value) : valsOf (a.put (some d) x) = if d < a.tmps.size then upd (valsOf a) d x else valsOf a := by
  funext t
  simp only [valsOf, Act.put]
  split
  · rename_i h
    simp only [upd, valsOf]
    by_cases ht : t = d
    · subst ht
      simp [Array.getD_eq_getD_getElem?, Array.getElem?_setIfInBounds, h]
    · simp [Array.getD_eq_getD_getElem?, Array.getElem?_setIfInBounds, ht, fun e => ht (Eq.symm e)]
      rw [if_neg (fun e => ht e.symm)]
  · rename_i h
    rw [Array.setIfInBounds_eq_of_size_le (by omega)]
    rfl
section
variable {I : World → Prop} {B : Base I} {K : Kills} {σ σ' σ1 : List AV} {vals vals' : Nat → Value} {w w' : World} {Fz Fz' : BSet} {S S' : Nat → BSet} {a : Act} {hd : Nat} {dst : Option Nat} {v : AV} {x : Value}
theorem mvS_dis (h : ∀ t u b, t ≠ u → S t b → ¬ S u b) (hd d : Nat) (hne : hd ≠ d) : ∀ t u b, t ≠ u → mvS S hd d t b → ¬ mvS S hd d u b := by
  intro t u b htu ht hu
  simp only [mvS] at ht hu
  split at ht
  · rename_i e; subst e
    rw [if_neg (fun e => htu e.symm)] at hu
    split at hu
    · exact hu
    · rename_i e2; exact h hd u b (fun e => e2 e.symm) ht hu
  · split at ht
    · exact ht
    · rename_i e1 e2
      split at hu
      · exact h t hd b e2 ht hu
      · split at hu
        · exact hu
        · exact h t u b htu ht hu
theorem St.drop (h : St B K σ vals w Fz S) (h0 : σ.length ≤ hd) : St B K σ vals w Fz (updS S hd fun _ => False) := by
  refine ⟨fun t => ?_, fun t u b htu ht hu => ?_, fun t b ht => ?_, h.hol, h.frz, h.os, h.tape, h.output, h.size, h.old, h.fz0, h.fz1⟩
  · rcases Nat.lt_or_ge t σ.length with htl | htl
    · refine (h.rep t).keep (fun _ h => h) (fun _ _ => rfl) (fun b hb => by simp only [updS, if_neg (show t ≠ hd by omega)]; exact hb) (fun h' hon => Held.same _ _ _ rfl (fun b hb => .inl ?_) (fun _ _ => rfl))
      have := h.hol t h' hon
      simp only [updS, if_neg (show h' ≠ hd by omega)]; exact hb
    · have : σ.getD t .u = .u := by simp [List.getD_eq_getElem?_getD, List.getElem?_eq_none htl]
      rw [this]; trivial
  · simp only [updS] at ht hu
    split at ht
    · exact ht
    · split at hu
      · exact hu
      · exact h.dis t u b htu ht hu
  · simp only [updS] at ht
    split at ht
    · exact ht.elim
    · exact h.tok t b ht
theorem fin (h : St B K σ (valsOf a) w Fz S) (hdf : a.defers = B.ds) (hn : a.tmps.size = σ.length) (h0 : σ.length ≤ hd) (hfree : ∀ k, σ.length ≤ k → k ≠ hd → ∀ b, ¬ S k b) {u : Unit}
    (hr : (out K dst v).run σ = some (u, σ')) (hv : ∀ d, dst = some d → RepA (valsOf a) w Fz (mvS S hd d) K d v x) (hon : ∀ h, v.on h = true → h < σ.length) : Inv B K σ' (a.put dst x) w := by
  cases dst with
  | none =>
    simp only [out, Pg.run_ret, Option.some.injEq, Prod.mk.injEq, true_and] at hr
    subst hr
    refine ⟨hdf, hn, Fz, _, h.drop h0, fun k hk b hb => ?_⟩
    simp only [updS] at hb
    split at hb
    · exact hb
    · rename_i hne; exact hfree k hk hne b hb
  | some d =>
    simp only [out] at hr
    have hne : hd ≠ d ∨ σ.length ≤ d := by omega
    have hrep := hv d rfl
    rcases Nat.lt_or_ge d σ.length with hdl | hdl
    · have hne : hd ≠ d := by omega
      obtain ⟨k1, k2⟩ := h.wr (x := x) (S' := mvS S hd d) hr (fun t ht htl => by simp [mvS, ht, show t ≠ hd by omega]) (mvS_dis h.dis hd d hne)
        (fun t b hb => by
          simp only [mvS] at hb
          split at hb
          · exact h.tok hd b hb
          · split at hb
            · exact hb.elim
            · exact h.tok t b hb)
        (fun _ => hrep.keep (fun _ h => h) (fun _ _ => rfl) (fun _ h => h) (fun h' ho => Held.same _ _ _ (by simp only [upd]; rw [if_neg (fun e => (leans_of_on hrep ho).2 e.symm)]) (fun b hb => .inl hb) (fun _ _ => rfl))) hon
      refine ⟨hdf, by simp [Act.put, k2, hn], Fz, mvS S hd d, ?_, fun k hk b hb => ?_⟩
      · rw [valsOf_put, if_pos (by omega)]; exact k1
      · simp only [mvS] at hb
        rw [if_neg (by omega)] at hb
        split at hb
        · exact hb
        · rename_i hne; exact hfree k (by omega) hne b hb
    · obtain ⟨k1, k2⟩ := (h.drop h0).wr (x := valsOf a d) (S' := updS S hd fun _ => False) (by exact hr) (fun t ht htl => rfl) (h.drop h0).dis (h.drop h0).tok (fun h => by omega) hon
      have hu : upd (valsOf a) d (valsOf a d) = valsOf a := by funext t; simp only [upd]; split <;> simp_all
      rw [hu] at k1
      refine ⟨hdf, by simp [Act.put, k2, hn], Fz, updS S hd fun _ => False, ?_, fun k hk b hb => ?_⟩
      · rw [valsOf_put, if_neg (by omega)]; exact k1
      · simp only [updS] at hb
        split at hb
        · exact hb
        · rename_i hne; exact hfree k (by omega) hne b hb
theorem Inv.free (h : ∀ k, σ.length ≤ k → ∀ b, ¬ S k b) (hd : Nat) : ∀ k, σ.length ≤ k → k ≠ hd → ∀ b, ¬ S k b := fun k hk _ => h k hk
theorem mvS_d (S : Nat → BSet) (hd d : Nat) : mvS S hd d d = S hd := by simp [mvS]
theorem mk_cells {ag : Bool} {cs : List OV} (h : AV.mk ag cs = some v) : (ag = true ∧ v = .a cs) ∨ (ag = false ∧ ∃ c, cs = [c] ∧ v = .w c) := by
  cases ag with
  | true => simp [AV.mk] at h; exact .inl ⟨rfl, h.symm⟩
  | false =>
    simp only [AV.mk, Bool.false_eq_true, if_false] at h
    split at h
    · simp at h; exact .inr ⟨rfl, _, rfl, h.symm⟩
    · simp at h
theorem repA_val {ag : Bool} {cs : List OV} {vs : List Value} {d : Nat} (h : AV.mk ag cs = some v) (hv : valIs ag x vs) (hL : RepL w Fz cs vs (S d)) : RepA vals w Fz S K d v x := by
  rcases mk_cells h with ⟨rfl, rfl⟩ | ⟨rfl, c, rfl, rfl⟩
  · rcases hv with ⟨_, rfl⟩ | ⟨e, _⟩
    · exact ⟨vs, rfl, hL⟩
    · simp at e
  · rcases hv with ⟨e, _⟩ | ⟨_, rfl⟩
    · simp at e
    · obtain ⟨y, e, hO⟩ := hL.of_one
      simp at e; subst e
      exact hO
theorem mk_on {ag : Bool} {cs : List OV} (h : AV.mk ag cs = some v) (y : Nat) : v.on y = false := by
  rcases mk_cells h with ⟨rfl, rfl⟩ | ⟨rfl, c, rfl, rfl⟩ <;> rfl
theorem fin_val {ag : Bool} {cs : List OV} {vs : List Value} (h : St B K σ (valsOf a) w Fz S) (hdf : a.defers = B.ds) (hn : a.tmps.size = σ.length) (h0 : σ.length ≤ hd) (hfree : ∀ k, σ.length ≤ k → k ≠ hd → ∀ b, ¬ S k b) {u : Unit}
    (hr : (outVal K dst ag cs).run σ = some (u, σ')) (hv : valIs ag x vs) (hL : RepL w Fz cs vs (S hd)) : Inv B K σ' (a.put dst x) w := by
  obtain ⟨v, e, hr⟩ := Pg.opt_some hr
  exact fin h hdf hn h0 hfree hr (fun d _ => repA_val e hv (by rw [mvS_d]; exact hL)) (fun y hy => by rw [mk_on e] at hy; simp at hy)
theorem fin_p {c : PV} (h : St B K σ (valsOf a) w Fz S) (hdf : a.defers = B.ds) (hn : a.tmps.size = σ.length) (h0 : σ.length ≤ hd) (hfree : ∀ k, σ.length ≤ k → k ≠ hd → ∀ b, ¬ S k b) {u : Unit}
    (hr : (out K dst (.w (.p c))).run σ = some (u, σ')) (hv : RepP w Fz c x) : Inv B K σ' (a.put dst x) w :=
  fin h hdf hn h0 hfree hr (fun d _ => .p hv) (fun y hy => by simp [AV.on] at hy)
theorem fin_w {c : OV} (h : St B K σ (valsOf a) w Fz S) (hdf : a.defers = B.ds) (hn : a.tmps.size = σ.length) (h0 : σ.length ≤ hd) (hfree : ∀ k, σ.length ≤ k → k ≠ hd → ∀ b, ¬ S k b) {u : Unit}
    (hr : (out K dst (.w c)).run σ = some (u, σ')) (hv : RepO w Fz c x (S hd)) : Inv B K σ' (a.put dst x) w :=
  fin h hdf hn h0 hfree hr (fun d _ => by show RepO w Fz c x (mvS S hd d d); rw [mvS_d]; exact hv) (fun y hy => by simp [AV.on] at hy)
def AV.isLean : AV → Bool
  | .ptr _ | .al _ _ _ | .sv _ _ _ _ => true
  | _ => false
theorem lean_congr {T : Nat → BSet} {d : Nat} (h : RepA vals w Fz S K d v x) (hl : v.isLean = true) (hT : ∀ t, t ≠ d → T t = S t) : RepA vals w Fz T K d v x := by
  have hh : ∀ {g : Nat} {m e : Bool}, Leans K d g → Held vals vals w w Fz Fz S T m e g := fun {g m e} hg => Held.same _ _ _ rfl (fun b hb => .inl (by rw [hT g hg.2.symm]; exact hb)) (fun _ _ => rfl)
  cases v with
  | ptr pl => obtain ⟨⟨ad, h1, h2⟩, h3⟩ := h; exact ⟨⟨ad, h1.keep (m := true) (e := true) (fun _ h => h) (fun _ _ => rfl) (hh h3) (fun _ => ⟨rfl, rfl⟩), h2⟩, h3⟩
  | al pl n ag =>
    cases pl with
    | r d' => exact h
    | b d' off => obtain ⟨⟨vs, ⟨ad, h1, h2⟩, h4⟩, h3⟩ := h; exact ⟨⟨vs, ⟨ad, PlAddr.keepM (e := true) h1 (fun _ h => h) (fun _ _ => rfl) (hh h3) (fun _ => rfl), h2⟩, h4⟩, h3⟩
    | e d' c z i off => obtain ⟨⟨vs, ⟨ad, h1, h2⟩, h4⟩, h3⟩ := h; exact ⟨⟨vs, ⟨ad, PlAddr.keepM (e := true) h1 (fun _ h => h) (fun _ _ => rfl) (hh h3) (fun _ => rfl), h2⟩, h4⟩, h3⟩
  | sv pl z lo hi =>
    obtain ⟨⟨a, len, cap, h1, h2⟩, h3⟩ := h
    refine ⟨⟨a, len, cap, ?_, h2⟩, h3⟩
    cases pl with
    | r d' => exact h1
    | b d' off => obtain ⟨ad, h1, h4⟩ := h1; exact ⟨ad, PlAddr.keepM (e := true) h1 (fun _ h => h) (fun _ _ => rfl) (hh h3) (fun _ => rfl), h4⟩
    | e d' c z i off => obtain ⟨ad, h1, h4⟩ := h1; exact ⟨ad, PlAddr.keepM (e := true) h1 (fun _ h => h) (fun _ _ => rfl) (hh h3) (fun _ => rfl), h4⟩
  | _ => simp [AV.isLean] at hl
theorem fin_on {g : Nat} (h : St B K σ (valsOf a) w Fz S) (hdf : a.defers = B.ds) (hn : a.tmps.size = σ.length) (hfree : ∀ k, σ.length ≤ k → ∀ b, ¬ S k b) {u : Unit}
    (hr : (outOn K dst g v).run σ = some (u, σ')) (hv : ∀ d, dst = some d → Leans K d g → RepA (valsOf a) w Fz S K d v x) (hle : v.isLean = true) (hon : ∀ h, v.on h = true → h = g) (hg : g < σ.length) : Inv B K σ' (a.put dst x) w := by
  cases dst with
  | none => exact fin (v := .u) (hd := σ.length) h hdf hn (Nat.le_refl _) (Inv.free hfree _) hr (fun d e => by simp at e) (fun y hy => by simp [AV.on] at hy)
  | some d =>
    simp only [outOn] at hr
    split at hr
    case isFalse => simp at hr
    rename_i hc
    simp only [Bool.and_eq_true, bne_iff_ne, ne_eq] at hc
    refine fin (hd := σ.length) h hdf hn (Nat.le_refl _) (Inv.free hfree _) (dst := some d) hr (fun d' e => ?_) (fun y hy => by rw [hon y hy]; exact hg)
    simp only [Option.some.injEq] at e
    subst e
    have h1 := hv d rfl ⟨hc.1, hc.2⟩
    refine lean_congr h1 hle (fun t ht => ?_)
    simp only [mvS, if_neg ht]
    split
    · rename_i e
      subst e
      funext b
      exact propext ⟨fun h => h.elim, fun hb => hfree _ (Nat.le_refl _) b hb⟩
    · rfl
end
end Go.Pv
end

section
namespace Go.Pv
open Go.RowKit
set_option linter.unusedVariables false
set_option linter.unusedSimpArgs false
section
variable {P : Program} {I : World → Prop} {B : Base I} {K : Kills} {σ σ' σ1 : List AV} {vals vals' : Nat → Value} {w w' : World} {Fz Fz' : BSet} {S S' : Nat → BSet} {a : Act} {hd : Nat} {dst : Option Nat} {v : AV} {x y : Value} {o : Oper} {Kt : Act → World → Prop} {Q : Exit → Act → World → Prop}
theorem wp_value (hr : (execOp a.eval o).run P w = .ok (.value x) w') (h : Kt (a.put o.dst x) w') : o.wp P a w Kt Q := by
  unfold Oper.wp; rw [hr]; exact h
theorem wp_skip' (hr : (execOp a.eval o).run P w = .ok .skip w') (h : Kt (a.put o.dst undef) w') : o.wp P a w Kt Q := by
  unfold Oper.wp; rw [hr]; exact h
theorem constCell_ok {z c : OV} {v : Value} (h : constCell z v = some c) : RepO w Fz c v (fun _ => False) := by
  unfold constCell at h
  split at h <;> simp at h
  · subst h; exact .p (.bool _)
  · obtain ⟨rfl, rfl⟩ := h; exact .p (.int _ _)
  · subst h; exact .p (.str _)
  · subst h; exact .nil _ _ _
theorem constCells_ok : ∀ {zs cs : List OV} {vs : List Value}, constCells zs vs = some cs → RepL w Fz cs vs (fun _ => False)
  | [], cs, [], h => by simp [constCells] at h; subst h; trivial
  | z :: zs, cs, v :: vs, h => by
    simp only [constCells] at h
    split at h <;> simp at h
    rename_i c cs' h1 h2
    subst h
    exact ⟨fun _ => False, fun _ => False, constCell_ok h1, constCells_ok h2, fun _ h => h, fun _ h => h, fun _ h => h.elim⟩
  | [], _, _ :: _, h => by simp [constCells] at h
  | _ :: _, _, [], h => by simp [constCells] at h
theorem constAV_ok {t : TypeId} {v : Value} {A : AV} (h : constAV P t v = some A) : ConstOk A v := by
  intro w Fz
  unfold constAV at h
  split at h
  · simp at h; subst h; exact .p (.bool _)
  · simp at h; subst h; exact .p (.int _ _)
  · simp at h; subst h; exact .p (.str _)
  · split at h <;> simp at h
    subst h; exact .nil _ _ _
  · rename_i cs
    split at h
    case h_2 => simp at h
    split at h <;> simp at h
    rename_i l hl
    subst h
    exact ⟨cs.toList, by simp, constCells_ok hl⟩
  · simp at h
theorem odOf_ok {t : TypeId} {x : Operand} {od : Od} (h : odOf P t x = some od) : OdIs (valsOf a) od (a.eval x) := by
  cases x with
  | tmp i => simp [odOf] at h; subst h; rfl
  | const v =>
    simp only [odOf] at h
    split at h <;> simp at h
    rename_i A hA
    subst h
    exact constAV_ok hA
  | global g => simp [odOf] at h
  | func f => simp [odOf] at h; subst h; intro w Fz; rfl
theorem odS_ok {x : Operand} {od : Od} (h : odS x = some od) : OdIs (valsOf a) od (a.eval x) := by
  unfold odS at h
  split at h <;> simp at h <;> subst h
  · rfl
  · intro w Fz; exact .p (.bool _)
  · intro w Fz; exact .p (.int _ _)
  · intro w Fz; exact .p (.str _)
theorem odT_ok {x : Operand} {od : Od} (h : odT x = some od) : ∃ i, x = .tmp i ∧ od = .t i := by
  unfold odT at h
  split at h <;> simp at h
  exact ⟨_, rfl, h.symm⟩
theorem constOk_repA {A : AV} {t : Nat} (h : ConstOk A y) : RepA vals w Fz S K t A y ∧ ∀ g, A.on g = false := by
  have := h w Fz
  cases A with
  | w c => exact ⟨RepO.mono this fun _ h => h.elim, fun _ => rfl⟩
  | a cs => obtain ⟨vs, h1, h2⟩ := this; exact ⟨⟨vs, h1, h2.mono fun _ h => h.elim⟩, fun _ => rfl⟩
  | clo f caps =>
    cases caps with
    | nil => exact ⟨⟨[], this, trivial⟩, fun _ => rfl⟩
    | cons => exact this.elim
  | _ => exact this.elim
theorem sc_ok {x : Od} {c : PV} (h : St B K σ vals w Fz S) (hx : OdIs vals x y) (hr : (sc x).run σ = some (c, σ1)) : σ1 = σ ∧ RepP w Fz c y := by
  obtain ⟨v, σ2, h1, h2⟩ := Pg.bind_some hr
  obtain ⟨rfl, hv⟩ := val_ok h hx h1
  split at h2
  · rename_i p hag hcs
    simp only [Pg.run_ret, Option.some.injEq, Prod.mk.injEq] at h2
    obtain ⟨rfl, rfl⟩ := h2
    obtain ⟨vs, T, g1, g2, _⟩ := hv.rep h
    rw [hag] at g1
    rw [hcs] at g2
    rcases g1 with ⟨e, _⟩ | ⟨_, rfl⟩
    · simp at e
    · obtain ⟨y', e, hO⟩ := g2.of_one
      simp at e; subst e
      cases hO with | p h => exact ⟨rfl, h⟩
  · simp at h2
theorem repP_int {k : IntKind} {n : Int} (h : RepP w Fz (.int k n) y) : y = .int k n := by cases h; rfl
theorem repP_bool {b : Bool} (h : RepP w Fz (.bool b) y) : y = .bool b := by cases h; rfl
theorem repP_str {s : List UInt8} (h : RepP w Fz (.str s) y) : y = .string ⟨s.toArray⟩ := by cases h; rfl
theorem scInt_ok {x : Od} {n : Int} (h : St B K σ vals w Fz S) (hx : OdIs vals x y) (hr : (scInt x).run σ = some (n, σ1)) : σ1 = σ ∧ ∃ k, y = .int k n := by
  obtain ⟨c, σ2, h1, h2⟩ := Pg.bind_some hr
  obtain ⟨rfl, hc⟩ := sc_ok h hx h1
  cases c <;> simp at h2
  obtain ⟨rfl, rfl⟩ := h2
  exact ⟨rfl, _, repP_int hc⟩
def Sound (I : World → Prop) (P : Program) (callf : Nat → List AV → Option CRes) (o : Oper) (io : IOp) : Prop :=
  ∀ {B : Base I} {K : Kills} {σ σ' : List AV} {a : Act} {w : World} {u : Unit}, Inv B K σ a w → (opP K callf o.dst io).run σ = some (u, σ') →
    ∀ {Kt : Act → World → Prop} {Q : Exit → Act → World → Prop}, (∀ a' w', Inv B K σ' a' w' → Kt a' w') → o.wp P a w Kt Q
theorem capsOn_ok {d t : Nat} : ∀ {caps : List AV} {cvs : List Value}, RepCaps vals w Fz S K t caps cvs → capsOn K d caps = true → RepCaps vals w Fz S K d caps cvs
  | [], [], _, _ => trivial
  | .w c :: r, v :: vs, ⟨h1, h2, h3⟩, hc => by
    simp only [capsOn, Bool.and_eq_true] at hc
    exact ⟨h1, h2, capsOn_ok h3 hc.2⟩
  | .a cs :: r, v :: vs, ⟨h1, h2, h3⟩, hc => by
    simp only [capsOn, Bool.and_eq_true] at hc
    exact ⟨h1, h2, capsOn_ok h3 hc.2⟩
  | .ptr (.b g 0) :: r, v :: vs, ⟨h1, h2, h3⟩, hc => by
    simp only [capsOn, Bool.and_eq_true, bne_iff_ne, ne_eq] at hc
    exact ⟨h1, ⟨hc.1.1, hc.1.2⟩, capsOn_ok h3 hc.2⟩
  | .ptr (.b g (n + 1)) :: r, v :: vs, _, hc => by simp [capsOn] at hc
  | [], _ :: _, h, _ => by simp [RepCaps] at h
  | .w _ :: _, [], h, _ => by simp [RepCaps] at h
  | .a _ :: _, [], h, _ => by simp [RepCaps] at h
  | .ptr (.b _ _) :: _, [], h, _ => by simp [RepCaps] at h
  | .ptr (.r _) :: _, _, h, _ => by simp [RepCaps] at h
  | .ptr (.e _ _ _ _ _) :: _, _, h, _ => by simp [RepCaps] at h
  | .u :: _, _, h, _ => by simp [RepCaps] at h
  | .t _ :: _, _, h, _ => by simp [RepCaps] at h
  | .box _ :: _, _, h, _ => by simp [RepCaps] at h
  | .fp _ :: r, v :: vs, ⟨h1, h3⟩, hc => ⟨h1, capsOn_ok h3 (by simpa [capsOn] using hc)⟩
  | .fp _ :: _, [], h, _ => by simp [RepCaps] at h
  | .al _ _ _ :: _, _, h, _ => by simp [RepCaps] at h
  | .sv _ _ _ _ :: _, _, h, _ => by simp [RepCaps] at h
  | .clo _ _ :: _, _, h, _ => by simp [RepCaps] at h
  | .mp _ :: _, _, h, _ => by simp [RepCaps] at h
  | .it _ _ :: _, _, h, _ => by simp [RepCaps] at h
  | .ln _ :: _, _, h, _ => by simp [RepCaps] at h
theorem capsOn_congr {d : Nat} {T : Nat → BSet} : ∀ {caps : List AV} {cvs : List Value}, RepCaps vals w Fz S K d caps cvs → (∀ t, t ≠ d → T t = S t) → RepCaps vals w Fz T K d caps cvs
  | [], [], _, _ => trivial
  | .w c :: r, v :: vs, ⟨h1, h2, h3⟩, hT => ⟨h1, h2, capsOn_congr h3 hT⟩
  | .a cs :: r, v :: vs, ⟨h1, h2, h3⟩, hT => ⟨h1, h2, capsOn_congr h3 hT⟩
  | .ptr (.b g off) :: r, v :: vs, ⟨⟨ad, ⟨b, e1, e3⟩, e4⟩, h2, h3⟩, hT => ⟨⟨ad, ⟨b, e1, e3⟩, e4⟩, h2, capsOn_congr h3 hT⟩
  | [], _ :: _, h, _ => by simp [RepCaps] at h
  | .w _ :: _, [], h, _ => by simp [RepCaps] at h
  | .a _ :: _, [], h, _ => by simp [RepCaps] at h
  | .ptr (.b _ _) :: _, [], h, _ => by simp [RepCaps] at h
  | .ptr (.r _) :: _, _, h, _ => by simp [RepCaps] at h
  | .ptr (.e _ _ _ _ _) :: _, _, h, _ => by simp [RepCaps] at h
  | .u :: _, _, h, _ => by simp [RepCaps] at h
  | .t _ :: _, _, h, _ => by simp [RepCaps] at h
  | .box _ :: _, _, h, _ => by simp [RepCaps] at h
  | .fp _ :: r, v :: vs, ⟨h1, h3⟩, hT => ⟨h1, capsOn_congr h3 hT⟩
  | .fp _ :: _, [], h, _ => by simp [RepCaps] at h
  | .al _ _ _ :: _, _, h, _ => by simp [RepCaps] at h
  | .sv _ _ _ _ :: _, _, h, _ => by simp [RepCaps] at h
  | .clo _ _ :: _, _, h, _ => by simp [RepCaps] at h
  | .mp _ :: _, _, h, _ => by simp [RepCaps] at h
  | .it _ _ :: _, _, h, _ => by simp [RepCaps] at h
  | .ln _ :: _, _, h, _ => by simp [RepCaps] at h
theorem fin_clo {f d : Nat} {caps : List AV} {cvs : List Value} (h : St B K σ (valsOf a) w Fz S) (hdf : a.defers = B.ds) (hn : a.tmps.size = σ.length) (hfree : ∀ k, σ.length ≤ k → ∀ b, ¬ S k b) {u : Unit}
    (hr : (wr K d (.clo f caps)).run σ = some (u, σ')) (hc : RepCaps (valsOf a) w Fz S K d caps cvs) (hh : ∀ g, (AV.clo f caps).on g = true → g < σ.length) : Inv B K σ' (a.put (some d) (.func (.func f) #[] cvs.toArray)) w := by
  refine fin (hd := σ.length) h hdf hn (Nat.le_refl _) (Inv.free hfree _) (dst := some d) hr (fun d' e => ?_) hh
  simp only [Option.some.injEq] at e
  subst e
  refine ⟨cvs, rfl, capsOn_congr hc fun t ht => ?_⟩
  simp only [mvS, if_neg ht]
  split
  · rename_i e
    subst e
    funext b
    exact propext ⟨fun h => h.elim, fun hb => hfree _ (Nat.le_refl _) b hb⟩
  · rfl
theorem movPtr_ok {i : Nat} {els : Pg Unit} {A : AV} {u : Unit} (h : St B K σ (valsOf a) w Fz S) (hdf : a.defers = B.ds) (hn : a.tmps.size = σ.length) (hfree : ∀ k, σ.length ≤ k → ∀ b, ¬ S k b) (hA : σ.getD i .u = A)
    (hr : (movPtr K dst i els A).run σ = some (u, σ')) (he : els.run σ = some (u, σ') → Inv B K σ' (a.put dst (valsOf a i)) w) : Inv B K σ' (a.put dst (valsOf a i)) w := by
  have hrep := h.rep i
  rw [hA] at hrep
  have hol : ∀ g, A.on g = true → g < σ.length := fun g hg => h.hol i g (by rw [hA]; exact hg)
  cases A with
  | box cs =>
    have hil : i < σ.length := lt_of_getD (by rw [hA]; simp)
    obtain ⟨b, vs, h1, h2, _⟩ := hrep
    exact fin_on h hdf hn hfree hr (fun d _ hl => ⟨⟨⟨b, 0, none⟩, ⟨b, h1, rfl⟩, h1⟩, hl⟩) rfl (fun g hg => by simp [AV.on, Pl.holder] at hg; exact hg.symm) hil
  | ptr pl =>
    exact fin_on h hdf hn hfree hr (fun d _ hl => ⟨hrep.1, hl⟩) rfl (fun g hg => by simp [AV.on] at hg; exact hg.symm) (hol _ (by simp [AV.on]))
  | fp cs =>
    exact fin (hd := σ.length) h hdf hn (Nat.le_refl _) (Inv.free hfree _) hr (fun d _ => hrep) (fun g hg => by simp [AV.on] at hg)
  | clo f caps =>
    obtain ⟨cvs, h1, h2⟩ := hrep
    cases dst with
    | none =>
      simp only [movPtr, Pg.run_ret, Option.some.injEq, Prod.mk.injEq] at hr
      obtain ⟨_, rfl⟩ := hr
      exact ⟨hdf, hn, Fz, S, h, hfree⟩
    | some d =>
      simp only [movPtr] at hr
      split at hr
      · rename_i hc
        rw [h1]
        exact fin_clo h hdf hn hfree hr (capsOn_ok h2 hc) hol
      · simp at hr
  | _ => exact he hr
theorem movVal_ok {i : Nat} {A : AV} {u : Unit} (h : St B K σ (valsOf a) w Fz S) (hdf : a.defers = B.ds) (hn : a.tmps.size = σ.length) (hfree : ∀ k, σ.length ≤ k → ∀ b, ¬ S k b) (hA : σ.getD i .u = A)
    (hr : (movVal K dst i A).run σ = some (u, σ')) : Inv B K σ' (a.put dst (valsOf a i)) w := by
  have hrep := h.rep i
  rw [hA] at hrep
  have hol : ∀ g, A.on g = true → g < σ.length := fun g hg => h.hol i g (by rw [hA]; exact hg)
  cases A with
  | w c =>
    have hil : i < σ.length := lt_of_getD (by rw [hA]; simp)
    simp only [movVal] at hr
    split at hr
    · rename_i hc
      cases c <;> simp [OV.plain] at hc
      cases hrep with
      | p hp => exact fin_p (hd := σ.length) h hdf hn (Nat.le_refl _) (Inv.free hfree _) hr hp
    · exact fin_on h hdf hn hfree hr (fun d _ hl => ⟨rfl, hl⟩) rfl (fun g hg => by simp [AV.on, Pl.holder] at hg; exact hg.symm) hil
  | a cs =>
    have hil : i < σ.length := lt_of_getD (by rw [hA]; simp)
    simp only [movVal] at hr
    split at hr
    · rename_i hc
      obtain ⟨vs, h1, h2⟩ := hrep
      exact fin (hd := σ.length) h hdf hn (Nat.le_refl _) (Inv.free hfree _) hr (fun d _ => ⟨vs, h1, h2.plain hc⟩) (fun g hg => by simp [AV.on] at hg)
    · exact fin_on h hdf hn hfree hr (fun d _ hl => ⟨rfl, hl⟩) rfl (fun g hg => by simp [AV.on, Pl.holder] at hg; exact hg.symm) hil
  | al pl n ag =>
    refine fin_on h hdf hn hfree hr (fun d _ hl => ?_) rfl (fun g hg => by simp [AV.on] at hg; exact hg.symm) (hol _ (by simp [AV.on]))
    cases pl with
    | r d' => exact ⟨hrep.1, hl⟩
    | b d' off => exact ⟨hrep.1, hl⟩
    | e d' c z j off => exact ⟨hrep.1, hl⟩
  | sv pl z lo hi =>
    exact fin_on h hdf hn hfree hr (fun d _ hl => ⟨hrep.1, hl⟩) rfl (fun g hg => by simp [AV.on] at hg; exact hg.symm) (hol _ (by simp [AV.on]))
  | t vs =>
    have hil : i < σ.length := lt_of_getD (by rw [hA]; simp)
    simp only [movVal] at hr
    obtain ⟨u1, σ1, k1, k2⟩ := Pg.bind_some hr
    obtain ⟨k3, k4⟩ := h.takeReg k1 hil (Nat.le_refl _) (hfree _ (Nat.le_refl _))
    obtain ⟨us, e1, e2⟩ := hrep
    refine fin (hd := σ.length) k3 hdf (hn.trans k4.symm) (by omega) (fun k hk hne b => ?_) k2 (fun d _ => ⟨us, e1, ?_⟩) (fun g hg => by simp [AV.on] at hg)
    · simp only [updS, if_neg hne, if_neg (show k ≠ i by omega)]
      exact hfree k (by omega) b
    · rw [mvS_d]; simp only [updS, if_true]; exact e2
  | mp kvs =>
    have hil : i < σ.length := lt_of_getD (by rw [hA]; simp)
    simp only [movVal] at hr
    exact fin_on h hdf hn hfree hr (fun d _ hl => ⟨rfl, hl⟩) rfl (fun g hg => by simp [AV.on, Pl.holder] at hg; exact hg.symm) hil
  | _ => simp [movVal] at hr
variable {callf : Nat → List AV → Option CRes}
theorem sound_const {A : AV} {u : Unit} (hI : Inv B K σ a w) (hc : ConstOk A y) (hr : (out K dst A).run σ = some (u, σ')) : Inv B K σ' (a.put dst y) w := by
  obtain ⟨hdf, hn, Fz, S, h, hfree⟩ := hI
  exact fin (hd := σ.length) h hdf hn (Nat.le_refl _) (Inv.free hfree _) hr (fun d _ => (constOk_repA hc).1) (fun g hg => by rw [(constOk_repA (vals := valsOf a) (w := w) (Fz := Fz) (S := S) (K := K) (t := 0) hc).2] at hg; simp at hg)
theorem sound_mov {x : Operand} {od : Od} (ho : o.op = .move x) (hx : odOf P o.type x = some od) : Sound I P callf o (.mov od) := by
  intro B K σ σ' a w u hI hr Kt Q hk
  refine wp_value (x := a.eval x) (w' := w) (by simp [execOp, ho]) (hk _ _ ?_)
  have hod := odOf_ok (a := a) hx
  cases od with
  | c A => exact sound_const hI hod hr
  | t i =>
    have e : a.eval x = valsOf a i := hod.symm
    rw [e]
    obtain ⟨hdf, hn, Fz, S, h, hfree⟩ := hI
    simp only [opP, Pg.run_get] at hr
    exact movPtr_ok h hdf hn hfree rfl hr fun hr => movVal_ok h hdf hn hfree rfl hr
theorem sound_movl {x : Operand} {od : Od} (ho : o.op = .move x) (hx : odOf P o.type x = some od) : Sound I P callf o (.movl od) := by
  intro B K σ σ' a w u hI hr Kt Q hk
  refine wp_value (x := a.eval x) (w' := w) (by simp [execOp, ho]) (hk _ _ ?_)
  have hod := odOf_ok (a := a) hx
  cases od with
  | c A => simp [opP] at hr
  | t i =>
    have e : a.eval x = valsOf a i := hod.symm
    rw [e]
    obtain ⟨hdf, hn, Fz, S, h, hfree⟩ := hI
    simp only [opP, Pg.run] at hr
    split at hr
    · rename_i m hm
      have hil : i < σ.length := lt_of_getD (fun e => by rw [e] at hm; simp [AV.rowLen] at hm)
      exact fin_on h hdf hn hfree hr (fun d _ hl => ⟨rfl, hl⟩) rfl (fun g hg => by simp [AV.on, Pl.holder] at hg; exact hg.symm) hil
    · simp at hr
theorem sound_movk {x : Operand} {od : Od} (ho : o.op = .move x) (hx : odOf P o.type x = some od) : Sound I P callf o (.movk od) := by
  intro B K σ σ' a w u hI hr Kt Q hk
  refine wp_value (x := a.eval x) (w' := w) (by simp [execOp, ho]) (hk _ _ ?_)
  have hod := odOf_ok (a := a) hx
  cases od with
  | c A => simp [opP] at hr
  | t i =>
    have e : a.eval x = valsOf a i := hod.symm
    rw [e]
    obtain ⟨hdf, hn, Fz, S, h, hfree⟩ := hI
    simp only [opP, Pg.run_get] at hr
    split at hr
    case h_2 => simp at hr
    rename_i z els hit
    have hil : i < σ.length := lt_of_getD (fun e => by rw [hit] at e; simp at e)
    have hrep := h.rep i
    rw [hit] at hrep
    have hlen : ∃ x cap, valsOf a i = .slice x els.length cap := by
      have hrep' : RepO w Fz (.own z els) (valsOf a i) (S i) := hrep
      generalize valsOf a i = y at hrep'
      cases hrep' with
      | nil z a _ => exact ⟨_, _, rfl⟩
      | own z els a cap vs T S ht hs hz hl hcap hrow hn hc hS hd hr => exact ⟨_, _, rfl⟩
    obtain ⟨v, σ1, h1, hr2⟩ := Pg.bind_some hr
    obtain ⟨rfl, hv⟩ := valOf_ok h hrep (fun _ _ => ⟨hit, rfl⟩) h1
    obtain ⟨cs, σ2, h2, hr⟩ := Pg.bind_some hr2
    obtain ⟨rfl, hl, S', vs, h3, h4, h5, h6⟩ := take_ok h hv h2 (Nat.le_refl _) (hfree _ (Nat.le_refl _))
    simp only [Pg.run_put] at hr
    have h7 := h3.setFrz (d := i) (A' := .ln els.length) (T2 := fun _ => False) (by omega) (fun _ q => q.elim) (fun _ => rfl) hlen
    refine fin_val (hd := σ1.length) h7 hdf (by rw [List.length_set]; exact hn.trans hl.symm) (by rw [List.length_set]; omega) (fun k hk hne b => ?_) hr h4 (h5.keep (fun _ q => .inl q) (fun _ _ => rfl) fun b q => ?_)
    · rw [List.length_set] at hk
      simp only [updS, if_neg (show k ≠ i by omega)]
      rw [h6 k (by omega) hne]
      exact hfree k (by omega) b
    · simp only [updS, if_neg (show σ1.length ≠ i by omega)]
      exact q
theorem RepT.freeze {Fz' : BSet} : ∀ {l : List (Bool × List OV)} {us : List Value} {T : BSet}, RepT w Fz l us T → (l.all fun p => OV.wholes p.2) = true → (∀ b, Fz b ∨ T b → Fz' b) → RepT w Fz' (frzT l) us (fun _ => False)
  | [], [], _, _, _, _ => trivial
  | (ag, cs) :: l, u :: us, T, ⟨T1, T2, vs, h0, h1, h2, h3, h4, h5⟩, hw, hF => by
    simp only [List.all_cons, Bool.and_eq_true] at hw
    exact ⟨fun _ => False, fun _ => False, vs, h0, h1.freeze hw.1 fun b hb => hF b (hb.imp id (h3 b)), RepT.freeze h2 hw.2 fun b hb => hF b (hb.imp id (h4 b)), fun _ h => h, fun _ h => h, fun _ h => h.elim⟩
  | [], _ :: _, _, h, _, _ => h.elim
  | _ :: _, [], _, h, _, _ => by simp [RepT] at h
theorem sound_frz {x : Operand} {od : Od} (ho : o.op = .move x) (hx : odOf P o.type x = some od) : Sound I P callf o (.frz od) := by
  intro B K σ σ' a w u hI hr Kt Q hk
  refine wp_value (x := a.eval x) (w' := w) (by simp [execOp, ho]) (hk _ _ ?_)
  have hod := odOf_ok (a := a) hx
  cases od with
  | c A => exact sound_const hI hod hr
  | t i =>
    have e : a.eval x = valsOf a i := hod.symm
    rw [e]
    obtain ⟨hdf, hn, Fz, S, h, hfree⟩ := hI
    simp only [opP, Pg.run_get] at hr
    split at hr
    · rename_i vs hvs
      obtain ⟨hw, hr⟩ := Pg.guard_some hr
      simp only [Pg.run_put] at hr
      have hil : i < σ.length := lt_of_getD (fun e => by rw [hvs] at e; simp at e)
      have hrep := h.rep i
      rw [hvs] at hrep
      obtain ⟨us, e1, e2⟩ := hrep
      have h2 := h.setFrz (d := i) (A' := .t (frzT vs)) (T2 := fun _ => False) hil (fun _ h => h.elim) (fun _ => rfl) ⟨us, e1, (RepT.freeze e2 hw fun b hb => hb.imp id fun h => ⟨h, id⟩ : RepT w (fun b => Fz b ∨ (S i b ∧ ¬ False)) (frzT vs) us (fun _ => False)).keep (fun _ h => h) (fun _ _ => rfl) fun _ h => h.elim⟩
      exact movVal_ok (i := i) (A := .t (frzT vs)) h2 hdf (by rw [hn, List.length_set]) (fun k hk b => by
        rw [List.length_set] at hk
        simp only [updS, if_neg (show k ≠ i by omega)]
        exact hfree k hk b) (by rw [getD_set, if_pos rfl, if_pos hil]) hr
    refine movPtr_ok h hdf hn hfree rfl hr fun hr1 => ?_
    obtain ⟨v, σ1, h1, hr2⟩ := Pg.bind_some hr1
    obtain ⟨rfl, hv⟩ := valOf_ok h (h.rep i) (fun _ _ => ⟨rfl, rfl⟩) h1
    obtain ⟨ps, σ2, h2, hr⟩ := Pg.bind_some hr2
    obtain ⟨rfl, hl, F1, S1, us, q1, q2, q3, q4, q5⟩ := copy_ok h hv h2
    exact fin_val (hd := σ1.length) q1 hdf (hn.trans hl.symm) (by omega) (fun k hk hne b => by rw [q5 k (by omega)]; exact hfree k (by omega) b) hr q2 (q3.mono fun _ q => q.elim)
theorem sound_asg {x : Operand} {od : Od} (ho : o.op = .assign x) (hx : odOf P o.type x = some od) : Sound I P callf o (.asg od) := by
  intro B K σ σ' a w u hI hr Kt Q hk
  refine wp_value (x := a.eval x) (w' := w) (by simp [execOp, ho]) (hk _ _ ?_)
  have hod := odOf_ok (a := a) hx
  cases od with
  | c A => exact sound_const hI hod hr
  | t i =>
    have e : a.eval x = valsOf a i := hod.symm
    rw [e]
    obtain ⟨hdf, hn, Fz, S, h, hfree⟩ := hI
    simp only [opP, Pg.run_get] at hr
    split at hr
    · rename_i kvs hkv
      have hil : i < σ.length := lt_of_getD (fun e => by rw [hkv] at e; simp at e)
      exact fin_on h hdf hn hfree hr (fun d _ hl => ⟨rfl, hl⟩) rfl (fun g hg => by simp [AV.on, Pl.holder] at hg; exact hg.symm) hil
    · rename_i d n hal
      have hrep := h.rep i
      rw [hal] at hrep
      simp only [Pg.run_get] at hr
      split at hr
      · rename_i kvs hkv
        have hil : d < σ.length := lt_of_getD (fun e => by rw [hkv] at e; simp at e)
        exact fin_on h hdf hn hfree hr (fun dd _ hl => ⟨hrep.1, hl⟩) rfl (fun g hg => by simp [AV.on, Pl.holder] at hg; exact hg.symm) hil
      · simp at hr
      · obtain ⟨v, σ1, h1, hr2⟩ := Pg.bind_some hr
        obtain ⟨rfl, hv⟩ := valOf_ok h hrep (fun _ e => by simp [AV.cells] at e) h1
        obtain ⟨cs, σ2, h2, hr⟩ := Pg.bind_some hr2
        obtain ⟨rfl, hl, S', vs, h3, h4, h5, h6⟩ := take_ok h hv h2 (Nat.le_refl _) (hfree _ (Nat.le_refl _))
        exact fin_val (hd := σ1.length) h3 hdf (hn.trans hl.symm) (by omega) (fun k hk hne b => by rw [h6 k (by omega) hne]; exact hfree k (by omega) b) hr h4 h5
    refine movPtr_ok h hdf hn hfree rfl hr fun hr1 => ?_
    obtain ⟨v, σ1, h1, hr2⟩ := Pg.bind_some hr1
    obtain ⟨rfl, hv⟩ := valOf_ok h (h.rep i) (fun _ _ => ⟨rfl, rfl⟩) h1
    obtain ⟨cs, σ2, h2, hr⟩ := Pg.bind_some hr2
    obtain ⟨rfl, hl, S', vs, h3, h4, h5, h6⟩ := take_ok h hv h2 (Nat.le_refl _) (hfree _ (Nat.le_refl _))
    exact fin_val (hd := σ1.length) h3 hdf (hn.trans hl.symm) (by omega) (fun k hk hne b => by rw [h6 k (by omega) hne]; exact hfree k (by omega) b) hr h4 h5
end
end Go.Pv
end

section
namespace Go.Pv
open Go.RowKit
set_option linter.unusedVariables false
set_option linter.unusedSimpArgs false
section
variable {P : Program} {I : World → Prop} {B : Base I} {K : Kills} {σ σ' σ1 : List AV} {vals vals' : Nat → Value} {w w' : World} {Fz Fz' : BSet} {S S' : Nat → BSet} {a : Act} {hd : Nat} {dst : Option Nat} {v : AV} {x y : Value} {o : Oper} {Kt : Act → World → Prop} {Q : Exit → Act → World → Prop} {callf : Nat → List AV → Option CRes}
theorem run_eqGuard_int (op : BinOp) (t : TypeId) (x y : Operand) (k k' : IntKind) (n m : Int) : (eqGuard op t x y (.int k n) (.int k' m)).run P w = .ok () w := by
  unfold eqGuard; split <;> rfl
theorem run_eqGuard_str (op : BinOp) (t : TypeId) (x y : Operand) (n m : ByteArray) : (eqGuard op t x y (.string n) (.string m)).run P w = .ok () w := by
  unfold eqGuard; split <;> rfl
theorem run_eqGuard_bool (op : BinOp) (t : TypeId) (x y : Operand) (n m : Bool) : (eqGuard op t x y (.bool n) (.bool m)).run P w = .ok () w := by
  unfold eqGuard; split <;> rfl
theorem run_binInt {op : BinOp} {t : TypeId} {k k' : IntKind} {n m : Int} {c : PV} (h : binPV op (.int k n) (.int k' m) = some c) : ∃ y, (binOp op t (.int k n) (.int k' m)).run P w = .ok y w ∧ RepP w Fz c y := by
  cases op <;> simp only [binPV, isShift, if_true, Bool.false_eq_true, if_false] at h
  case shl =>
    unfold shiftInt at h
    split at h <;> simp at h
    rename_i hb
    subst h
    exact ⟨_, by simp [binOp, Op.shift, hb, pure, Sem.run], .int _ _⟩
  case shr =>
    unfold shiftInt at h
    split at h <;> simp at h
    rename_i hb
    subst h
    exact ⟨_, by simp [binOp, Op.shift, hb, pure, Sem.run], .int _ _⟩
  all_goals
    split at h
    case isFalse => simp at h
    rename_i hk
    subst hk
    simp only [binInt, Option.some.injEq] at h
    try (split at h; (simp at h); (rename_i hz; simp only [Option.some.injEq] at h))
    subst h
    first
      | exact ⟨_, by (simp [binOp, Op.intArith, Op.intDiv, Op.intBits, Op.intCmp, pure, Sem.run, *]; done), .int _ _⟩
      | exact ⟨_, by (simp [binOp, Op.intArith, Op.intDiv, Op.intBits, Op.intCmp, pure, Sem.run, *]; done), .bool _⟩
      | exact ⟨_, rfl, .int _ _⟩
      | exact ⟨_, rfl, .bool _⟩
theorem ba_toList (s : List UInt8) : (⟨s.toArray⟩ : ByteArray).toList = s := by
  rw [Go.ByteArray.toList_eq]
theorem run_binStr {op : BinOp} {t : TypeId} {n m : List UInt8} {c : PV} (h : binPV op (.str n) (.str m) = some c) : ∃ y, (binOp op t (.string ⟨n.toArray⟩) (.string ⟨m.toArray⟩)).run P w = .ok y w ∧ RepP w Fz c y := by
  cases op <;> simp only [binPV, binStr, reduceCtorEq] at h
  case add =>
    split at h <;> simp at h
    rename_i hb
    subst h
    have hsz : ¬ ((((⟨n.toArray⟩ : ByteArray).size + (⟨m.toArray⟩ : ByteArray).size : Nat) : Int) > IntKind.i64.max) := by
      simp [ByteArray.size, IntKind.max, IntKind.signed, IntKind.bits]; omega
    refine ⟨.string (⟨n.toArray⟩ ++ ⟨m.toArray⟩), ?_, ?_⟩
    · simp only [binOp, Op.stringOp, if_neg hsz]; rfl
    · have : (⟨n.toArray⟩ ++ ⟨m.toArray⟩ : ByteArray) = ⟨(n ++ m).toArray⟩ := by
        apply ByteArray.ext; simp
      rw [this]; exact .str _
  all_goals
    simp only [Option.some.injEq] at h
    subst h
    exact ⟨_, by simp [binOp, Op.stringOp, pure, Sem.run, ba_toList] <;> rfl, .bool _⟩
theorem sound_bin {op : BinOp} {t u : TypeId} {x y : Operand} {ox oy : Od} (ho : o.op = .binOp op t x y u) (hx : odS x = some ox) (hy : odS y = some oy) : Sound I P callf o (.bin op ox oy) := by
  intro B K σ σ' a w _ hI hr Kt Q hk
  obtain ⟨hdf, hn, Fz, S, h, hfree⟩ := hI
  obtain ⟨c1, σ1, h1, r1⟩ := Pg.bind_some hr
  obtain ⟨rfl, g1⟩ := sc_ok h (odS_ok (a := a) hx) h1
  obtain ⟨c2, σ2, h2, r2⟩ := Pg.bind_some r1
  obtain ⟨rfl, g2⟩ := sc_ok h (odS_ok (a := a) hy) h2
  obtain ⟨c, hc, r3⟩ := Pg.opt_some r2
  have key : ∃ z, (do eqGuard op t x y (a.eval x) (a.eval y); binOp op t (a.eval x) (a.eval y) : Sem Value).run P w = .ok z w ∧ RepP w Fz c z := by
    cases c1 <;> cases c2 <;> simp only [binPV, reduceCtorEq] at hc
    · rw [repP_int g1, repP_int g2]
      obtain ⟨z, e1, e2⟩ := run_binInt (P := P) (w := w) (Fz := Fz) (t := t) (by simpa only [binPV] using hc)
      exact ⟨z, by simp only [Sem.run_bind, run_eqGuard_int, Result.andThen_ok]; exact e1, e2⟩
    · rw [repP_str g1, repP_str g2]
      obtain ⟨z, e1, e2⟩ := run_binStr (P := P) (w := w) (Fz := Fz) (t := t) (by simpa only [binPV] using hc)
      exact ⟨z, by simp only [Sem.run_bind, run_eqGuard_str, Result.andThen_ok]; exact e1, e2⟩
  obtain ⟨z, e1, e2⟩ := key
  refine wp_value (x := z) (w' := w) ?_ (hk _ _ (fin_p (hd := σ2.length) h hdf hn (Nat.le_refl _) (Inv.free hfree _) r3 e2))
  simp only [execOp, ho, Sem.run_bind, e1, Result.andThen_ok, Sem.run_pure]
theorem sound_beq {neg : Bool} {op : BinOp} {t u : TypeId} {x y : Operand} {ox oy : Od} (ho : o.op = .binOp op t x y u) (hop : op = if neg then .neq else .eql) (ht : P.underlying t = some .bool) (hx : odS x = some ox) (hy : odS y = some oy) : Sound I P callf o (.beq neg ox oy) := by
  intro B K σ σ' a w _ hI hr Kt Q hk
  obtain ⟨hdf, hn, Fz, S, h, hfree⟩ := hI
  obtain ⟨c1, σ1, h1, r1⟩ := Pg.bind_some hr
  obtain ⟨rfl, g1⟩ := sc_ok h (odS_ok (a := a) hx) h1
  cases c1 <;> simp only [Pg.run_fail, reduceCtorEq] at r1
  obtain ⟨c2, σ2, h2, r2⟩ := Pg.bind_some r1
  obtain ⟨rfl, g2⟩ := sc_ok h (odS_ok (a := a) hy) h2
  cases c2 <;> simp only [Pg.run_fail, reduceCtorEq] at r2
  rename_i b1 b2
  refine wp_value (x := .bool (if neg then !(b1 == b2) else b1 == b2)) (w' := w) ?_ (hk _ _ (fin_p (hd := σ2.length) h hdf hn (Nat.le_refl _) (Inv.free hfree _) r2 (.bool _)))
  have e := run_equalIn_bool' (P := P) w 9999 t b1 b2 ht
  cases neg <;> simp only [Bool.false_eq_true, if_false, if_true] at hop ⊢ <;> subst hop <;>
    simp only [execOp, ho, repP_bool g1, repP_bool g2, Sem.run_bind, run_eqGuard_bool, Result.andThen_ok, binOp, Op.equal, Op.maxDepth, e, Sem.run_pure]
theorem sound_un {op : UnOp} {t : TypeId} {x : Operand} {ox : Od} (ho : o.op = .unOp op t x) (hx : odS x = some ox) : Sound I P callf o (.un op ox) := by
  intro B K σ σ' a w _ hI hr Kt Q hk
  obtain ⟨hdf, hn, Fz, S, h, hfree⟩ := hI
  obtain ⟨c1, σ1, h1, r1⟩ := Pg.bind_some hr
  obtain ⟨rfl, g1⟩ := sc_ok h (odS_ok (a := a) hx) h1
  obtain ⟨c, hc, r3⟩ := Pg.opt_some r1
  have key : ∃ z, (Op.unary op (a.eval x)).run P w = .ok z w ∧ RepP w Fz c z := by
    cases c1 <;> simp only [unPV, reduceCtorEq] at hc
    · rw [repP_bool g1]
      cases op <;> simp only [reduceCtorEq, Option.some.injEq] at hc
      subst hc
      exact ⟨_, rfl, .bool _⟩
    · rw [repP_int g1]
      cases op <;> simp only [reduceCtorEq, Option.some.injEq] at hc <;> subst hc
      · exact ⟨_, rfl, .int _ _⟩
      · exact ⟨_, rfl, .int _ _⟩
  obtain ⟨z, e1, e2⟩ := key
  refine wp_value (x := z) (w' := w) ?_ (hk _ _ (fin_p (hd := σ1.length) h hdf hn (Nat.le_refl _) (Inv.free hfree _) r3 e2))
  simp only [execOp, ho, Sem.run_bind, e1, Result.andThen_ok, Sem.run_pure]
theorem sound_cvi {k j : IntKind} {s d : TypeId} {x : Operand} {ox : Od} (ho : o.op = .convert s d x) (hs : P.underlying s = some (.int j)) (hd' : P.underlying d = some (.int k)) (hx : odS x = some ox) : Sound I P callf o (.cvi k ox) := by
  intro B K σ σ' a w _ hI hr Kt Q hk
  obtain ⟨hdf, hn, Fz, S, h, hfree⟩ := hI
  obtain ⟨n, σ1, h1, r1⟩ := Pg.bind_some hr
  obtain ⟨rfl, k', g1⟩ := scInt_ok h (odS_ok (a := a) hx) h1
  refine wp_value (x := .int k (k.wrap n)) (w' := w) ?_ (hk _ _ (fin_p (hd := σ1.length) h hdf hn (Nat.le_refl _) (Inv.free hfree _) r1 (.int _ _)))
  simp only [execOp, ho, Sem.run_bind, convert, run_underlying hs, run_underlying hd', Result.andThen_ok, g1, Conv.intToInt, Sem.run_pure]
theorem sound_i2s {j : IntKind} {s d : TypeId} {x : Operand} {ox : Od} (ho : o.op = .convert s d x) (hs : P.underlying s = some (.int j)) (hd' : P.underlying d = some .string) (hx : odS x = some ox) : Sound I P callf o (.i2s ox) := by
  intro B K σ σ' a w _ hI hr Kt Q hk
  obtain ⟨hdf, hn, Fz, S, h, hfree⟩ := hI
  obtain ⟨n, σ1, h1, r1⟩ := Pg.bind_some hr
  obtain ⟨rfl, k', g1⟩ := scInt_ok h (odS_ok (a := a) hx) h1
  refine wp_value (x := .string (Utf8.encode n)) (w' := w) ?_ (hk _ _ (fin_p (hd := σ1.length) h hdf hn (Nat.le_refl _) (Inv.free hfree _) r1 ?_))
  · simp only [execOp, ho, Sem.run_bind, convert, run_underlying hs, run_underlying hd', Result.andThen_ok, g1, Conv.intToString, Sem.run_pure]
  · have : (⟨(Utf8.encode n).data.toList.toArray⟩ : ByteArray) = Utf8.encode n := by simp
    have e := RepP.str (w := w) (Fz := Fz) (Utf8.encode n).data.toList
    rw [this] at e
    exact e
theorem sound_sid {s d : TypeId} {x : Operand} {ox : Od} (ho : o.op = .convert s d x) (hs : P.underlying s = some .string) (hd' : P.underlying d = some .string) (hx : odS x = some ox) : Sound I P callf o (.sid ox) := by
  intro B K σ σ' a w _ hI hr Kt Q hk
  obtain ⟨hdf, hn, Fz, S, h, hfree⟩ := hI
  obtain ⟨c, σ1, h1, r1⟩ := Pg.bind_some hr
  obtain ⟨rfl, g1⟩ := sc_ok h (odS_ok (a := a) hx) h1
  cases c <;> simp only [Pg.run_fail, reduceCtorEq] at r1
  rename_i s'
  refine wp_value (x := .string ⟨s'.toArray⟩) (w' := w) ?_ (hk _ _ (fin_p (hd := σ1.length) h hdf hn (Nat.le_refl _) (Inv.free hfree _) r1 (.str _)))
  simp only [execOp, ho, Sem.run_bind, convert, run_underlying hs, run_underlying hd', Result.andThen_ok, repP_str g1, Sem.run_pure]
theorem sound_pick {c x y : Operand} {oc ox oy : Od} (ho : o.op = .pick c x y) (hc : odS c = some oc) (hx : odS x = some ox) (hy : odS y = some oy) : Sound I P callf o (.pick oc ox oy) := by
  intro B K σ σ' a w _ hI hr Kt Q hk
  obtain ⟨hdf, hn, Fz, S, h, hfree⟩ := hI
  obtain ⟨c0, σ0, h0, r0⟩ := Pg.bind_some hr
  obtain ⟨rfl, g0⟩ := sc_ok h (odS_ok (a := a) hc) h0
  cases c0 <;> simp only [Pg.run_fail, reduceCtorEq] at r0
  rename_i b
  obtain ⟨p, σ1, h1, r1⟩ := Pg.bind_some r0
  obtain ⟨rfl, g1⟩ := sc_ok (y := if b then a.eval x else a.eval y) h (by cases b <;> first | exact odS_ok hx | exact odS_ok hy) h1
  refine wp_value (x := if b then a.eval x else a.eval y) (w' := w) ?_ (hk _ _ (fin_p (hd := σ1.length) h hdf hn (Nat.le_refl _) (Inv.free hfree _) r1 g1))
  simp only [execOp, ho, repP_bool g0, asBool, Sem.run_bind, Sem.run_pure, Result.andThen_ok]
theorem sound_lenS {t : TypeId} {x : Operand} {ox : Od} (ho : o.op = .call { callee := .builtin .len, args := #[x], argTypes := #[t] }) (ht : P.underlying t = some .string) (hx : odS x = some ox) : Sound I P callf o (.len true ox) := by
  intro B K σ σ' a w _ hI hr Kt Q hk
  obtain ⟨hdf, hn, Fz, S, h, hfree⟩ := hI
  obtain ⟨c, σ1, h1, r1⟩ := Pg.bind_some hr
  obtain ⟨rfl, g1⟩ := sc_ok h (odS_ok (a := a) hx) h1
  cases c <;> simp only [Pg.run_fail, reduceCtorEq] at r1
  rename_i s
  refine wp_value (x := .int .i64 s.length) (w' := w) ?_ (hk _ _ (fin_p (hd := σ1.length) h hdf hn (Nat.le_refl _) (Inv.free hfree _) r1 (.int _ _)))
  have e := run_len_string (P := P) w t o.type ⟨s.toArray⟩ ht
  simp only [execOp, ho, resolve, invoke, builtin, Sem.run_bind, Sem.run_pure, Result.andThen_ok, List.map_toArray, List.map_cons, List.map_nil, repP_str g1, e]
  rfl
theorem valIs_false {y : Value} {vs : List Value} (h : valIs false y vs) : vs = [y] := by
  rcases h with ⟨e, _⟩ | ⟨_, e⟩
  · simp at e
  · exact e
theorem elsLen_ok {cs : List OV} {n : Nat} {T : BSet} (hL : RepL w Fz cs [y] T) (he : elsLen cs = some n) : ∃ a cap, y = .slice a n cap := by
  unfold elsLen at he
  split at he <;> simp at he
  · subst he
    obtain ⟨T1, T2, h1, _⟩ := hL
    cases h1 with
    | p h => cases h with
      | nil z a cap => exact ⟨_, _, rfl⟩
      | sl => exact ⟨_, _, rfl⟩
  · subst he
    obtain ⟨T1, T2, h1, _⟩ := hL
    cases h1 with
    | nil => exact ⟨_, _, rfl⟩
    | own => exact ⟨_, _, rfl⟩
theorem underlying_elem {t e : TypeId} (h : P.underlying t = some (.slice e)) : P.underlying t = some (.slice (P.elem t)) := by
  rw [h]; simp [Program.elem, h]
theorem sound_lenL {t e : TypeId} {x : Operand} {ox : Od} (ho : o.op = .call { callee := .builtin .len, args := #[x], argTypes := #[t] }) (ht : P.underlying t = some (.slice e)) (hx : odOf P t x = some ox) : Sound I P callf o (.len false ox) := by
  intro B K σ σ' a w _ hI hr Kt Q hk
  obtain ⟨hdf, hn, Fz, S, h, hfree⟩ := hI
  obtain ⟨v, σ1, h1, r1⟩ := Pg.bind_some hr
  obtain ⟨rfl, hv⟩ := val_ok h (odOf_ok (a := a) hx) h1
  obtain ⟨hag, r2⟩ := Pg.guard_some r1
  obtain ⟨n, hn', r3⟩ := Pg.opt_some r2
  obtain ⟨vs, T, g1, g2, _⟩ := hv.rep h
  simp only [Bool.not_eq_true'] at hag
  rw [hag] at g1
  rw [valIs_false g1] at g2
  obtain ⟨ad, cap, hy⟩ := elsLen_ok g2 hn'
  refine wp_value (x := .int .i64 n) (w' := w) ?_ (hk _ _ (fin_p (hd := σ1.length) h hdf hn (Nat.le_refl _) (Inv.free hfree _) r3 (.int _ _)))
  have e := run_len_slice (P := P) w t o.type ad n cap (underlying_elem ht)
  simp only [execOp, ho, resolve, invoke, builtin, Sem.run_bind, Sem.run_pure, Result.andThen_ok, List.map_toArray, List.map_cons, List.map_nil, hy, e]
  rfl
theorem lenl_len {i : Nat} {r : Unit × List AV} (hno : ∀ d m ag, σ.getD i .u = .al (.r d) m ag → ∀ n, σ.getD d .u ≠ .ln n) (h : (opP K callf dst (.lenl (.t i))).run σ = some r) : (opP K callf dst (.len false (.t i))).run σ = some r := by
  simp only [opP, Pg.run_get] at h
  split at h
  case h_2 => simp at h
  rename_i d n hA
  simp only [Pg.run] at h
  split at h
  case h_2 => simp at h
  rename_i m hm
  simp only [opP, val, Pg.run_bind, Pg.run_get, hA, valOf]
  have hno := hno _ _ _ hA
  generalize σ.getD d .u = B at hm hno
  cases B with
  | w c =>
    cases c with
    | p v => cases v <;> simp [AV.rowLen] at hm; subst hm; simp [AV.cells, elsLen]; exact h
    | own z els => simp [AV.rowLen] at hm; subst hm; simp [AV.cells, elsLen]; exact h
    | hole => simp [AV.rowLen] at hm
  | ln n => exact absurd rfl (hno n)
  | t vs => simp [AV.rowLen] at hm
  | _ => simp [AV.rowLen] at hm
theorem sound_lenl {t e : TypeId} {x : Operand} {ox : Od} (ho : o.op = .call { callee := .builtin .len, args := #[x], argTypes := #[t] }) (ht : P.underlying t = some (.slice e)) (hx : odOf P t x = some ox) : Sound I P callf o (.lenl ox) := by
  intro B K σ σ' a w u hI hr Kt Q hk
  cases ox with
  | c A => simp [opP] at hr
  | t i =>
    by_cases hln : ∃ d m ag n, σ.getD i .u = .al (.r d) m ag ∧ σ.getD d .u = .ln n
    · obtain ⟨d, m, ag, n, e1, e2⟩ := hln
      obtain ⟨hdf, hn, Fz, S, h, hfree⟩ := hI
      simp only [opP, Pg.run_get, e1] at hr
      cases ag with
      | true => simp at hr
      | false =>
      simp only [Pg.run, e2, AV.rowLen] at hr
      have r1 := h.rep i
      rw [e1] at r1
      have r2 := h.rep d
      rw [e2] at r2
      obtain ⟨ad, cap, hy⟩ := r2
      have hod := odOf_ok (a := a) hx
      have hev : a.eval x = .slice ad n cap := by
        rw [show a.eval x = valsOf a i from hod.symm, r1.1, hy]
      refine wp_value (x := .int .i64 n) (w' := w) ?_ (hk _ _ (fin_p (hd := σ.length) h hdf hn (Nat.le_refl _) (Inv.free hfree _) hr (.int _ _)))
      have e := run_len_slice (P := P) w t o.type ad n cap (underlying_elem ht)
      simp only [execOp, ho, resolve, invoke, builtin, Sem.run_bind, Sem.run_pure, Result.andThen_ok, List.map_toArray, List.map_cons, List.map_nil, hev, e]
      rfl
    · exact sound_lenL ho ht hx hI (lenl_len (fun d m ag e n q => hln ⟨d, m, ag, n, e, q⟩) hr) hk
theorem sound_mm {mx : Bool} {ts : Array TypeId} {x y : Operand} {ox oy : Od} (ho : o.op = .call { callee := .builtin (if mx then .max else .min), args := #[x, y], argTypes := ts }) (hx : odS x = some ox) (hy : odS y = some oy) : Sound I P callf o (.mm mx ox oy) := by
  intro B K σ σ' a w _ hI hr Kt Q hk
  obtain ⟨hdf, hn, Fz, S, h, hfree⟩ := hI
  obtain ⟨c1, σ1, h1, r1⟩ := Pg.bind_some hr
  obtain ⟨rfl, g1⟩ := sc_ok h (odS_ok (a := a) hx) h1
  obtain ⟨c2, σ2, h2, r2⟩ := Pg.bind_some r1
  obtain ⟨rfl, g2⟩ := sc_ok h (odS_ok (a := a) hy) h2
  cases c1 <;> cases c2 <;> simp only [Pg.run_fail, reduceCtorEq] at r2
  rename_i k n k' m
  split at r2
  case isFalse => simp at r2
  rename_i hkk
  subst hkk
  refine wp_value (x := .int k (if mx then (if m > n then m else n) else (if m < n then m else n))) (w' := w) ?_ (hk _ _ (fin_p (hd := σ2.length) h hdf hn (Nat.le_refl _) (Inv.free hfree _) r2 (.int _ _)))
  cases mx
  · simp only [Bool.false_eq_true, if_false] at ho ⊢
    simp only [execOp, ho, resolve, invoke, builtin, Sem.run_bind, Sem.run_pure, Result.andThen_ok, List.map_toArray, List.map_cons, List.map_nil, repP_int g1, repP_int g2, Builtin.min_, List.foldlM_cons, List.foldlM_nil, Builtin.min2]
  · simp only [if_true] at ho ⊢
    simp only [execOp, ho, resolve, invoke, builtin, Sem.run_bind, Sem.run_pure, Result.andThen_ok, List.map_toArray, List.map_cons, List.map_nil, repP_int g1, repP_int g2, Builtin.max_, List.foldlM_cons, List.foldlM_nil, Builtin.max2]
theorem sound_ixs {t : TypeId} {x i : Operand} {ox oi : Od} (ho : o.op = .index t x i) (ht : P.underlying t = some .string) (hx : odS x = some ox) (hi : odS i = some oi) : Sound I P callf o (.ixs ox oi) := by
  intro B K σ σ' a w _ hI hr Kt Q hk
  obtain ⟨hdf, hn, Fz, S, h, hfree⟩ := hI
  obtain ⟨c, σ1, h1, r1⟩ := Pg.bind_some hr
  obtain ⟨rfl, g1⟩ := sc_ok h (odS_ok (a := a) hx) h1
  cases c <;> simp only [Pg.run_fail, reduceCtorEq] at r1
  rename_i s
  obtain ⟨n, σ2, h2, r2⟩ := Pg.bind_some r1
  obtain ⟨rfl, k, g2⟩ := scInt_ok h (odS_ok (a := a) hi) h2
  obtain ⟨h0, r3⟩ := Pg.guard_some r2
  obtain ⟨b, hb, r4⟩ := Pg.opt_some r3
  simp only [decide_eq_true_eq] at h0
  refine wp_value (x := .int .u8 b.toNat) (w' := w) ?_ (hk _ _ (fin_p (hd := σ2.length) h hdf hn (Nat.le_refl _) (Inv.free hfree _) r4 (.int _ _)))
  have e : (⟨s.toArray⟩ : ByteArray)[n.toNat]? = some b := by
    have := (List.getElem?_eq_some_iff.1 hb)
    obtain ⟨p, q⟩ := this
    rw [getElem?_pos _ _ (by simpa [ByteArray.size] using p)]
    simp only [Option.some.injEq]
    exact q
  simp only [execOp, ho, Sem.run_bind, Instr.index, repP_str g1, g2, asIntOf, Sem.run_pure, Result.andThen_ok, run_underlying ht, if_pos h0, e]
theorem ends_ok {len l hh : Nat} {lo hi : Option Operand} {olo ohi : Option Od} (h : St B K σ (valsOf a) w Fz S) (hlo : odOpt lo = some olo) (hhi : odOpt hi = some ohi) (hr : (ends len olo ohi).run σ = some ((l, hh), σ1)) :
    σ1 = σ ∧ l ≤ hh ∧ hh ≤ len ∧ (∀ z, lo = some z → ∃ k, a.eval z = .int k l) ∧ (lo = none → l = 0) ∧ (∀ z, hi = some z → ∃ k, a.eval z = .int k hh) ∧ (hi = none → hh = len) := by
  obtain ⟨n, σ2, h1, r1⟩ := Pg.bind_some hr
  obtain ⟨m, σ3, h2, r2⟩ := Pg.bind_some r1
  have e1 : σ2 = σ ∧ (∀ z, lo = some z → ∃ k, a.eval z = .int k n) ∧ (lo = none → n = 0) := by
    cases lo with
    | none => simp only [odOpt, Option.some.injEq] at hlo; subst hlo; simp only [Pg.run_ret, Option.some.injEq, Prod.mk.injEq] at h1; exact ⟨h1.2.symm, fun z e => by simp at e, fun _ => h1.1.symm⟩
    | some z =>
      simp only [odOpt] at hlo
      split at hlo <;> simp at hlo
      rename_i q hq
      subst hlo
      obtain ⟨e, k, g⟩ := scInt_ok h (odS_ok (a := a) hq) h1
      exact ⟨e, fun z' e => by simp at e; subst e; exact ⟨k, g⟩, fun e => by simp at e⟩
  obtain ⟨rfl, e1, e1'⟩ := e1
  have e2 : σ3 = σ2 ∧ (∀ z, hi = some z → ∃ k, a.eval z = .int k m) ∧ (hi = none → m = len) := by
    cases hi with
    | none => simp only [odOpt, Option.some.injEq] at hhi; subst hhi; simp only [Pg.run_ret, Option.some.injEq, Prod.mk.injEq] at h2; exact ⟨h2.2.symm, fun z e => by simp at e, fun _ => h2.1.symm⟩
    | some z =>
      simp only [odOpt] at hhi
      split at hhi <;> simp at hhi
      rename_i q hq
      subst hhi
      obtain ⟨e, k, g⟩ := scInt_ok h (odS_ok (a := a) hq) h2
      exact ⟨e, fun z' e => by simp at e; subst e; exact ⟨k, g⟩, fun e => by simp at e⟩
  obtain ⟨rfl, e2, e2'⟩ := e2
  split at r2
  case isFalse => simp at r2
  rename_i hc
  simp only [Pg.run_ret, Option.some.injEq, Prod.mk.injEq] at r2
  obtain ⟨⟨rfl, rfl⟩, rfl⟩ := r2
  refine ⟨rfl, by omega, by omega, fun z hz => ?_, fun hz => by rw [e1' hz]; rfl, fun z hz => ?_, fun hz => by rw [e2' hz]; simp⟩
  · obtain ⟨k, g⟩ := e1 z hz; exact ⟨k, by rw [g]; congr 1; omega⟩
  · obtain ⟨k, g⟩ := e2 z hz; exact ⟨k, by rw [g]; congr 1; omega⟩
theorem run_sliceBound' {k : IntKind} {l y : Nat} {code : BoundsCode} (h : l ≤ y) : (Instr.sliceBound (.int k l) y code).run P w = .ok l w := by
  have := run_sliceBound (P := P) w k (l : Int) y code (by omega) (by omega)
  simpa using this
theorem run_sliceBounds {isS : Bool} {len cap l hh : Nat} {lo hi : Option Value} (h1 : l ≤ hh) (h2 : hh ≤ len) (h3 : len ≤ cap) (hlo : ∀ z, lo = some z → ∃ k, z = .int k l) (hlo' : lo = none → l = 0) (hhi : ∀ z, hi = some z → ∃ k, z = .int k hh) (hhi' : hi = none → hh = len) :
    (Instr.sliceBounds isS len cap lo hi none).run P w = .ok (l, hh, cap) w := by
  unfold Instr.sliceBounds
  cases hi with
  | none =>
    have := hhi' rfl
    subst this
    cases lo with
    | none => have := hlo' rfl; subst this; rfl
    | some z =>
      obtain ⟨k, rfl⟩ := hlo z rfl
      simp only [Sem.run_bind, Sem.run_pure, Result.andThen_ok, Option.isSome_none, Bool.false_eq_true, if_false, run_sliceBound' h1]
  | some z' =>
    obtain ⟨k', rfl⟩ := hhi z' rfl
    have hb := run_sliceBound' (P := P) (w := w) (k := k') (code := if isS then .sliceAcap else .sliceAlen) (Nat.le_trans h2 h3)
    cases lo with
    | none => have := hlo' rfl; subst this; simp only [Sem.run_bind, Sem.run_pure, Result.andThen_ok, hb]
    | some z =>
      obtain ⟨k, rfl⟩ := hlo z rfl
      simp only [Sem.run_bind, Sem.run_pure, Result.andThen_ok, hb, Option.isSome_none, Bool.false_eq_true, if_false, run_sliceBound' h1]
theorem opt_map_eval {lo : Option Operand} {l : Nat} (h : ∀ z, lo = some z → ∃ k, a.eval z = .int k l) : ∀ z, lo.map a.eval = some z → ∃ k, z = .int k l := by
  intro z hz
  cases lo with
  | none => simp at hz
  | some q => simp at hz; subst hz; exact h q rfl
theorem sound_sls {t : TypeId} {x : Operand} {lo hi : Option Operand} {ox : Od} {olo ohi : Option Od} (ho : o.op = .slice t x lo hi none) (ht : P.underlying t = some .string) (hx : odS x = some ox) (hlo : odOpt lo = some olo) (hhi : odOpt hi = some ohi) : Sound I P callf o (.sls ox olo ohi) := by
  intro B K σ σ' a w _ hI hr Kt Q hk
  obtain ⟨hdf, hn, Fz, S, h, hfree⟩ := hI
  obtain ⟨c, σ1, h1, r1⟩ := Pg.bind_some hr
  obtain ⟨rfl, g1⟩ := sc_ok h (odS_ok (a := a) hx) h1
  cases c <;> simp only [Pg.run_fail, reduceCtorEq] at r1
  rename_i s
  obtain ⟨⟨l, hh⟩, σ2, h2, r2⟩ := Pg.bind_some r1
  obtain ⟨rfl, e1, e2, e3, e4, e5, e6⟩ := ends_ok h hlo hhi h2
  have hb := run_sliceBounds (P := P) (w := w) (isS := false) (lo := lo.map a.eval) (hi := hi.map a.eval) e1 e2 (Nat.le_refl s.length) (opt_map_eval e3) (fun e => e4 (by simpa using e)) (opt_map_eval e5) (fun e => e6 (by simpa using e))
  refine wp_value (x := .string ⟨((s.take hh).drop l).toArray⟩) (w' := w) ?_ (hk _ _ (fin_p (hd := σ2.length) h hdf hn (Nat.le_refl _) (Inv.free hfree _) r2 (.str _)))
  have ex : (⟨s.toArray⟩ : ByteArray).extract l hh = ⟨((s.take hh).drop l).toArray⟩ := by
    apply ByteArray.ext
    simp [List.drop_take]
  have hsz : (⟨s.toArray⟩ : ByteArray).size = s.length := by simp [ByteArray.size]
  simp only [execOp, ho, Option.map_none, Sem.run_bind, Instr.sliceAt, run_underlying ht, Result.andThen_ok, repP_str g1, Instr.slice, Option.isSome_none, Bool.false_eq_true, if_false, hsz, hb, ex, Sem.run_pure]
end
end Go.Pv
end

section
namespace Go.Pv
open Go.RowKit
set_option linter.unusedVariables false
set_option linter.unusedSimpArgs false
section
variable {P : Program} {I : World → Prop} {B : Base I} {K : Kills} {σ σ' σ1 : List AV} {vals vals' : Nat → Value} {w w' : World} {Fz Fz' : BSet} {S S' : Nat → BSet} {a : Act} {hd : Nat} {dst : Option Nat} {v : AV} {x y : Value} {o : Oper} {Kt : Act → World → Prop} {Q : Exit → Act → World → Prop} {callf : Nat → List AV → Option CRes}
theorem adr_ok {x : Operand} {od : Od} {r : Pl ⊕ List PV} (h : St B K σ (valsOf a) w Fz S) (hx : odT x = some od) (hr : (adr od).run σ = some (r, σ1)) :
    σ1 = σ ∧ ∃ i, x = .tmp i ∧ ((∃ pl ad, r = .inl pl ∧ PlAddr (valsOf a) w Fz S pl ad ∧ a.eval x = .pointer (some ad) ∧ pl.holder < σ.length) ∨ ∃ cs, r = .inr cs ∧ RepFp w Fz cs (a.eval x)) := by
  obtain ⟨i, rfl, rfl⟩ := odT_ok hx
  simp only [adr, Pg.run_get] at hr
  have hrep := h.rep i
  have hev : a.eval (.tmp i) = valsOf a i := rfl
  split at hr
  · rename_i cs hc
    simp only [Pg.run_ret, Option.some.injEq, Prod.mk.injEq] at hr
    obtain ⟨rfl, rfl⟩ := hr
    have hil : i < σ.length := lt_of_getD (by rw [hc]; simp)
    rw [hc] at hrep
    obtain ⟨b, vs, h1, h2, _⟩ := hrep
    exact ⟨rfl, i, rfl, .inl ⟨_, ⟨b, 0, none⟩, rfl, ⟨b, h1, rfl⟩, h1, hil⟩⟩
  · rename_i pl hc
    simp only [Pg.run_ret, Option.some.injEq, Prod.mk.injEq] at hr
    obtain ⟨rfl, rfl⟩ := hr
    have hol := h.hol i pl.holder (by rw [hc]; simp [AV.on])
    rw [hc] at hrep
    obtain ⟨⟨ad, h1, h2⟩, _⟩ := hrep
    exact ⟨rfl, i, rfl, .inl ⟨_, ad, rfl, h1, h2, hol⟩⟩
  · rename_i cs hc
    simp only [Pg.run_ret, Option.some.injEq, Prod.mk.injEq] at hr
    obtain ⟨rfl, rfl⟩ := hr
    rw [hc] at hrep
    exact ⟨rfl, i, rfl, .inr ⟨cs, rfl, hrep⟩⟩
  · simp at hr
theorem sound_nilchk {x : Operand} {od : Od} (ho : o.op = .nilCheck x) (hx : odT x = some od) : Sound I P callf o (.nilchk od) := by
  intro B K σ σ' a w u hI hr Kt Q hk
  obtain ⟨hdf, hn, Fz, S, h, hfree⟩ := hI
  obtain ⟨i, rfl, rfl⟩ := odT_ok hx
  simp only [opP, Pg.run_get] at hr
  have hfin := movPtr_ok h hdf hn hfree rfl hr fun hr => by simp at hr
  have hrep := h.rep i
  have hp : (∃ ad, valsOf a i = .pointer (some ad)) ∨ ∃ f cvs, valsOf a i = .func (.func f) #[] cvs := by
    cases hA : σ.getD i .u with
    | box cs => rw [hA] at hrep; obtain ⟨b, vs, h1, _⟩ := hrep; exact .inl ⟨_, h1⟩
    | ptr pl => rw [hA] at hrep; obtain ⟨⟨ad, _, h1⟩, _⟩ := hrep; exact .inl ⟨_, h1⟩
    | fp cs => rw [hA] at hrep; obtain ⟨ad, vs, h1, _⟩ := hrep; exact .inl ⟨_, h1⟩
    | clo f caps => rw [hA] at hrep; obtain ⟨cvs, h1, _⟩ := hrep; exact .inr ⟨_, _, h1⟩
    | _ => rw [hA] at hr; simp [movPtr] at hr
  refine wp_value (x := valsOf a i) (w' := w) ?_ (hk _ _ hfin)
  have hev : a.eval (.tmp i) = valsOf a i := rfl
  rcases hp with ⟨ad, e⟩ | ⟨f, cvs, e⟩
  · simp only [execOp, ho, hev, e, Sem.run_pure]
  · simp only [execOp, ho, hev, e, Sem.run_pure]
theorem plus_addr {pl : Pl} {ad : Addr} {n : Nat} (h : PlAddr vals w Fz S pl ad) : PlAddr vals w Fz S (pl.plus n) (ad.add n) ∧ (pl.plus n).holder = pl.holder := by
  cases pl with
  | r d => exact h.elim
  | b d off => obtain ⟨b, h1, rfl⟩ := h; exact ⟨⟨b, h1, by rw [addr_add rfl]⟩, rfl⟩
  | e d c z i off => obtain ⟨a, len, cap, h1, rfl⟩ := h; exact ⟨⟨a, len, cap, h1, by rw [addr_add rfl]; simp [Nat.add_assoc]⟩, rfl⟩
theorem has_info {t : TypeId} (h : has P t = true) : ∃ i, P.info? t = some i ∧ P.cellsOf t = i.size := by
  simp only [has, Bool.and_eq_true] at h
  replace h := h.1
  cases hi : P.info? t with
  | none => rw [hi] at h; simp at h
  | some i => exact ⟨i, rfl, by simp [Program.cellsOf, hi]⟩
theorem run_sizeOf' {t : TypeId} (h : has P t = true) : (sizeOf t).run P w = .ok (P.cellsOf t) w := by
  obtain ⟨i, h1, h2⟩ := has_info h
  rw [h2]
  simp [sizeOf, typeInfo, h1, program, Sem.run]
theorem sound_fad {t : TypeId} {x : Operand} {i : Nat} {ox : Od} {fs : Array Field} {f : Field} (ho : o.op = .fieldAddr t x i) (ht : P.underlying t = some (.struct fs)) (hf : fs[i]? = some f) (hi : has P f.type = true) (hz : 0 < P.cellsOf f.type) (hx : odT x = some ox) : Sound I P callf o (.fad f.offset ox) := by
  intro B K σ σ' a w u hI hr Kt Q hk
  obtain ⟨hdf, hn, Fz, S, h, hfree⟩ := hI
  obtain ⟨r, σ1, h1, hr⟩ := Pg.bind_some hr
  obtain ⟨rfl, j, rfl, hc⟩ := adr_ok h hx h1
  have run : ∀ ad, a.eval (.tmp j) = .pointer (some ad) → (execOp a.eval o).run P w = .ok (.value (.pointer (some (ad.add f.offset)))) w := by
    intro ad e
    simp only [execOp, ho, Sem.run_bind, Instr.fieldAt, run_underlying ht, Result.andThen_ok, hf, e, Instr.sureAddr, Sem.run_pure, fieldPlace, run_sizeOf' hi, if_neg (show ¬ P.cellsOf f.type = 0 by omega)]
  rcases hc with ⟨pl, ad, rfl, g1, g2, g3⟩ | ⟨cs, rfl, g1⟩
  · refine wp_value (run ad g2) (hk _ _ ?_)
    obtain ⟨p1, p2⟩ := plus_addr (n := f.offset) g1
    exact fin_on h hdf hn hfree hr (fun d _ hl => ⟨⟨_, p1, rfl⟩, by rw [p2]; exact hl⟩) rfl (fun g hg => by simp [AV.on, p2] at hg; exact hg.symm) g3
  · obtain ⟨ad, vs, e, e1, e2, e3, e4, e5⟩ := g1
    refine wp_value (run ad e) (hk _ _ (fin (hd := σ1.length) h hdf hn (Nat.le_refl _) (Inv.free hfree _) hr (fun d _ => ?_) (fun g hg => by simp [AV.on] at hg)))
    refine ⟨_, vs.drop f.offset, rfl, by rw [addr_add e1], fun hne => ?_, by simp [e3], ?_, fun j c x hc hx => ?_⟩
    · rw [addr_add e1]; exact e2 (fun e => hne (by subst e; simp))
    · rw [addr_add e1]
      intro j v hj
      rw [List.getElem?_drop] at hj
      have := e4 _ _ hj
      rw [Nat.add_assoc]; exact this
    · rw [List.getElem?_drop] at hc hx
      exact e5 _ c x hc hx
theorem sound_ext {x : Operand} {i : Nat} {ox : Od} (ho : o.op = .extract x i) (hx : odT x = some ox) : Sound I P callf o (.ext ox i) := by
  intro B K σ σ' a w u hI hr Kt Q hk
  obtain ⟨hdf, hn, Fz, S, h, hfree⟩ := hI
  obtain ⟨j, rfl, rfl⟩ := odT_ok hx
  simp only [opP, Pg.run_get] at hr
  have hrep := h.rep j
  have hev : a.eval (.tmp j) = valsOf a j := rfl
  split at hr
  case h_2 => simp at hr
  rename_i l hl
  have hjl : j < σ.length := lt_of_getD (by rw [hl]; simp)
  rw [hl] at hrep
  obtain ⟨⟨ag, cs⟩, hi, hr⟩ := Pg.opt_some hr
  obtain ⟨us, e1, hT⟩ := hrep
  have key : ∀ {l : List (Bool × List OV)} {us : List Value} {T : BSet} {i : Nat}, RepT w Fz l us T → l[i]? = some (ag, cs) → ∃ u vs T1 T2, us[i]? = some u ∧ valIs ag u vs ∧ RepL w Fz cs vs T1 ∧ (∀ b, T1 b → T b) ∧ (∀ b, T2 b → T b) ∧ (∀ b, T1 b → ¬ T2 b) ∧
      RepT w Fz (l.set i (ag, cs.map fun _ => .hole)) us T2 := by
    intro l
    induction l with
    | nil => intro us T i _ h; simp at h
    | cons p l ih =>
      intro us T i hT hi
      cases us with
      | nil => simp [RepT] at hT
      | cons u us =>
        obtain ⟨ag', cs'⟩ := p
        obtain ⟨T1, T2, vs, k1, k2, k3, k4, k5, k6⟩ := hT
        cases i with
        | zero =>
          simp at hi
          obtain ⟨rfl, rfl⟩ := hi
          exact ⟨u, vs, T1, T2, rfl, k1, k2, k4, k5, k6, fun _ => False, T2, vs, k1, RepL.holes k2.length, k3, fun _ h => h.elim, fun _ h => h, fun _ h => h.elim⟩
        | succ i =>
          obtain ⟨u', vs', U1, U2, m1, m2, m3, m4, m5, m6, m7⟩ := ih k3 (by simpa using hi)
          refine ⟨u', vs', U1, fun b => T1 b ∨ U2 b, by simpa using m1, m2, m3, fun b hb => k5 b (m4 b hb), fun b hb => hb.elim (k4 b) fun q => k5 b (m5 b q), fun b hb q => q.elim (fun q => k6 b q (m4 b hb)) (m6 b hb), T1, U2, vs, k1, k2, m7, fun b q => .inl q, fun b q => .inr q, fun b q q' => k6 b q (m5 b q')⟩
  obtain ⟨u', vs, T1, T2, m1, m2, m3, m4, m5, m6, m7⟩ := key hT hi
  refine wp_value (x := u') (w' := w) (by simp only [execOp, ho, hev, e1, Sem.run_bind, Instr.extract, List.getElem?_toArray, m1, Sem.run_pure, Result.andThen_ok]) (hk _ _ ?_)
  split at hr
  · rename_i hp
    exact fin_val (hd := σ.length) h hdf hn (Nat.le_refl _) (Inv.free hfree _) hr m2 (m3.plain hp)
  · simp only [Pg.run, hl, sameRow_t, List.length_set, beq_self_eq_true, if_true] at hr
    have hne : σ.length ≠ j := Nat.ne_of_gt hjl
    have h2 : St B K (σ.set j (.t (l.set i (ag, cs.map fun _ => .hole)))) (valsOf a) w Fz (updS (updS S j T2) σ.length T1) := by
      refine ⟨fun t => ?_, updS_dis h hne (hfree _ (Nat.le_refl _)) m4 m5 m6, fun t b hb => by obtain ⟨t', ht'⟩ := updS_tok h m4 m5 t b hb; exact h.tok t' b ht', fun t h' hon => ?_, h.frz, h.os, h.tape, h.output, h.size, h.old, h.fz0, h.fz1⟩
      · rw [getD_set]
        by_cases ht : t = j
        · rw [if_pos ht, if_pos hjl, ht]
          exact ⟨us, e1, by simp only [updS, if_neg hne.symm, if_true]; exact m7⟩
        · rw [if_neg ht]
          rcases Nat.lt_or_ge t σ.length with htl | htl
          · have hrep := h.rep t
            refine hrep.keep (fun _ h => h) (fun _ _ => rfl) (fun b hb => by simp only [updS, if_neg ht, if_neg (show t ≠ σ.length by omega)]; exact hb) (fun h' hon => ?_)
            have hhl := h.hol t h' hon
            by_cases hh : h' = j
            · subst hh
              refine ⟨rfl, fun _ b e => ?_, fun _ a len cap e => ?_, fun e b hb => ?_, fun _ _ _ => rfl⟩
              · rw [e1] at e; simp at e
              · rw [e1] at e; simp at e
              · -- nothing leans on elements of a tuple
                exfalso
                have : ∀ av : AV, RepA (valsOf a) w Fz S K t av (valsOf a t) → av.onEl h' = true → False := by
                  intro av hav hel
                  have hd : ∀ d c z i off, (Pl.e d c z i off).isEl h' = true → ∀ ad, PlAddr (valsOf a) w Fz S (.e d c z i off) ad → False := by
                    intro d c z i off hie ad had
                    cases c with
                    | none => simp [Pl.isEl] at hie
                    | some k =>
                      simp [Pl.isEl] at hie
                      subst hie
                      obtain ⟨a', len, cap, ⟨b, q1, _⟩, _⟩ := had
                      rw [e1] at q1; simp at q1
                  cases av with
                  | ptr pl => cases pl with
                    | e d c z i off => obtain ⟨⟨ad, had, _⟩, _⟩ := hav; exact hd _ _ _ _ _ hel ad had
                    | _ => simp [AV.onEl, Pl.isEl] at hel
                  | al pl n ag => cases pl with
                    | e d c z i off => obtain ⟨⟨vs, ⟨ad, ⟨had, _⟩, _⟩, _⟩, _⟩ := hav; exact hd _ _ _ _ _ hel ad had
                    | _ => simp [AV.onEl, Pl.isEl] at hel
                  | sv pl z lo hi => cases pl with
                    | e d c z' i off => obtain ⟨⟨a', len, cap, ⟨ad, ⟨had, _⟩, _⟩, _⟩, _⟩ := hav; exact hd _ _ _ _ _ hel ad had
                    | _ => simp [AV.onEl, Pl.isEl] at hel
                  | _ => simp [AV.onEl] at hel
                exact this _ hrep e
            · exact Held.same _ _ _ rfl (fun b hb => .inl (by simp only [updS, if_neg hh, if_neg (show h' ≠ σ.length by omega)]; exact hb)) (fun _ _ => rfl)
          · have : σ.getD t .u = .u := by simp [List.getD_eq_getElem?_getD, List.getElem?_eq_none htl]
            rw [this]; trivial
      · rw [getD_set] at hon
        rw [List.length_set]
        by_cases ht : t = j
        · rw [if_pos ht, if_pos hjl] at hon; simp [AV.on] at hon
        · rw [if_neg ht] at hon; exact h.hol t h' hon
    refine fin_val (hd := σ.length) h2 hdf (by simpa using hn) (by simp) (fun k hk hne' b => ?_) hr m2 (by simp only [updS, if_true]; exact m3)
    simp only [List.length_set] at hk
    have hkj : k ≠ j := fun e => absurd hjl (Nat.not_lt.2 (e ▸ hk))
    simp only [updS, if_neg hne', if_neg hkj]
    exact hfree k hk b
theorem repT_len : ∀ {l : List (Bool × List OV)} {us : List Value} {T : BSet}, RepT w Fz l us T → us.length = l.length
  | [], [], _, _ => rfl
  | p :: l, u :: us, T, h => by
    obtain ⟨ag, cs⟩ := p
    obtain ⟨T1, T2, vs, k1, k2, k3, k4, k5, k6⟩ := h
    simp [repT_len k3]
  | [], _ :: _, _, h => by simp [RepT] at h
  | _ :: _, [], _, h => by simp [RepT] at h
theorem sound_extu {x : Operand} {i : Nat} {ox : Od} (ho : o.op = .extract x i) (hx : odT x = some ox) : Sound I P callf o (.extu ox i) := by
  intro B K σ σ' a w u hI hr Kt Q hk
  obtain ⟨hdf, hn, Fz, S, h, hfree⟩ := hI
  obtain ⟨j, rfl, rfl⟩ := odT_ok hx
  simp only [opP, Pg.run] at hr
  have hrep := h.rep j
  have hev : a.eval (.tmp j) = valsOf a j := rfl
  generalize hA : σ.getD j .u = A at hr hrep
  cases A with
  | t vs =>
    simp only [AV.rowLen] at hr
    split at hr
    · rename_i hlt
      obtain ⟨us, e1, hT⟩ := hrep
      have hl := repT_len hT
      refine wp_value (x := us[i]'(by omega)) (w' := w) (by simp only [execOp, ho, hev, e1, Sem.run_bind, Instr.extract, List.getElem?_toArray, List.getElem?_eq_getElem (show i < us.length by omega), Sem.run_pure, Result.andThen_ok]) (hk _ _ ?_)
      exact fin (hd := σ.length) h hdf hn (Nat.le_refl _) (Inv.free hfree _) hr (fun d _ => trivial) (fun y hy => by simp [AV.on] at hy)
    · simp at hr
  | w c => cases c with
    | p v => cases v <;> simp [AV.rowLen] at hr
    | own z els => simp [AV.rowLen] at hr
    | hole => simp [AV.rowLen] at hr
  | ln n => simp [AV.rowLen] at hr
  | _ => simp [AV.rowLen] at hr
theorem sound_nop {x : Operand} (ho : o.op = .assign x) : Sound I P callf o .nop := by
  intro B K σ σ' a w u hI hr Kt Q hk
  obtain ⟨hdf, hn, Fz, S, h, hfree⟩ := hI
  refine wp_value (x := a.eval x) (w' := w) (by simp [execOp, ho]) (hk _ _ ?_)
  exact fin (hd := σ.length) h hdf hn (Nat.le_refl _) (Inv.free hfree _) hr (fun d _ => trivial) (fun y hy => by simp [AV.on] at hy)
end
end Go.Pv
end

section
namespace Go.Pv
open Go.RowKit
set_option linter.unusedVariables false
set_option linter.unusedSimpArgs false
structure Step (M : BSet) (w w' : World) : Prop where
  os : w'.os = w.os
  tape : w'.tape = w.tape
  output : w'.output = w.output
  size : w.heap.size ≤ w'.heap.size
  keep : ∀ b, b < w.heap.size → ¬ M b → w'.heap[b]? = w.heap[b]?
theorem Step.refl (M : BSet) (w : World) : Step M w w := ⟨rfl, rfl, rfl, Nat.le_refl _, fun _ _ _ => rfl⟩
theorem Step.trans {M : BSet} {w w1 w2 : World} (h : Step M w w1) (k : Step M w1 w2) : Step M w w2 :=
  ⟨k.os.trans h.os, k.tape.trans h.tape, k.output.trans h.output, Nat.le_trans h.size k.size, fun b hb hm => (k.keep b (Nat.lt_of_lt_of_le hb h.size) hm).trans (h.keep b hb hm)⟩
theorem Step.mono {M M' : BSet} {w w' : World} (h : Step M w w') (hm : ∀ b, M b → M' b) : Step M' w w' := ⟨h.os, h.tape, h.output, h.size, fun b hb k => h.keep b hb fun q => k (hm b q)⟩
section
variable {P : Program} {w w' : World} {Fz Fz' : BSet}
theorem Upd.cons {w1 w2 : World} {b off : Nat} {v : Value} {vs : List Value} (h1 : Upd w w1 b off [v]) (h2 : Upd w1 w2 b (off + 1) vs) : Upd w w2 b off (v :: vs) := by
  refine ⟨fun o => ?_, fun n h => h2.row n (h1.row n h), fun h => h2.unm (h1.unm h)⟩
  rw [h2.cell, h1.cell]
  simp only [List.length_cons, List.length_nil]
  by_cases h : off + 1 ≤ o ∧ o < off + 1 + vs.length
  · rw [if_pos h, if_pos (by omega)]
    rw [show o - off = (o - (off + 1)) + 1 by omega]
    rfl
  · rw [if_neg h]
    by_cases h' : o = off
    · subst h'
      rw [if_pos (by omega), if_pos (by omega)]
      simp
    · rw [if_neg (by omega), if_neg (by omega)]
theorem setCell_upd {b off : Nat} {v u : Value} (h : w.cell? ⟨b, off, none⟩ = some u) : Upd w (w.setCell ⟨b, off, none⟩ v) b off [v] := by
  refine ⟨fun o => ?_, fun n hr => ?_, fun ⟨cur, e, fz, h1, h2⟩ => ⟨cur.setIfInBounds off v, e, fz, by simp [World.setCell, Array.getElem?_modify, h1], by simpa using h2⟩⟩
  · simp only [List.length_cons, List.length_nil]
    by_cases ho : o = off
    · subst ho
      rw [if_pos (by omega), World.cell?_setCell_same w _ _ h]
      simp
    · rw [if_neg (by omega)]
      exact World.cell?_setCell_other w _ _ _ (fun e => ho (by simp at e; exact e.symm))
  · obtain ⟨cur, e, fz, h1, h2, h3⟩ := hr
    refine ⟨cur.setIfInBounds off v, e, fz, ?_, by simpa using h2, by simpa using h3⟩
    simp [World.setCell, Array.getElem?_modify, h1]
theorem row_cell {b n o : Nat} (h : Row w b n) (ho : o < n) : ∃ u, w.cell? ⟨b, o, none⟩ = some u := by
  obtain ⟨cur, e, fz, h1, h2, h3⟩ := h
  exact ⟨cur[o], by simp [World.cell?, h1, show o < cur.size by omega]⟩
theorem row_frozen {b n o : Nat} (h : Row w b n) (ho : o < n) : w.frozen? ⟨b, o, none⟩ = false := by
  obtain ⟨cur, e, fz, h1, h2, h3⟩ := h
  have := h3 o (by omega)
  obtain ⟨lo, hi⟩ := fz
  simp [World.frozen?, h1] at this ⊢
  omega
theorem run_storeCells {a : Addr} (hs : a.spot = none) : ∀ (vs : List Value) (i : Nat) (w : World), Row w a.block (a.off + i + vs.length) → (∀ v ∈ vs, v.oneCell' = true) →
    ∃ w', (storeCells a vs i).run P w = .ok () w' ∧ Upd w w' a.block (a.off + i) vs ∧ Step (· = a.block) w w' ∧ w'.heap.size = w.heap.size
  | [], i, w, _, _ => ⟨w, rfl, .same (fun j v hj => by simp at hj), .refl _ _, rfl⟩
  | v :: vs, i, w, hr, h1 => by
    obtain ⟨u, hu⟩ := row_cell (o := a.off + i) hr (by simp)
    have hf := row_frozen (o := a.off + i) hr (by simp)
    have hup := setCell_upd (v := v) hu
    obtain ⟨w', e1, e2, e3, e4⟩ := run_storeCells hs vs (i + 1) (w.setCell ⟨a.block, a.off + i, none⟩ v) (hup.row _ (by simpa [Nat.add_assoc, Nat.add_comm 1] using hr)) (fun x hx => h1 x (by simp [hx]))
    refine ⟨w', ?_, hup.cons (by rw [Nat.add_assoc]; exact e2), (Step.trans (w1 := w.setCell ⟨a.block, a.off + i, none⟩ v) ⟨rfl, rfl, rfl, by simp [World.setCell], fun b hb hm => ?_⟩ e3), by rw [e4]; simp [World.setCell]⟩
    · simp only [storeCells, Sem.run_bind, addr_add hs, run_store P w _ v .plain (h1 v (by simp)), hu, hf, Bool.false_eq_true, if_false, Result.andThen_ok]
      exact e1
    · exact heap_setCell_other w _ b v hm
theorem run_loadCells' {a : Addr} (hs : a.spot = none) {vs : List Value} {n : Nat} (hn : vs.length = n) (h : CellsAt w a.block a.off vs) : (loadCells a n).run P w = .ok vs.toArray w := by
  subst hn
  exact run_loadCells_list w a vs fun j v hj => by rw [addr_add hs]; exact h j v hj
theorem run_isAgg {t : TypeId} (h : has P t = true) : (isAgg t).run P w = .ok (isAg P t) w := by
  simp only [has, Bool.and_eq_true, Option.isSome_iff_exists] at h
  obtain ⟨d, hd⟩ := h.2
  simp only [isAgg, Sem.run_bind, run_underlying hd, Result.andThen_ok, isAg, hd]
  cases d <;> rfl
theorem run_loadVar {t : TypeId} {a : Addr} {vs : List Value} {x : Value} (h : has P t = true) (h1 : isAg P t = true ∨ P.cellsOf t = 1) (hs : a.spot = none) (hn : vs.length = P.cellsOf t) (hc : CellsAt w a.block a.off vs) (hx : valIs (isAg P t) x vs) :
    (loadVar t a).run P w = .ok x w := by
  simp only [loadVar, Sem.run_bind, run_isAgg h, Result.andThen_ok]
  rcases hx with ⟨e, rfl⟩ | ⟨e, rfl⟩
  · rw [if_pos e]
    simp only [Sem.run_bind, run_sizeOf' h, Result.andThen_ok, run_loadCells' hs hn hc, Sem.run_pure]
  · rw [if_neg (by simp [e])]
    have := hc 0 x rfl
    have ha : a = ⟨a.block, a.off + 0, none⟩ := by cases a; simp_all
    rw [← ha] at this
    simp [load, Sem.run, this]
theorem valIs_cells {ag : Bool} {x : Value} {vs : List Value} (h : valIs ag x vs) (h1 : ag = false → x.oneCell' = true) : x.cells = vs.toArray := by
  rcases h with ⟨_, rfl⟩ | ⟨e, rfl⟩
  · rfl
  · have := h1 e
    cases x <;> simp_all [Value.cells, Value.oneCell']
theorem run_storeVar {t : TypeId} {a : Addr} {vs : List Value} {x : Value} (h : has P t = true) (hs : a.spot = none) (hc : x.cells = vs.toArray) (hn : vs.length = P.cellsOf t) (hr : Row w a.block (a.off + vs.length)) (h1 : ∀ v ∈ vs, v.oneCell' = true) :
    ∃ w', (storeVar t a x).run P w = .ok () w' ∧ Upd w w' a.block a.off vs ∧ Step (· = a.block) w w' ∧ w'.heap.size = w.heap.size := by
  obtain ⟨w', e1, e2, e3, e4⟩ := run_storeCells (P := P) hs vs 0 w (by simpa using hr) h1
  refine ⟨w', ?_, by simpa using e2, e3, e4⟩
  simp only [storeVar, Sem.run_bind, run_sizeOf' h, Result.andThen_ok, hc, List.size_toArray, hn, ne_eq, not_true_eq_false, if_false]
  exact e1
theorem alloc_step (w : World) (o : Obj) (M : BSet) : Step M w (w.alloc o) := ⟨rfl, rfl, rfl, by simp, fun b hb _ => heap_alloc_old w o b hb⟩
theorem drew_step (w : World) (M : BSet) : Step M w w.drew := ⟨rfl, rfl, rfl, Nat.le_refl _, fun _ _ _ => rfl⟩
theorem alloc_row (w : World) (c : Array Value) (e : TypeId) {fz : Nat × Nat} (hf : ∀ o, o < c.size → ¬ (fz.1 ≤ o ∧ o < fz.2)) : Row (w.alloc (.cells c e fz)) w.heap.size c.size :=
  ⟨c, e, fz, heap_alloc_new w _, Nat.le_refl _, hf⟩
theorem alloc_cells (w : World) (c : Array Value) (e : TypeId) (fz : Nat × Nat) : CellsAt (w.alloc (.cells c e fz)) w.heap.size 0 c.toList := by
  intro j v hj
  simp only [World.cell?, heap_alloc_new]
  simpa using hj
variable {I : World → Prop} {B : Base I} {K : Kills} {σ : List AV} {vals : Nat → Value} {S : Nat → BSet}
theorem St.step {hd : Nat} (h : St B K σ vals w Fz S) (h0 : σ.length ≤ hd) (hs : Step (S hd) w w') {T : BSet} (hT : ∀ b, T b → S hd b ∨ (w.heap.size ≤ b ∧ b < w'.heap.size)) :
    St B K σ vals w' Fz (updS S hd T) := by
  have hold : ∀ t b, t ≠ hd → S t b → w'.heap[b]? = w.heap[b]? := fun t b hne hb => hs.keep b (h.tok t b hb).1 fun q => h.dis t hd b hne hb q
  have hfr : ∀ b, Fz b → w'.heap[b]? = w.heap[b]? := fun b hb => hs.keep b (h.frz b hb) fun q => (h.tok hd b q).2.1 hb
  refine ⟨fun t => ?_, fun t u b htu ht hu => ?_, fun t b ht => ?_, h.hol, fun b hb => Nat.lt_of_lt_of_le (h.frz b hb) hs.size, hs.os.trans h.os, hs.tape.trans h.tape, hs.output.trans h.output, Nat.le_trans h.size hs.size, fun b hb hn => ?_, h.fz0, h.fz1⟩
  · rcases Nat.lt_or_ge t σ.length with htl | htl
    · have hne : t ≠ hd := by omega
      refine (h.rep t).keep (fun _ h => h) (fun b hb => hb.elim (hfr b) (hold t b hne)) (fun b hb => by simp only [updS, if_neg hne]; exact hb) (fun h' hon => ?_)
      have hl := h.hol t h' hon
      have hne' : h' ≠ hd := by omega
      exact Held.same _ _ _ rfl (fun b hb => .inl (by simp only [updS, if_neg hne']; exact hb)) (fun b hb => hold h' b hne' hb)
    · have : σ.getD t .u = .u := by simp [List.getD_eq_getElem?_getD, List.getElem?_eq_none htl]
      rw [this]; trivial
  · simp only [updS] at ht hu
    split at ht
    · rename_i e; subst e
      rw [if_neg (fun e => htu e.symm)] at hu
      rcases hT b ht with q | q
      · exact h.dis _ _ b htu q hu
      · have := (h.tok u b hu).1; omega
    · split at hu
      · rename_i e; subst e
        rcases hT b hu with q | q
        · exact h.dis _ _ b htu ht q
        · have := (h.tok t b ht).1; omega
      · exact h.dis _ _ b htu ht hu
  · simp only [updS] at ht
    split at ht
    · rcases hT b ht with q | q
      · have := h.tok hd b q
        exact ⟨Nat.lt_of_lt_of_le this.1 hs.size, this.2⟩
      · exact ⟨q.2, fun k => by have := h.frz b k; omega, .inr (Nat.le_trans h.size q.1)⟩
    · have := h.tok t b ht
      exact ⟨Nat.lt_of_lt_of_le this.1 hs.size, this.2⟩
  · have := h.old b hb hn
    rw [hs.keep b (Nat.lt_of_lt_of_le hb h.size) (fun q => by rcases (h.tok hd b q).2.2 with k | k; exact hn k; omega)]
    exact this
end
end Go.Pv
end

section
namespace Go.Pv
open Go.RowKit
set_option linter.unusedVariables false
set_option linter.unusedSimpArgs false
section
variable {P : Program} {I : World → Prop} {B : Base I} {K : Kills} {σ σ' σ1 : List AV} {vals vals' : Nat → Value} {w w' : World} {Fz Fz' : BSet} {S S' : Nat → BSet} {a : Act} {hd : Nat} {dst : Option Nat} {v : AV} {x y : Value} {o : Oper} {Kt : Act → World → Prop} {Q : Exit → Act → World → Prop} {callf : Nat → List AV → Option CRes}
theorem mkVal {ag : Bool} {vs : List Value} (h : ag = true ∨ vs.length = 1) : ∃ x, valIs ag x vs := by
  cases ag with
  | true => exact ⟨_, .inl ⟨rfl, rfl⟩⟩
  | false =>
    rcases h with h | h
    · simp at h
    · obtain ⟨x, rfl⟩ := List.length_eq_one_iff.1 h
      exact ⟨x, .inr ⟨rfl, rfl⟩⟩
theorem plAddr_ne {pl : Pl} {ad : Addr} (h : PlAddr vals w Fz S pl ad) : ∀ d, pl ≠ .r d := by rintro d rfl; exact h
theorem repFp_take {cs : List PV} {n : Nat} (h : RepFp w Fz cs x) (hn : n ≤ cs.length) : ∃ ad vs, x = .pointer (some ad) ∧ ad.spot = none ∧ vs.length = n ∧ CellsAt w ad.block ad.off vs ∧ ∀ T, RepL w Fz ((cs.take n).map .p) vs T := by
  obtain ⟨ad, vs, e1, e2, e3, e4, e5, e6⟩ := h
  refine ⟨ad, vs.take n, e1, e2, by simp; omega, fun j v hj => ?_, fun T => RepL.ofP (by simp; omega) fun j c y h1 h2 => ?_⟩
  · rw [List.getElem?_take] at hj
    split at hj
    · exact e5 j v hj
    · simp at hj
  · rw [List.getElem?_take] at h1 h2
    split at h1
    · rename_i hj; rw [if_pos hj] at h2; exact e6 j c y h1 h2
    · simp at h1
theorem sound_load {t : TypeId} {x : Operand} {ox : Od} (ho : o.op = .load t x) (hx : odT x = some ox) (ht : has P t = true) (h1 : isAg P t = true ∨ P.cellsOf t = 1) : Sound I P callf o (.load (P.cellsOf t) (isAg P t) ox) := by
  intro B K σ σ' a w u hI hr Kt Q hk
  obtain ⟨hdf, hn, Fz, S, h, hfree⟩ := hI
  obtain ⟨r, σ1, g1, hr⟩ := Pg.bind_some hr
  obtain ⟨rfl, i, rfl, hc⟩ := adr_ok h hx g1
  have run : ∀ ad vs y, a.eval (.tmp i) = .pointer (some ad) → ad.spot = none → vs.length = P.cellsOf t → CellsAt w ad.block ad.off vs → valIs (isAg P t) y vs → (execOp a.eval o).run P w = .ok (.value y) w := by
    intro ad vs y e e1 e2 e3 e4
    simp only [execOp, ho, Sem.run_bind, Instr.loadAt, e, Instr.sureAddr, Sem.run_pure, Result.andThen_ok, run_loadVar ht h1 e1 e2 e3 e4]
  rcases hc with ⟨pl, ad, rfl, k1, k2, k3⟩ | ⟨cs, rfl, k1⟩
  · obtain ⟨cs, m1, hr⟩ := getPl_some hr
    obtain ⟨ad', vs, T1, T2, f1, f2, f3, f4, f5, f6, f7, f8, _⟩ := focus (K' := K) (vals' := valsOf a) (h.rep pl.holder) rfl (plAddr_ne k1) m1
    obtain rfl := f1.uniq k1
    obtain ⟨y, hy⟩ := mkVal (ag := isAg P t) (vs := vs) (h1.imp id fun e => by omega)
    refine wp_value (run ad' vs y k2 f1.spot f2 f3 hy) (hk _ _ ?_)
    split at hr
    · rename_i hp
      exact fin_val (hd := σ1.length) h hdf hn (Nat.le_refl _) (Inv.free hfree _) hr hy (f4.plain hp)
    · refine fin_on h hdf hn hfree hr (fun d _ hl => ?_) rfl (fun g hg => by simp [AV.on] at hg; exact hg.symm) k3
      cases pl with
      | r d' => exact f1.elim
      | b d' off => exact ⟨⟨vs, ⟨ad', ⟨f1, .inl (f6 _ f8.1)⟩, f2, f3⟩, hy⟩, hl⟩
      | e d' c z j off => exact ⟨⟨vs, ⟨ad', ⟨f1, .inl (f6 _ f8.1)⟩, f2, f3⟩, hy⟩, hl⟩
  · obtain ⟨hle, hr⟩ := Pg.guard_some hr
    simp only [decide_eq_true_eq] at hle
    obtain ⟨ad, vs, e1, e2, e3, e4, e5⟩ := repFp_take k1 hle
    obtain ⟨y, hy⟩ := mkVal (ag := isAg P t) (vs := vs) (h1.imp id fun e => by omega)
    exact wp_value (run ad vs y e1 e2 e3 e4 hy) (hk _ _ (fin_val (hd := σ1.length) h hdf hn (Nat.le_refl _) (Inv.free hfree _) hr hy (e5 _)))
theorem sound_loadf {t : TypeId} {x : Operand} {ox : Od} (ho : o.op = .load t x) (hx : odT x = some ox) (ht : has P t = true) (h1 : isAg P t = true ∨ P.cellsOf t = 1) : Sound I P callf o (.loadf (P.cellsOf t) (isAg P t) ox) := by
  intro B K σ σ' a w u hI hr Kt Q hk
  obtain ⟨hdf, hn, Fz, S, h, hfree⟩ := hI
  obtain ⟨r, σ1, g1, hr⟩ := Pg.bind_some hr
  obtain ⟨rfl, i, rfl, hc⟩ := adr_ok h hx g1
  have run : ∀ ad vs y, a.eval (.tmp i) = .pointer (some ad) → ad.spot = none → vs.length = P.cellsOf t → CellsAt w ad.block ad.off vs → valIs (isAg P t) y vs → (execOp a.eval o).run P w = .ok (.value y) w := by
    intro ad vs y e e1 e2 e3 e4
    simp only [execOp, ho, Sem.run_bind, Instr.loadAt, e, Instr.sureAddr, Sem.run_pure, Result.andThen_ok, run_loadVar ht h1 e1 e2 e3 e4]
  rcases hc with ⟨pl, ad, rfl, k1, k2, k3⟩ | ⟨cs, rfl, k1⟩
  · obtain ⟨cs, m1, hr⟩ := getPl_some hr
    obtain ⟨ad', vs, T1, T2, f1, f2, f3, f4, f5, f6, f7, f8, _⟩ := focus (K' := K) (vals' := valsOf a) (h.rep pl.holder) rfl (plAddr_ne k1) m1
    obtain rfl := f1.uniq k1
    obtain ⟨y, hy⟩ := mkVal (ag := isAg P t) (vs := vs) (h1.imp id fun e => by omega)
    refine wp_value (run ad' vs y k2 f1.spot f2 f3 hy) (hk _ _ ?_)
    obtain ⟨ps, σ2, g2, hr⟩ := Pg.bind_some hr
    have hl := getIn_len m1
    have hv : VOk σ1 (valsOf a) w Fz S y ⟨isAg P t, cs, .at_ pl⟩ := by
      cases pl with
      | r d' => exact f1.elim
      | b d' off => exact ⟨by rw [hl]; exact m1, vs, by rw [hl]; exact ⟨ad', ⟨f1, .inl (f6 _ f8.1)⟩, f2, f3⟩, hy⟩
      | e d' c z j off => exact ⟨by rw [hl]; exact m1, vs, by rw [hl]; exact ⟨ad', ⟨f1, .inl (f6 _ f8.1)⟩, f2, f3⟩, hy⟩
    obtain ⟨rfl, hl2, F1, S1, us, q1, q2, q3, q4, q5⟩ := copy_ok h hv g2
    exact fin_val (hd := σ1.length) q1 hdf (hn.trans hl2.symm) (by omega) (fun k hk hne b => by rw [q5 k (by omega)]; exact hfree k (by omega) b) hr q2 (q3.mono fun _ q => q.elim)
  · obtain ⟨hle, hr⟩ := Pg.guard_some hr
    simp only [decide_eq_true_eq] at hle
    obtain ⟨ad, vs, e1, e2, e3, e4, e5⟩ := repFp_take k1 hle
    obtain ⟨y, hy⟩ := mkVal (ag := isAg P t) (vs := vs) (h1.imp id fun e => by omega)
    exact wp_value (run ad vs y e1 e2 e3 e4 hy) (hk _ _ (fin_val (hd := σ1.length) h hdf hn (Nat.le_refl _) (Inv.free hfree _) hr hy (e5 _)))
theorem putIn_getIn {A A' : AV} {pl : Pl} {cs : List OV} (hr : ∀ d, pl ≠ .r d) (hp : putIn A pl cs = some A') : ∃ old, getIn A pl cs.length = some old := by
  cases pl with
  | r d => exact absurd rfl (hr d)
  | b d off =>
    simp only [putIn] at hp
    split at hp
    · simp only [Option.map_eq_some_iff] at hp
      obtain ⟨r, hr', _⟩ := hp
      have := (cellsPut_eq hr').2
      simp [getIn, cellsAt, this]
    · simp at hp
  | e d c z i off =>
    simp only [putIn] at hp
    split at hp
    · rename_i z' els hs
      split at hp
      · rename_i hz
        split at hp
        · rename_i e he
          rw [Option.bind_eq_some_iff] at hp
          obtain ⟨e', he', _⟩ := hp
          have := (cellsPut_eq he').2
          simp [getIn, hs, hz, he, cellsAt, this]
        · simp at hp
      · simp at hp
    · simp at hp
theorem onEl_onMem {av : AV} {d : Nat} (h : av.onEl d = true) : av.onMem d = true := by
  cases av with
  | ptr pl => cases pl with
    | e d' c z i off => cases c <;> simp_all [AV.onEl, AV.onMem, Pl.isEl]
    | _ => simp [AV.onEl, Pl.isEl] at h
  | al pl n ag => cases pl with
    | e d' c z i off => cases c <;> simp_all [AV.onEl, AV.onMem, Pl.isEl, Pl.holder]
    | _ => simp [AV.onEl, Pl.isEl] at h
  | sv pl z' lo hi => cases pl with
    | e d' c z i off => cases c <;> simp_all [AV.onEl, AV.onMem, Pl.isEl, Pl.holder]
    | _ => simp [AV.onEl, Pl.isEl] at h
  | _ => simp [AV.onEl] at h
theorem St.storePl {pl : Pl} {hd : Nat} {cs : List OV} {vs : List Value} {A' : AV} {u : Unit} {ad : Addr} {S0 : Nat → BSet} {F0 : BSet} (h : St B K σ vals w Fz S) (hpl : PlAddr vals w F0 S0 pl ad) (hL : RepL w Fz cs vs (S hd)) (h0 : σ.length ≤ hd)
    (hp : putIn (σ.getD pl.holder .u) pl cs = some A') (hk : (killMem K pl.holder).run (σ.set pl.holder A') = some (u, σ')) :
    Row w ad.block (ad.off + vs.length) ∧ ∀ w', Upd w w' ad.block ad.off vs → Step (· = ad.block) w w' → ∃ S', St B K σ' vals w' Fz S' ∧ σ'.length = σ.length ∧ (∀ b, ¬ S' hd b) ∧ ∀ k, σ.length ≤ k → k ≠ hd → S' k = S k := by
  have hr := plAddr_ne hpl
  obtain ⟨old, hg⟩ := putIn_getIn hr hp
  have hdl : pl.holder < σ.length := lt_of_getD (getIn_ne hg)
  obtain ⟨ad', vo, T1, T2, f1, f2, f3, f4, f5, f6, f7, f8, f9, f10⟩ := focus (K' := K) (vals' := vals) (h.rep pl.holder) rfl hr hg
  obtain rfl := f1.uniq hpl
  have hlen := hL.length
  refine ⟨by rw [hlen]; exact f8.2, fun w' hU hS => ?_⟩
  have hne : hd ≠ pl.holder := by omega
  have hblk : S pl.holder ad'.block := f6 _ f8.1
  have hnf := (h.tok _ _ hblk).2.1
  have hd2 : ∀ b, S hd b → ¬ T2 b := fun b hb q => h.dis hd pl.holder b hne hb (f6 b q)
  have hsame : ∀ b, b < w.heap.size → b ≠ ad'.block → w'.heap[b]? = w.heap[b]? := fun b hb hn => hS.keep b hb hn
  let S' : Nat → BSet := fun t => if t = pl.holder then (fun b => T2 b ∨ S hd b) else if t = hd then fun _ => False else S t
  have hS'h : S' pl.holder = fun b => T2 b ∨ S hd b := by simp [S']
  have hS'o : ∀ t, t ≠ pl.holder → t ≠ hd → S' t = S t := fun t h1 h2 => by simp [S', h1, h2]
  have hL' : RepL w' Fz cs vs (S hd) := hL.keep (fun _ h => h) (fun b hb => hsame b (hb.elim (h.frz b) fun q => (h.tok _ _ q).1) (fun e => by
    subst e; exact hb.elim hnf fun q => hd2 _ q f8.1)) (fun _ h => h)
  have hA := f10 w' Fz S' cs vs (S hd) A' hp rfl hL' hd2 (fun _ h => h) (fun b hb hn => hsame b (hb.elim (fun q => (h.tok _ _ (f6 b q)).1) (h.frz b)) hn) hU hnf (fun b hb => by rw [hS'h]; exact hb)
  obtain ⟨σ1, e1, hl', hk'⟩ := kill_run (AV.onMem pl.holder) (K.getD pl.holder []) (σ.set pl.holder A')
  unfold killMem at hk
  rw [e1] at hk
  obtain ⟨_, rfl⟩ : () = u ∧ σ1 = σ' := by simpa using hk
  refine ⟨S', ⟨fun t => ?_, fun t u b htu ht hu => ?_, fun t b ht => ?_, fun t h' hon => ?_, fun b hb => Nat.lt_of_lt_of_le (h.frz b hb) hS.size, hS.os.trans h.os, hS.tape.trans h.tape, hS.output.trans h.output, Nat.le_trans h.size hS.size, fun b hb hn => ?_, h.fz0, h.fz1⟩, by simpa using hl', fun b hb => ?_, fun k hk hne' => hS'o k (by omega) hne'⟩
  · rcases hk' t with ⟨e, hm⟩ | ⟨_, _, e⟩
    · rw [e, getD_set]
      by_cases ht : t = pl.holder
      · rw [if_pos ht, if_pos hdl, ht]; exact hA
      · rw [if_neg ht]
        rw [getD_set, if_neg ht] at hm
        rcases Nat.lt_or_ge t σ.length with htl | htl
        · have hrep := h.rep t
          have hth : t ≠ hd := by omega
          refine hrep.keep (fun _ h => h) (fun b hb => hsame b (hb.elim (h.frz b) fun q => (h.tok _ _ q).1) (fun e => by
            subst e; exact hb.elim hnf fun q => h.dis t pl.holder _ ht q hblk)) (fun b hb => by rw [hS'o t ht hth]; exact hb) (fun h' hon => ?_)
          by_cases hh : h' = pl.holder
          · subst hh
            have hno : (σ.getD t .u).onMem pl.holder = false := by
              rcases hm (leans_of_on hrep hon).1 with q | q
              · exact q
              · rw [q]; rfl
            refine ⟨rfl, fun _ b e _ => .inl (by rw [hS'h]; exact .inl (f9.1 b e)), fun _ a len cap e _ => .inl (by rw [hS'h]; exact .inl (f9.2 a len cap e)), fun e => ?_, fun e => ?_⟩
            · rw [onEl_onMem e] at hno; simp at hno
            · rw [hno] at e; simp at e
          · have hhl := h.hol t h' hon
            exact Held.same _ _ _ rfl (fun b hb => .inl (by rw [hS'o h' hh (by omega)]; exact hb)) (fun b hb => hsame b (h.tok _ _ hb).1 (fun e => by subst e; exact h.dis h' pl.holder _ hh hb hblk))
        · have : σ.getD t .u = .u := by simp [List.getD_eq_getElem?_getD, List.getElem?_eq_none htl]
          rw [this]; trivial
    · rw [e]; trivial
  · have key : ∀ t b, S' t b → (t = pl.holder ∧ (S pl.holder b ∨ S hd b)) ∨ (t ≠ pl.holder ∧ t ≠ hd ∧ S t b) := by
      intro t b hb
      by_cases e1 : t = pl.holder
      · subst e1; rw [hS'h] at hb; exact .inl ⟨rfl, hb.imp (f6 b) id⟩
      · by_cases e2 : t = hd
        · subst e2; simp [S', hne] at hb
        · rw [hS'o t e1 e2] at hb; exact .inr ⟨e1, e2, hb⟩
    rcases key t b ht with ⟨rfl, q⟩ | ⟨q1, q2, q⟩ <;> rcases key u b hu with ⟨rfl, q'⟩ | ⟨q1', q2', q'⟩
    · exact htu rfl
    · exact q.elim (fun q => h.dis _ _ b htu q q') (fun q => h.dis _ _ b (fun e => q2' e.symm) q q')
    · exact q'.elim (fun q' => h.dis _ _ b htu q q') (fun q' => h.dis _ _ b q2 q q')
    · exact h.dis _ _ b htu q q'
  · have key : ∃ t', S t' b := by
      by_cases e1 : t = pl.holder
      · subst e1; rw [hS'h] at ht; exact ht.elim (fun q => ⟨_, f6 b q⟩) fun q => ⟨_, q⟩
      · by_cases e2 : t = hd
        · subst e2; simp [S', hne] at ht
        · rw [hS'o t e1 e2] at ht; exact ⟨t, ht⟩
    obtain ⟨t', ht'⟩ := key
    have := h.tok t' b ht'
    exact ⟨Nat.lt_of_lt_of_le this.1 hS.size, this.2⟩
  · rw [hl', List.length_set]
    have hh : ∀ t h', ((σ.set pl.holder A').getD t .u).on h' = true → h' < σ.length := by
      intro t h' hon
      rw [getD_set] at hon
      by_cases ht : t = pl.holder
      · rw [if_pos ht, if_pos hdl, putIn_on hp] at hon; simp at hon
      · rw [if_neg ht] at hon; exact h.hol t h' hon
    rcases hk' t with ⟨e, _⟩ | ⟨_, _, e⟩
    · rw [e] at hon; exact hh t h' hon
    · rw [e] at hon; simp [AV.on] at hon
  · have := h.old b hb hn
    rw [hsame b (Nat.lt_of_lt_of_le hb h.size) (fun e => by
      subst e
      rcases (h.tok _ _ hblk).2.2 with q | q
      · exact hn q
      · omega)]
    exact this
  · simp [S', hne] at hb
theorem wholes_cells : ∀ {cs : List OV} {vs : List Value} {T : BSet}, RepL w Fz cs vs T → OV.wholes cs = true → ∀ v ∈ vs, v.oneCell' = true
  | [], [], _, _, _, v, hv => by simp at hv
  | c :: cs, x :: vs, T, ⟨T1, T2, h1, h2, _⟩, hw, v, hv => by
    simp only [OV.wholes, Bool.and_eq_true] at hw
    rcases List.mem_cons.1 hv with rfl | hv
    · exact h1.oneCell (fun e => by subst e; simp [OV.whole] at hw)
    · exact wholes_cells h2 hw.2 v hv
  | [], _ :: _, _, h, _, _, _ => h.elim
  | _ :: _, [], _, h, _, _, _ => h.elim
theorem wholes_p (ps : List PV) : OV.wholes (ps.map .p) = true := by induction ps <;> simp_all [OV.wholes, OV.whole]
theorem sound_store {t : TypeId} {x z : Operand} {ox oz : Od} {keep : Bool} (ho : o.op = .store t x z) (hdst : o.dst = none) (hx : odT x = some ox) (hz : odOf P t z = some oz) (ht : has P t = true) : Sound I P callf o (.store (P.cellsOf t) ox oz keep) := by
  intro B K σ σ' a w u hI hr Kt Q hk
  obtain ⟨hdf, hn, Fz, S, h, hfree⟩ := hI
  obtain ⟨r, σ1, g1, hr⟩ := Pg.bind_some hr
  obtain ⟨rfl, i, rfl, hc⟩ := adr_ok h hx g1
  rcases hc with ⟨pl, ad, rfl, k1, k2, k3⟩ | ⟨cs, rfl, k1⟩
  case inr => simp at hr
  obtain ⟨v, σ2, g2, hr2⟩ := Pg.bind_some hr
  obtain ⟨rfl, hv⟩ := val_ok h (odOf_ok (a := a) hz) g2
  obtain ⟨hg, hr3⟩ := Pg.guard_some hr2
  simp only [Bool.and_eq_true, beq_iff_eq] at hg
  obtain ⟨cs, σ3, g3, hr4⟩ := Pg.bind_some hr3
  obtain ⟨A', g4, hr5⟩ := putPl_some hr4
  have key : ∃ F1 S1 vs, St B K σ3 (valsOf a) w F1 S1 ∧ σ3.length = σ2.length ∧ valIs v.ag (a.eval z) vs ∧ RepL w F1 cs vs (S1 σ2.length) ∧ (∀ k, σ2.length ≤ k → k ≠ σ2.length → S1 k = S k) ∧ OV.wholes cs = true ∧ cs.length = P.cellsOf t := by
    have tk : (take K v).run σ2 = some (cs, σ3) → ∃ F1 S1 vs, St B K σ3 (valsOf a) w F1 S1 ∧ σ3.length = σ2.length ∧ valIs v.ag (a.eval z) vs ∧ RepL w F1 cs vs (S1 σ2.length) ∧ (∀ k, σ2.length ≤ k → k ≠ σ2.length → S1 k = S k) ∧ OV.wholes cs = true ∧ cs.length = P.cellsOf t := by
      intro g3
      obtain ⟨rfl, hl, S1, vs, q1, q2, q3, q4⟩ := take_ok h hv g3 (Nat.le_refl _) (hfree _ (Nat.le_refl _))
      exact ⟨Fz, S1, vs, q1, hl, q2, q3, q4, hg.2, hg.1⟩
    have cp : ((copy v).bind fun cs => .ret (cs.map OV.p)).run σ2 = some (cs, σ3) → ∃ F1 S1 vs, St B K σ3 (valsOf a) w F1 S1 ∧ σ3.length = σ2.length ∧ valIs v.ag (a.eval z) vs ∧ RepL w F1 cs vs (S1 σ2.length) ∧ (∀ k, σ2.length ≤ k → k ≠ σ2.length → S1 k = S k) ∧ OV.wholes cs = true ∧ cs.length = P.cellsOf t := by
      intro g3
      obtain ⟨ps, σ4, g5, g6⟩ := Pg.bind_some g3
      simp only [Pg.run_ret, Option.some.injEq, Prod.mk.injEq] at g6
      obtain ⟨rfl, rfl⟩ := g6
      obtain ⟨rfl, hl, F1, S1, vs, q1, q2, q3, q4, q5⟩ := copy_ok h hv g5
      exact ⟨F1, S1, vs, q1, hl, q2, q3.mono fun _ h => h.elim, fun k hk _ => q5 k hk, wholes_p _, by simp [frzs_eq_map, hg.1]⟩
    cases pl with
    | r d => exact k1.elim
    | b d off => exact tk g3
    | e d c z' j off =>
      cases keep with
      | true => exact tk g3
      | false => exact cp g3
  obtain ⟨F1, S1, vs, q1, hl, q2, q3, q4, q5, q6⟩ := key
  have hlv := q3.length
  have hone := wholes_cells q3 q5
  obtain ⟨hrow, upd⟩ := q1.storePl k1 q3 (by omega) g4 hr5
  obtain ⟨w', e1, e2, e3, e4⟩ := run_storeVar (P := P) (t := t) (x := a.eval z) ht k1.spot (valIs_cells q2 (fun e => by rw [e] at q2; have := valIs_false q2; subst this; exact hone _ (by simp))) (by omega) hrow hone
  obtain ⟨S', p1, p2, p3, p4⟩ := upd w' e2 e3
  refine wp_skip' (w' := w') ?_ (hk _ _ ?_)
  · simp only [execOp, ho, Sem.run_bind, Instr.storeAt, k2, Instr.sureAddr, Sem.run_pure, Result.andThen_ok, e1]
  · rw [hdst]
    refine ⟨hdf, by rw [p2, hl]; exact hn, F1, S', p1, fun k hk b hb => ?_⟩
    by_cases hk' : k = σ2.length
    · subst hk'; exact p3 b hb
    · rw [p4 k (by omega) hk', q4 k (by omega) hk'] at hb
      exact hfree k (by omega) b hb
end
end Go.Pv
end

section
namespace Go.Pv
open Go.RowKit
set_option linter.unusedVariables false
set_option linter.unusedSimpArgs false
section
variable {P : Program} {I : World → Prop} {B : Base I} {K : Kills} {σ σ' σ1 : List AV} {vals vals' : Nat → Value} {w w' : World} {Fz Fz' : BSet} {S S' : Nat → BSet} {a : Act} {hd : Nat} {dst : Option Nat} {v : AV} {x y : Value} {o : Oper} {Kt : Act → World → Prop} {Q : Exit → Act → World → Prop} {callf : Nat → List AV → Option CRes}
theorem zeroCells_ok {t : TypeId} {zs : List OV} (h : zeroCells P t = some zs) : ∃ i v, P.info? t = some i ∧ i.zero = some v ∧ ∀ w Fz, RepL w Fz zs v.cells.toList (fun _ => False) := by
  unfold zeroCells at h
  split at h
  case h_2 => simp at h
  rename_i i hi
  split at h
  case h_2 => simp at h
  rename_i v zs' hv hz
  exact ⟨i, v, hi, hv, fun w Fz => constCells_ok h⟩
theorem run_zeroValue {t : TypeId} {i : TypeInfo} {v : Value} (hi : P.info? t = some i) (hv : i.zero = some v) : (zeroValue t).run P w = .ok v w := by
  simp [zeroValue, typeInfo, hi, hv, program, Sem.run]
theorem St.newBox {cs : List OV} {c : Array Value} {e : TypeId} (h : St B K σ vals w Fz S) (h0 : σ.length ≤ hd) (hL : RepL w Fz cs c.toList (S hd)) :
    ∃ S', St B K σ vals (w.alloc (.cells c e)) Fz S' ∧ (∀ k, k ≠ hd → S' k = S k) ∧ RepBox (w.alloc (.cells c e)) Fz cs (.pointer (some ⟨w.heap.size, 0, none⟩)) (S' hd) := by
  have hlen := hL.length
  refine ⟨_, h.step h0 (alloc_step w _ _) (T := fun b => S hd b ∨ b = w.heap.size) (fun b hb => hb.imp id fun q => ⟨by omega, by subst q; simp⟩), fun k hk => by simp [updS, hk], ?_⟩
  have hold : ∀ b, Fz b ∨ S hd b → (w.alloc (.cells c e)).heap[b]? = w.heap[b]? := fun b hb => heap_alloc_old w _ b (hb.elim (h.frz b) fun q => (h.tok hd b q).1)
  refine ⟨w.heap.size, c.toList, rfl, by simp [updS], ?_, alloc_cells w c e _, S hd, hL.keep (fun _ h => h) hold (fun _ h => h), fun b hb => by simp only [updS, if_true]; exact .inl hb, fun hb => ?_⟩
  · have := alloc_row w c e (fz := (0, 0)) (fun o _ => by simp)
    have e1 : cs.length = c.size := by rw [← hlen]; simp
    rw [e1]; exact this
  · have := (h.tok hd _ hb).1; omega
theorem fin_box {cs : List OV} {u : Unit} (h : St B K σ (valsOf a) w Fz S) (hdf : a.defers = B.ds) (hn : a.tmps.size = σ.length) (h0 : σ.length ≤ hd) (hfree : ∀ k, σ.length ≤ k → k ≠ hd → ∀ b, ¬ S k b)
    (hr : (out K dst (.box cs)).run σ = some (u, σ')) (hb : RepBox w Fz cs x (S hd)) : Inv B K σ' (a.put dst x) w :=
  fin h hdf hn h0 hfree hr (fun d _ => by show RepBox w Fz cs x (mvS S hd d d); rw [mvS_d]; exact hb) (fun y hy => by simp [AV.on] at hy)
theorem sound_alloc {e : TypeId} {zs : List OV} (ho : o.op = .alloc e) (hz : zeroCells P e = some zs) : Sound I P callf o (.alloc zs) := by
  intro B K σ σ' a w u hI hr Kt Q hk
  obtain ⟨hdf, hn, Fz, S, h, hfree⟩ := hI
  obtain ⟨i, v, h1, h2, h3⟩ := zeroCells_ok hz
  obtain ⟨S', k1, k2, k3⟩ := h.newBox (hd := σ.length) (c := v.cells) (e := e) (Nat.le_refl _) ((h3 w Fz).mono fun _ q => q.elim)
  refine wp_value (x := .pointer (some ⟨w.heap.size, 0, none⟩)) (w' := w.alloc (.cells v.cells e)) ?_ (hk _ _ (fin_box k1 hdf hn (Nat.le_refl _) (fun k hk hne b => by rw [k2 k hne]; exact hfree k hk b) hr k3))
  simp only [execOp, ho, Sem.run_bind, Instr.alloc, run_zeroValue h1 h2, Result.andThen_ok, newVar, newRow, Sem.run_pure]
  rfl
theorem sound_box {e : TypeId} {z : Operand} {oz : Od} (ho : o.op = .box e z) (hz : odOf P e z = some oz) : Sound I P callf o (.box oz) := by
  intro B K σ σ' a w u hI hr Kt Q hk
  obtain ⟨hdf, hn, Fz, S, h, hfree⟩ := hI
  obtain ⟨v, σ1, g1, r1⟩ := Pg.bind_some hr
  obtain ⟨rfl, hv⟩ := val_ok h (odOf_ok (a := a) hz) g1
  obtain ⟨hw, r2⟩ := Pg.guard_some r1
  obtain ⟨cs, σ2, g2, r3⟩ := Pg.bind_some r2
  obtain ⟨rfl, hl, S1, vs, q1, q2, q3, q4⟩ := take_ok h hv g2 (Nat.le_refl _) (hfree _ (Nat.le_refl _))
  have hc := valIs_cells q2 (fun e => by rw [e] at q2; have := valIs_false q2; subst this; exact wholes_cells q3 hw _ (by simp))
  obtain ⟨S', k1, k2, k3⟩ := q1.newBox (hd := σ1.length) (c := (a.eval z).cells) (e := e) (by omega) (by rw [hc]; simpa using q3)
  refine wp_value (x := .pointer (some ⟨w.heap.size, 0, none⟩)) (w' := w.alloc (.cells (a.eval z).cells e)) ?_ (hk _ _ (fin_box k1 hdf (hn.trans hl.symm) (by omega) (fun k hk hne b => by rw [k2 k hne, q4 k (by omega) hne]; exact hfree k (by omega) b) r3 k3))
  simp only [execOp, ho, Sem.run_bind, Instr.box, newVar, newRow, Sem.run_pure, Result.andThen_ok]
  rfl
theorem St.merge {h1 h2 : Nat} (h : St B K σ vals w Fz S) (g1 : σ.length ≤ h1) (g2 : σ.length ≤ h2) (hne : h1 ≠ h2) :
    ∃ S', St B K σ vals w Fz S' ∧ (∀ b, S' h1 b ↔ S h1 b ∨ S h2 b) ∧ (∀ b, ¬ S' h2 b) ∧ ∀ k, k ≠ h1 → k ≠ h2 → S' k = S k := by
  have key : ∀ t b, updS (updS S h1 fun b => S h1 b ∨ S h2 b) h2 (fun _ => False) t b → (t = h1 ∧ (S h1 b ∨ S h2 b)) ∨ (t ≠ h1 ∧ t ≠ h2 ∧ S t b) := by
    intro t b hb
    simp only [updS] at hb
    split at hb
    · exact hb.elim
    · rename_i e2
      split at hb
      · rename_i e1; exact .inl ⟨e1, hb⟩
      · rename_i e1; exact .inr ⟨e1, e2, hb⟩
  refine ⟨updS (updS S h1 fun b => S h1 b ∨ S h2 b) h2 (fun _ => False), ⟨fun t => ?_, fun t u b htu ht hu => ?_, fun t b ht => ?_, h.hol, h.frz, h.os, h.tape, h.output, h.size, h.old, h.fz0, h.fz1⟩, fun b => by simp [updS, hne], fun b => by simp [updS], fun k k1 k2 => by simp [updS, k1, k2]⟩
  · rcases Nat.lt_or_ge t σ.length with htl | htl
    · refine (h.rep t).keep (fun _ h => h) (fun _ _ => rfl) (fun b hb => by simp only [updS, if_neg (show t ≠ h2 by omega), if_neg (show t ≠ h1 by omega)]; exact hb) (fun h' hon => Held.same _ _ _ rfl (fun b hb => .inl ?_) (fun _ _ => rfl))
      have := h.hol t h' hon
      simp only [updS, if_neg (show h' ≠ h2 by omega), if_neg (show h' ≠ h1 by omega)]; exact hb
    · have : σ.getD t .u = .u := by simp [List.getD_eq_getElem?_getD, List.getElem?_eq_none htl]
      rw [this]; trivial
  · rcases key t b ht with ⟨rfl, q⟩ | ⟨q1, q2, q⟩ <;> rcases key u b hu with ⟨rfl, q'⟩ | ⟨q1', q2', q'⟩
    · exact htu rfl
    · exact q.elim (fun q => h.dis _ _ b htu q q') (fun q => h.dis _ _ b (fun e => q2' e.symm) q q')
    · exact q'.elim (fun q' => h.dis _ _ b htu q q') (fun q' => h.dis _ _ b q2 q q')
    · exact h.dis _ _ b htu q q'
  · rcases key t b ht with ⟨rfl, q⟩ | ⟨q1, q2, q⟩
    · exact q.elim (h.tok _ b) (h.tok _ b)
    · exact h.tok _ b q
theorem fold_set (new : List Value) (off : Nat) : ∀ (cs : Array Value) (k : Nat), off + k + new.length ≤ cs.size →
    ((new.zipIdx k).foldl (fun cs (p : Value × Nat) => cs.setIfInBounds (off + p.2) p.1) cs).toList = cs.toList.take (off + k) ++ new ++ cs.toList.drop (off + k + new.length) := by
  induction new with
  | nil => intro cs k h; simp
  | cons v new ih =>
    intro cs k h
    simp only [List.length_cons] at h
    rw [List.zipIdx_cons, List.foldl_cons, ih _ (k + 1) (by simp; omega)]
    simp only [Array.toList_setIfInBounds]
    apply List.ext_getElem?
    intro j
    rw [getElem?_mid, getElem?_mid]
    simp only [List.length_take, List.length_set, List.getElem?_take, List.getElem?_set, List.getElem?_drop, Array.length_toList, List.length_cons]
    have e1 : min (off + (k + 1)) cs.size = off + k + 1 := by omega
    have e2 : min (off + k) cs.size = off + k := by omega
    rw [e1, e2]
    by_cases h1 : j < off + k
    · rw [if_pos (by omega), if_pos (by omega), if_neg (by omega), if_pos h1, if_pos h1]
    · rw [if_neg h1]
      by_cases h2 : j = off + k
      · subst h2
        rw [if_pos (by omega), if_pos (by omega), if_pos rfl, if_pos (by omega), if_pos (by omega)]
        simp
      · rw [if_neg (by omega)]
        by_cases h3 : j < off + k + 1 + new.length
        · rw [if_pos (by omega), if_pos (by omega)]
          rw [show j - (off + k) = (j - (off + k + 1)) + 1 by omega, List.getElem?_cons_succ]
        · rw [if_neg (by omega), if_neg (by omega), if_neg (by omega)]
          congr 1
          omega
theorem fill_one {place : Nat → Option (Nat × Nat)} {cells : Array Value} {i off size : Nat} {v : Value} {rest : List (Nat × Value)} {new : List Value} (hp : place i = some (off, size)) (hv : v.cells = new.toArray) (hn : new.length = size) (hf : off + size ≤ cells.size) :
    ∃ cells', cells'.toList = cells.toList.take off ++ new ++ cells.toList.drop (off + new.length) ∧ Instr.fill place cells ((i, v) :: rest) = Instr.fill place cells' rest := by
  refine ⟨_, fold_set new off cells 0 (by omega), ?_⟩
  simp only [Instr.fill, hp, hv, List.size_toArray, hn, ne_eq, not_true_eq_false, decide_false, Bool.false_or, Nat.add_zero]
  rw [if_neg (by simp; omega)]
  rw [← Array.foldl_toList]
  simp
theorem RepL.put {cs new r : List OV} {vc vn : List Value} {T1 T2 T : BSet} {off : Nat} (h1 : RepL w Fz cs vc T1) (h2 : RepL w Fz new vn T2) (hp : cellsPut cs off new = some r) (hd : ∀ b, T1 b → ¬ T2 b) (hT1 : ∀ b, T1 b → T b) (hT2 : ∀ b, T2 b → T b) :
    RepL w Fz r (vc.take off ++ vn ++ vc.drop (off + vn.length)) T := by
  obtain ⟨rfl, hle⟩ := cellsPut_eq hp
  have l2 := h2.length
  have hs : cs = cs.take off ++ ((cs.drop off).take new.length ++ cs.drop (off + new.length)) := by rw [← List.drop_drop, List.take_append_drop, List.take_append_drop]
  rw [hs] at h1
  obtain ⟨VA, V2, U1, U2, rfl, hA, hL2, k1, k2, k3⟩ := h1.split
  obtain ⟨VC, VB, U3, U4, rfl, hC, hB, m1, m2, m3⟩ := hL2.split
  have lA := hA.length
  have lC := hC.length
  rw [List.length_take] at lA
  rw [List.length_take, List.length_drop] at lC
  have e1 : (VA ++ (VC ++ VB)).take off = VA := by rw [List.take_append_of_le_length (by omega), List.take_of_length_le (by omega)]
  have e2 : (VA ++ (VC ++ VB)).drop (off + vn.length) = VB := by
    rw [List.drop_append, List.drop_of_length_le (by omega), List.nil_append, List.drop_append, List.drop_of_length_le (by omega), List.nil_append, show off + vn.length - VA.length - VC.length = 0 by omega]
    rfl
  rw [e1, e2]
  have hN : RepL w Fz (new ++ cs.drop (off + new.length)) (vn ++ VB) (fun b => T2 b ∨ U4 b) := h2.append hB (fun b q => .inl q) (fun b q => .inr q) (fun b q q' => hd b (k2 b (m2 b q')) q)
  have := hA.append hN (T := T) (fun b q => hT1 b (k1 b q)) (fun b q => q.elim (hT2 b) fun q => hT1 b (k2 b (m2 b q))) (fun b q q' => q'.elim (hd b (k1 b q)) fun q' => k3 b q (m2 b q'))
  simpa [List.append_assoc] using this
end
end Go.Pv
end
