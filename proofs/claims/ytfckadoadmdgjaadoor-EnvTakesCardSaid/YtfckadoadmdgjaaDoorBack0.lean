/- Own words of this session: slices.Backward's closure over nothing. -/
import Derived.RangeFuncBox
import Derived.RangeFuncLeaves
import Derived.Shelf.Abstract
import Derived.WalkKit
import Derived.OwnWalkIn
import Derived.TacticsInMore
import Derived.LoopNIn
import Derived.LoopIn
import Derived.Test.YtfckadoadmdgjaaDoorPvd
import Derived.Test.YtfckadoadmdgjaaDoorProg
set_option linter.all false
namespace Go.Proofs
set_option linter.unusedSimpArgs false
open Go.RowKit Go.Shelf Go.Pv
attribute [local go_sem] Oper.semAt_some
set_option maxRecDepth 100000 in
set_option maxHeartbeats 2000000 in
theorem back_yields0 {w : World} {F : Nat → Prop} {Bs o cap : Nat} {a : Option Addr} {encs : Nat → Array Value} (hBs : F Bs) (hB : w.cell? ⟨Bs, o, none⟩ = some (.slice a 0 cap)) :
    Go.Pv.Yields Tryd.prog 103 #[.pointer (some ⟨Bs, o, none⟩)] encs 0 F w := by
  intro l J W hW hY h0
  have hB' : W.cell? ⟨Bs, o, none⟩ = some (.slice a 0 cap) := (World.cell?_of_block (hW _ hBs)).trans hB
  refine callsIn_of_wp Tryd.func103 rfl (by trivial) ?_ rfl
  simp only [Tryd.ntmps103, List.size_toArray, List.length_cons, List.length_nil, Nat.reduceAdd, Nat.reduceSub, Array.replicate_succ, Array.replicate_zero, List.push_toArray, List.append_toArray, List.nil_append, List.cons_append]
  gi_wp2
  gi_loopw [3] (fun i wr => i = .int .i64 (-1) ∧ J 0 wr) (fun i _ => (intOf i + 1).toNat)
  case atStart => exact ⟨rfl, h0⟩
  case round =>
    obtain ⟨rfl, hJs⟩ := hrel
    gi_wp2
    go_end0
    exact ⟨⟨_, rfl⟩, hJs⟩
end Go.Proofs
