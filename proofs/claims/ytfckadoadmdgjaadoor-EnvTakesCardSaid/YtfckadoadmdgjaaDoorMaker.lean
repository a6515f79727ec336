/- Own words of this session: slices.Backward hands its closure back. -/
import Derived.RangeFuncBox
import Derived.RangeFuncLeaves
import Derived.Shelf.Abstract
import Derived.WalkKit
import Derived.OwnWalkIn
import Derived.TacticsInMore
import Derived.LoopNIn
import Derived.LoopIn
import Derived.Test.YtfckadoadmdgjaaDoorPvd
import Derived.Test.YtfckadoadmdgjaaDoorProg
set_option linter.all false
namespace Go.Proofs
set_option linter.unusedSimpArgs false
open Go.RowKit Go.Shelf Go.Pv
attribute [local go_sem] Oper.semAt_some
set_option maxRecDepth 100000 in
set_option maxHeartbeats 2000000 in
theorem back_maker : MakerOk Tryd.prog 84 103 := by
  refine ⟨⟨_, Tryd.func84, rfl, by decide⟩, fun vs w hp hna => ?_⟩
  have hl := hp _ Tryd.func84
  match vs, hl with
  | [v], _ =>
    have hv : ∀ q, v ≠ .agg q := hna v (List.mem_singleton.2 rfl)
    refine (callsIn_wide (n := 1)).1 ?_
    refine callsIn_of_wp Tryd.func84 rfl (by trivial) ?_ rfl
    simp only [Tryd.ntmps84, List.size_toArray, List.length_cons, List.length_nil, Nat.reduceAdd, Nat.reduceSub, Array.replicate_succ, Array.replicate_zero, List.push_toArray, List.append_toArray, List.nil_append, List.cons_append]
    gi_wp2
    go_ret
    refine ⟨[w.heap.size], rfl, rfl, by simp, fun b hb => ?_, rfl, rfl, rfl, fun j b x h1 h2 => ?_⟩
    · show (w.heap.push _)[b]? = _
      rw [Array.getElem?_push, if_neg (Nat.ne_of_lt hb)]
    · cases j with
      | zero => simp at h1 h2; subst h1; subst h2; exact ⟨Nat.le_refl _, by simp only [World.cell?, World.alloc_heap_new]; rfl⟩
      | succ j => simp at h1
theorem makers_one {P : Program} {f0 g0 : Nat} (hm : MakerOk P f0 g0) (h : ((List.range P.funcs.size).all fun f => match makerOf P f with | none => true | some g => f == f0 && g == g0) = true) : MakersOk P := by
  intro f gf hf
  have hlt : f < P.funcs.size := by
    unfold makerOf at hf
    split at hf
    · rename_i F hF; exact (Array.getElem?_eq_some_iff.1 hF).1
    · simp at hf
  have := List.all_eq_true.1 h f (List.mem_range.2 hlt)
  rw [hf] at this
  simp only [Bool.and_eq_true, beq_iff_eq] at this
  obtain ⟨rfl, rfl⟩ := this
  exact hm
end Go.Proofs
