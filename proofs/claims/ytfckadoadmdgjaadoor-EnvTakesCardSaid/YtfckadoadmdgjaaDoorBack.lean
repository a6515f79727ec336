/- Own words of this session: slices.Backward's closure gives its rounds. -/
import Derived.RangeFuncBox
import Derived.RangeFuncLeaves
import Derived.Shelf.Abstract
import Derived.WalkKit
import Derived.OwnWalkIn
import Derived.TacticsInMore
import Derived.LoopNIn
import Derived.LoopIn
import Derived.Test.YtfckadoadmdgjaaDoorPvd
import Derived.Test.YtfckadoadmdgjaaDoorProg
set_option linter.all false
namespace Go.Proofs
set_option linter.unusedSimpArgs false
open Go.RowKit Go.Shelf Go.Pv
attribute [local go_sem] Oper.semAt_some
theorem cells_of (l : List Value) (h : l.length = 18) : ∃ x0 x1 x2 x3 x4 x5 x6 x7 x8 x9 x10 x11 x12 x13 x14 x15 x16 x17, l = [x0, x1, x2, x3, x4, x5, x6, x7, x8, x9, x10, x11, x12, x13, x14, x15, x16, x17] := by
  match l, h with
  | [x0, x1, x2, x3, x4, x5, x6, x7, x8, x9, x10, x11, x12, x13, x14, x15, x16, x17], _ => exact ⟨_, _, _, _, _, _, _, _, _, _, _, _, _, _, _, _, _, _, rfl⟩
set_option maxRecDepth 100000 in
set_option maxHeartbeats 2000000 in
theorem back_yields {w : World} {F : Nat → Prop} {Bs o b off len cap : Nat} {ev : Nat → List Value} (hlen : len < 4611686018427387904) (hl : ∀ j, j < len → (ev j).length = 18) (hBs : F Bs) (hb : F b)
    (hB : w.cell? ⟨Bs, o, none⟩ = some (.slice (some ⟨b, off, none⟩) len cap)) (hc : ∀ j i v, j < len → (ev j)[i]? = some v → w.cell? ⟨b, off + j * 18 + i, none⟩ = some v) :
    Go.Pv.Yields Tryd.prog 103 #[.pointer (some ⟨Bs, o, none⟩)] (fun k => #[.int .i64 ((len - 1 - k : Nat) : Int), .agg (ev (len - 1 - k)).toArray]) len F w := by
  intro l J W hW hY h0
  have hB' : W.cell? ⟨Bs, o, none⟩ = some (.slice (some ⟨b, off, none⟩) len cap) := (World.cell?_of_block (hW _ hBs)).trans hB
  refine callsIn_of_wp Tryd.func103 rfl (by trivial) ?_ rfl
  simp only [Tryd.ntmps103, List.size_toArray, List.length_cons, List.length_nil, Nat.reduceAdd, Nat.reduceSub, Array.replicate_succ, Array.replicate_zero, List.push_toArray, List.append_toArray, List.nil_append, List.cons_append]
  gi_wp2
  gi_loopw [3] (fun i wr => ∃ k : Nat, k ≤ len ∧ i = .int .i64 ((len : Int) - 1 - k) ∧ J k wr ∧ KeepB F W wr) (fun i _ => (intOf i + 1).toNat)
  case atStart => exact ⟨0, Nat.zero_le _, by simp, h0, fun _ _ => rfl⟩
  case round =>
    obtain ⟨k, hk, rfl, hJs, hnx⟩ := hrel
    have hB2 : wr.cell? ⟨Bs, o, none⟩ = some (.slice (some ⟨b, off, none⟩) len cap) := (World.cell?_of_block (hnx _ hBs)).trans hB'
    have hcx : k < len → ∀ i v, (ev (len - 1 - k))[i]? = some v → wr.cell? ⟨b, off + (len - 1 - k) * 18 + i, none⟩ = some v := fun h i v hv => (World.cell?_of_block ((hnx _ hb).trans (hW _ hb))).trans (hc (len - 1 - k) i v (by omega) hv)
    by_cases hlt : k < len
    · obtain ⟨fn, tmps, assign, body, hy, hR⟩ := hY k wr hJs hlt
      have hcx' := hcx hlt
      obtain ⟨x0, x1, x2, x3, x4, x5, x6, x7, x8, x9, x10, x11, x12, x13, x14, x15, x16, x17, hev⟩ := cells_of _ (hl (len - 1 - k) (by omega))
      have hi : ((len - 1 - k : Nat) : Int) = len - 1 - k := by omega
      rw [hev] at hy hcx'
      rw [hi] at hy
      have c0 := hcx' 0 x0 rfl
      have c1 := hcx' 1 x1 rfl
      have c2 := hcx' 2 x2 rfl
      have c3 := hcx' 3 x3 rfl
      have c4 := hcx' 4 x4 rfl
      have c5 := hcx' 5 x5 rfl
      have c6 := hcx' 6 x6 rfl
      have c7 := hcx' 7 x7 rfl
      have c8 := hcx' 8 x8 rfl
      have c9 := hcx' 9 x9 rfl
      have c10 := hcx' 10 x10 rfl
      have c11 := hcx' 11 x11 rfl
      have c12 := hcx' 12 x12 rfl
      have c13 := hcx' 13 x13 rfl
      have c14 := hcx' 14 x14 rfl
      have c15 := hcx' 15 x15 rfl
      have c16 := hcx' 16 x16 rfl
      have c17 := hcx' 17 x17 rfl
      rw [Nat.add_zero] at c0
      have hidx : ((len : Int) - 1 - k).toNat = len - 1 - k := by omega
      gi_wp2
      refine ⟨rfl, hR.mono ?_⟩
      rintro e W3 ⟨rfl, hJ3, hk3⟩
      gi_wp2
      go_roundw
      case rel => exact ⟨k + 1, by omega, by simp; omega, hJ3, hnx.trans hk3⟩
      case measure => simp [intOf]; omega
    · obtain rfl : k = len := by omega
      gi_wp2
      go_end0
      exact ⟨⟨_, rfl⟩, hJs⟩
end Go.Proofs
