/- Just the numbers of 28 bits fit, of each scale, where no nought stands at the end: for every distance from either edge and every scale. -/
import Derived.Test.YtnbllonnfbejgaaRkBase
import Derived.Test.YtnbllonnfbejgaaNum
namespace Go.Proofs.Ytnbllonnfbejgaa.Pure
open Go.RowKit Go.Proofs.Ytnbllonnfbejgaa.Rk Go.Proofs.YtnbllonnfbejgaaW.PrintWords Go.Proofs.YtnbllonnfbejgaaW.PrintLast

theorem RkEdges : cashbooklaw5_RkEdges.Pure := by
  intro a0 a1 a2 _ _
  refine ⟨1, ?_⟩
  unfold cashbooklaw5_RkEdges.f
  rw [known_eq]
  simp only [Option.bind_some, if_true]
  generalize wrap64 (Int.tmod a2 10) = s
  have e8 : (8 : Int) ≠ 0 := by decide
  cases a1
  case' true => rw [if_pos rfl]; generalize wrap64 (-(wrap64 (134217728 + (wrap64 (a0))))) = m
  case' false => rw [if_neg (by decide)]; generalize wrap64 (134217728 + (wrap64 (a0))) = m
  all_goals
    simp only [chk_eq, pack_eq, fits_eq, Option.bind_some]
    rcases chk_01 m s with hc | hc
    · obtain ⟨h0, h9, _⟩ := chk_zero m s hc
      simp only [hc, if_true]
      by_cases h1 : m ≥ -134217728
      · rw [if_pos h1]
        by_cases h2 : m < 134217728
        · have hf : fit m s = true := decide_eq_true ⟨hc, h1, by omega⟩
          obtain ⟨u1, u2, u3, u4⟩ := um_pk m s h0 h9 h1 (by omega)
          simp only [hf, if_true, if_pos h2, unpack_eq, Option.bind_some, u1, u2, hc, if_pos (And.intro u3 u4)]
          simp
        · have hf : fit m s = false := decide_eq_false (fun h => by omega)
          simp only [hf, Bool.false_eq_true, if_false, if_neg h2, unpack_eq, Option.bind_some, if_neg e8]
      · rw [if_neg h1]
        have hf : fit m s = false := decide_eq_false (fun h => by omega)
        simp only [hf, Bool.false_eq_true, if_false, unpack_eq, Option.bind_some, if_neg e8]
    · have hf : fit m s = false := decide_eq_false (fun h => by omega)
      simp [hc, hf]

end Go.Proofs.Ytnbllonnfbejgaa.Pure
