/- Any decimal is packed into 32 bits and back, or is told not to fit, just as the document has it: for every decimal. -/
import Derived.Test.YtnbllonnfbejgaaRkBase
import Derived.Test.YtnbllonnfbejgaaNum
namespace Go.Proofs.Ytnbllonnfbejgaa.Pure
open Go.RowKit Go.Proofs.Ytnbllonnfbejgaa.Rk Go.Proofs.YtnbllonnfbejgaaW.PrintWords Go.Proofs.YtnbllonnfbejgaaW.PrintLast

theorem RkPacks : cashbooklaw5_RkPacks.Pure := by
  intro m s _ _
  refine ⟨1, ?_⟩
  unfold cashbooklaw5_RkPacks.f
  rw [known_eq]
  simp only [Option.bind_some, if_true, pack_eq, pack_ref, fits_eq, fits_ref, cashbooklaw4_Of.f]
  have e8 : (8 : Int) ≠ 0 := by decide
  rcases chk_01 m s with hc | hc
  · obtain ⟨h0, h9, _⟩ := chk_zero m s hc
    simp only [hc, if_true]
    by_cases hf : fit m s = true
    · have hb : chk m s = 0 ∧ -134217728 ≤ m ∧ m ≤ 134217727 := of_decide_eq_true hf
      obtain ⟨u1, u2, u3, u4⟩ := um_pk m s h0 h9 hb.2.1 hb.2.2
      simp only [hf, if_true, unpack_eq, Option.bind_some, u1, u2, hc, if_pos (And.intro u3 u4), if_pos u3]
      simp
      omega
    · have hf : fit m s = false := by simpa using hf
      simp [hf]
  · have hf : fit m s = false := decide_eq_false (fun h => by omega)
    simp [hc, hf]

end Go.Proofs.Ytnbllonnfbejgaa.Pure
