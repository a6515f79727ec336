/- Any number of 64 bits is read as a decimal, or is none, as the document has it; what is one is packed so again. -/
import Derived.Test.YtnbllonnfbejgaaRkBase
namespace Go.Proofs.Ytnbllonnfbejgaa.Pure
open Go.RowKit Go.Proofs.Ytnbllonnfbejgaa.Rk Go.Proofs.YtnbllonnfbejgaaW.PrintWords Go.Proofs.YtnbllonnfbejgaaW.PrintLast

theorem RkUnpacks : cashbooklaw5_RkUnpacks.Pure := by
  intro n _
  refine ⟨1, ?_⟩
  unfold cashbooklaw5_RkUnpacks.f
  rw [known_eq]
  simp only [Option.bind_some, if_true]
  rw [unpack_eq, unpack_ref]
  simp only [Option.bind_some, if_true, cashbooklaw4_Of.f]
  by_cases h : 0 ≤ n ∧ n ≤ 4294967295
  · simp only [if_pos h]
    by_cases hc : chk (um n) (us n) = 0
    · obtain ⟨e1, b1, b2⟩ := pk_um n h.1 h.2
      have hf : fit (um n) (us n) = true := by
        unfold fit
        rw [decide_eq_true_eq]
        exact ⟨hc, b1, b2⟩
      simp only [hc, if_true, beq_self_eq_true, Bool.not_true, Bool.or_self, pack_eq, hf, Option.bind_some, e1]
      rfl
    · rcases chk_01 (um n) (us n) with h1 | h1
      · exact absurd h1 hc
      · simp [h1]
  · simp [if_neg h]

end Go.Proofs.Ytnbllonnfbejgaa.Pure
