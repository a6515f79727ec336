/- Any bytes are read from any place on as numbers of each width, or told why not, just as the reference has it; so are bytes, and the Cursor behind them: for all bytes, places, counts. -/
import Derived.Test.YtnbllonnfbejgaaLeRef
namespace Go.Proofs.Ytnbllonnfbejgaa.Pure
open Go.RowKit Go.Proofs.Ytnbllonnfbejgaa.Le Go.Proofs.Ytnbllonnfbejgaa.PureLe Go.Proofs.YtnbllonnfbejgaaW.PrintWords Go.Proofs.YtnbllonnfbejgaaW.PrintLast Go.Proofs.YtnbllonnfbejgaaW.PrintMore

theorem LeReads : cashbooklaw3_LeReads.Pure := by
  intro b p n hm hs hw hp0 hn0
  have hp : I64 p := wf_i64 hp0
  have hn : I64 n := wf_i64 hn0
  have hB := bts_of_wf hw
  obtain ⟨k0, hk0⟩ := PureLe.known_eq
  refine ⟨k0 + 20, ?_⟩
  have hk : 10 ≤ k0 + 20 := by omega
  unfold cashbooklaw3_LeReads.f
  rw [hk0 _ (by omega)]
  simp only [Option.bind_some, if_true]
  by_cases hl : (b.length : Int) > 200
  · rw [if_pos hl]
  · rw [if_neg hl]
    have hL : Len b := by unfold Len; omega
    rw [U8_eq hk hL hB hp, Low_eq hk hL hB hp (by decide) (by decide), U16_eq hk hL hB hp, Low_eq hk hL hB hp (by decide) (by decide), U32_eq hk hL hB hp, Low_eq hk hL hB hp (by decide) (by decide),
      I64_eq hk hL hB hp, Low_eq hk hL hB hp (by decide) (by decide), Bytes_eq (k0 + 19) hL hp hn, GetBytes_eq (k0 + 19) hL hp hn, End_eq (k0 + 19), refEnd_eq]
    have b1 := rdR_bound (p := p) hB (show (0 : Int) ≤ 1 by decide)
    have b2 := rdR_bound (p := p) hB (show (0 : Int) ≤ 2 by decide)
    have b4 := rdR_bound (p := p) hB (show (0 : Int) ≤ 4 by decide)
    rw [show (256 : Int) ^ Int.toNat 1 = 256 by decide] at b1
    rw [show (256 : Int) ^ Int.toNat 2 = 65536 by decide] at b2
    rw [show (256 : Int) ^ Int.toNat 4 = 4294967296 by decide] at b4
    simp only [Option.bind_some, if_true, rdR_b, rdB_b]
    rw [if_pos (w64 (by omega) (by omega)).symm, if_pos (w64 (by omega) (by omega)).symm, if_pos (w64 (by omega) (by omega)).symm]
    rw [same_eq _ _ _ _ rfl rfl, same_eq _ _ _ _ rfl rfl, same_eq _ _ _ _ rfl rfl, same_eq _ _ _ _ rfl rfl, same_eq _ _ _ _ rfl rfl]
    simp
end Go.Proofs.Ytnbllonnfbejgaa.Pure
