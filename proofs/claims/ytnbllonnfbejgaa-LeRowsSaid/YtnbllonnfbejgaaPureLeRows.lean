/- Numbers of two, four or eight bytes set behind each other are read back, each whole and in order, and the bytes end with the last: for all numbers and widths. -/
import Derived.Test.YtnbllonnfbejgaaLeFns
namespace Go.Proofs.Ytnbllonnfbejgaa.Pure
open Go.RowKit Go.Proofs.Ytnbllonnfbejgaa.Le Go.Proofs.Ytnbllonnfbejgaa.PureLe Go.Proofs.YtnbllonnfbejgaaW.PrintWords Go.Proofs.YtnbllonnfbejgaaW.PrintLast Go.Proofs.YtnbllonnfbejgaaW.PrintMore

/-- The bytes of the number at i. -/
def pc (ns ws : List Int) (i : Nat) : List Int :=
  if rd ws i % 3 = 0 then lb (rd ns i % 65536) 2 else if rd ws i % 3 = 1 then lb (rd ns i) 4 else lb (-(rd ns i)) 8
def cat (ns ws : List Int) : Nat → List Int
  | 0 => []
  | i + 1 => cat ns ws i ++ pc ns ws i
theorem pc_len (ns ws : List Int) (i : Nat) : (pc ns ws i).length ≤ 8 := by
  unfold pc
  split
  · simp [lb_length]
  · split <;> simp [lb_length]
theorem pc_bts (ns ws : List Int) (i : Nat) : Bts (pc ns ws i) := by
  unfold pc
  split
  · exact lb_bts _ _
  · split <;> exact lb_bts _ _
theorem cat_len (ns ws : List Int) : ∀ i, (cat ns ws i).length ≤ 8 * i
  | 0 => by simp [cat]
  | i + 1 => by
    have h1 := cat_len ns ws i
    have h2 := pc_len ns ws i
    rw [cat, List.length_append]
    omega
theorem cat_bts (ns ws : List Int) : ∀ i, Bts (cat ns ws i)
  | 0 => Bts.nil
  | i + 1 => (cat_bts ns ws i).app (pc_bts ns ws i)
theorem cat_up (ns ws : List Int) (i : Nat) : ∀ d, ∃ r, cat ns ws (i + d) = cat ns ws i ++ r
  | 0 => ⟨[], by simp⟩
  | d + 1 => by
    obtain ⟨r, h⟩ := cat_up ns ws i d
    exact ⟨r ++ pc ns ws (i + d), by rw [← Nat.add_assoc, cat, h, List.append_assoc]⟩
/-- A number read where its bytes stand. -/
theorem rdR_mid (a r : List Int) (x : Int) (n : Nat) : rdR (a ++ (lb x n ++ r)) (a.length : Int) (n : Int) = (x % 256 ^ n, a ++ (lb x n ++ r), (a.length : Int) + n, 0) := by
  have hl := lb_length x n
  unfold rdR
  rw [if_neg (by simp only [List.length_append]; omega), if_neg (by simp only [List.length_append]; omega)]
  rw [show sl (a ++ (lb x n ++ r)) (a.length : Int) (n : Int) = lb x n from ?_, leV_lb]
  unfold sl
  rw [Int.toNat_natCast, Int.toNat_natCast, List.drop_left, List.take_left' hl]
theorem step_pos {a b : Nat} {n : Int} (h : (b : Int) = a + n) (ha : a ≤ 1000) (h0 : 0 ≤ n) (hn : n ≤ 8) : (a : Int) + n = wrap64 ((a : Int) + n) :=
  (w64 (by omega) (by omega)).symm
theorem six (x : Int) : x % 65536 % 256 ^ 2 = x % 65536 := Int.emod_emod_of_dvd _ (by decide)
theorem four {x : Int} (h0 : 0 ≤ x) (h1 : x ≤ 4294967295) : x % 256 ^ 4 = x := Int.emod_eq_of_lt h0 (by rw [show (256 : Int) ^ 4 = 4294967296 by decide]; omega)
theorem eight {x : Int} (h0 : 0 ≤ x) (h1 : x ≤ 4294967295) : wrap64 (-x % 256 ^ 8) = -x := by
  rw [show (256 : Int) ^ 8 = 18446744073709551616 by decide]
  unfold wrap64
  omega
set_option maxHeartbeats 4000000 in
theorem rows_l1 (ns ws : List Int) (hn : ∀ x ∈ ns, 0 ≤ x ∧ x ≤ 4294967295) (hw : ∀ x ∈ ws, 0 ≤ x ∧ x ≤ 255) (hc : ns.length ≤ 60) (hcw : ns.length ≤ ws.length) :
    ∀ (d k i : Nat), ns.length = i + d → d + 20 < k → cashbooklaw3_LeRows.l1 k ns ws (i : Int) (cat ns ws ns.length) ((cat ns ws i).length : Int) = some true := by
  have hcl := cat_len ns ws ns.length
  have hL : Len (cat ns ws ns.length) := by unfold Len; omega
  have hB := cat_bts ns ws ns.length
  intro d
  induction d with
  | zero =>
    intro k i hi hk
    obtain ⟨k, rfl⟩ : ∃ j, k = j + 1 + 1 := ⟨k - 2, by omega⟩
    simp only [cashbooklaw3_LeRows.l1]
    rw [if_neg (by omega), End_eq, show i = ns.length by omega]
    simp [endR]
  | succ d ih =>
    intro k i hi hk
    obtain ⟨k, rfl⟩ : ∃ j, k = j + 1 := ⟨k - 1, by omega⟩
    have hil : i < ns.length := by omega
    have hiw : i < ws.length := by omega
    have hx := hn _ (List.getElem_mem hil)
    have hy := hw _ (List.getElem_mem hiw)
    rw [← rd_get hil] at hx
    rw [← rd_get hiw] at hy
    obtain ⟨r, hr⟩ := cat_up ns ws (i + 1) d
    rw [show i + 1 + d = ns.length by omega, cat, List.append_assoc] at hr
    have hci := cat_len ns ws i
    have hpi := pc_len ns ws i
    have hci2 : (cat ns ws i).length ≤ 1000 := by omega
    have hI : I64 ((cat ns ws i).length : Int) := by unfold I64; omega
    have e1 : wrap64 ((i : Int) + 1) = ((i + 1 : Nat) : Int) := by rw [w64 (by omega) (by omega)]; omega
    have go := ih k (i + 1) (by omega) (by omega)
    have ht : Int.tmod (rd ws (i : Int)) 3 = rd ws (i : Int) % 3 := Int.tmod_eq_emod_of_nonneg hy.1
    have ht2 : Int.tmod (rd ns (i : Int)) 65536 = rd ns (i : Int) % 65536 := Int.tmod_eq_emod_of_nonneg hx.1
    have e2 : wrap64 (rd ns (i : Int)) = rd ns (i : Int) := w64 (by omega) (by omega)
    have e3 : wrap64 (-(rd ns (i : Int))) = -(rd ns (i : Int)) := w64 (by omega) (by omega)
    have e4 : wrap64 (rd ns (i : Int) % 65536) = rd ns (i : Int) % 65536 := w64 (by omega) (by omega)
    have hplus : (cat ns ws (i + 1)).length = (cat ns ws i).length + (pc ns ws i).length := by rw [cat, List.length_append]
    simp only [cashbooklaw3_LeRows.l1]
    rw [if_pos (Int.ofNat_lt.2 hil), if_pos (Int.natCast_nonneg i), if_pos (Int.ofNat_lt.2 hiw), ht, ht2, e4, e2, e3, e1]
    by_cases h0 : rd ws (i : Int) % 3 = 0
    · have hp : pc ns ws i = lb (rd ns (i : Int) % 65536) 2 := by unfold pc; rw [if_pos h0]
      have hm := rdR_mid (cat ns ws i) r (rd ns (i : Int) % 65536) 2
      rw [← hp, ← hr] at hm
      rw [hp, lb_length] at hplus
      have hq : ((cat ns ws (i + 1)).length : Int) = ((cat ns ws i).length : Int) + 2 := by rw [hplus]; rfl
      rw [show ((2 : Nat) : Int) = 2 from rfl] at hm
      rw [if_pos h0, U16_eq (by omega) hL hB hI, hm, Option.bind_some, if_pos rfl, if_pos (six _)]
      simp only
      rw [if_pos (step_pos hq hci2 (by decide) (by decide)), ← hq]
      exact go
    · rw [if_neg h0]
      by_cases h1 : rd ws (i : Int) % 3 = 1
      · have hp : pc ns ws i = lb (rd ns (i : Int)) 4 := by unfold pc; rw [if_neg h0, if_pos h1]
        have hm := rdR_mid (cat ns ws i) r (rd ns (i : Int)) 4
        rw [← hp, ← hr] at hm
        rw [hp, lb_length] at hplus
        have hq : ((cat ns ws (i + 1)).length : Int) = ((cat ns ws i).length : Int) + 4 := by rw [hplus]; rfl
        rw [show ((4 : Nat) : Int) = 4 from rfl] at hm
        rw [if_pos h1, U32_eq (by omega) hL hB hI, hm, Option.bind_some, if_pos rfl, if_pos (four hx.1 hx.2)]
        simp only
        rw [if_pos (step_pos hq hci2 (by decide) (by decide)), ← hq]
        exact go
      · rw [if_neg h1, if_pos (by omega)]
        have hp : pc ns ws i = lb (-(rd ns (i : Int))) 8 := by unfold pc; rw [if_neg h0, if_neg h1]
        have hm := rdR_mid (cat ns ws i) r (-(rd ns (i : Int))) 8
        rw [← hp, ← hr] at hm
        rw [hp, lb_length] at hplus
        have hq : ((cat ns ws (i + 1)).length : Int) = ((cat ns ws i).length : Int) + 8 := by rw [hplus]; rfl
        rw [show ((8 : Nat) : Int) = 8 from rfl] at hm
        rw [I64_eq (by omega) hL hB hI, hm, Option.bind_some, if_pos rfl, if_pos (eight hx.1 hx.2)]
        simp only
        rw [if_pos (step_pos hq hci2 (by decide) (by decide)), ← hq]
        exact go
set_option maxHeartbeats 4000000 in
theorem rows_l0 (ns ws : List Int) (hn : ∀ x ∈ ns, 0 ≤ x ∧ x ≤ 4294967295) (hw : ∀ x ∈ ws, 0 ≤ x ∧ x ≤ 255) (hc : ns.length ≤ 60) (hcw : ns.length ≤ ws.length) :
    ∀ (d k i : Nat), ns.length = i + d → d + 120 < k → cashbooklaw3_LeRows.l0 k ns ws (cat ns ws i) (i : Int) = some true := by
  intro d
  induction d with
  | zero =>
    intro k i hi hk
    obtain ⟨k, rfl⟩ : ∃ j, k = j + 1 := ⟨k - 1, by omega⟩
    simp only [cashbooklaw3_LeRows.l0]
    rw [if_neg (by omega), show i = ns.length by omega]
    exact rows_l1 ns ws hn hw hc hcw ns.length k 0 (by omega) (by omega)
  | succ d ih =>
    intro k i hi hk
    obtain ⟨k, rfl⟩ : ∃ j, k = j + 1 := ⟨k - 1, by omega⟩
    have hil : i < ns.length := by omega
    have hiw : i < ws.length := by omega
    have hx := hn _ (List.getElem_mem hil)
    have hy := hw _ (List.getElem_mem hiw)
    rw [← rd_get hil] at hx
    rw [← rd_get hiw] at hy
    have hci := cat_len ns ws i
    have e1 : wrap64 ((i : Int) + 1) = ((i + 1 : Nat) : Int) := by rw [w64 (by omega) (by omega)]; omega
    have go := ih k (i + 1) (by omega) (by omega)
    have ht : Int.tmod (rd ws (i : Int)) 3 = rd ws (i : Int) % 3 := Int.tmod_eq_emod_of_nonneg hy.1
    have ht2 : Int.tmod (rd ns (i : Int)) 65536 = rd ns (i : Int) % 65536 := Int.tmod_eq_emod_of_nonneg hx.1
    have e2 : wrap64 (rd ns (i : Int)) = rd ns (i : Int) := w64 (by omega) (by omega)
    have e3 : wrap64 (-(rd ns (i : Int))) = -(rd ns (i : Int)) := w64 (by omega) (by omega)
    have e4 : wrap64 (rd ns (i : Int) % 65536) = rd ns (i : Int) % 65536 := w64 (by omega) (by omega)
    simp only [cashbooklaw3_LeRows.l0]
    rw [if_pos (Int.ofNat_lt.2 hil), if_pos (Int.natCast_nonneg i), if_pos (Int.ofNat_lt.2 hiw), ht, ht2, e4, e2, e3, e1]
    rw [cat] at go
    by_cases h0 : rd ws (i : Int) % 3 = 0
    · have hp : pc ns ws i = lb (rd ns (i : Int) % 65536) 2 := by unfold pc; rw [if_pos h0]
      rw [hp] at go
      rw [if_pos h0, Put16_eq (by omega) (by omega), if_pos ⟨by omega, by omega⟩, Option.bind_some, if_pos rfl]
      exact go
    · rw [if_neg h0]
      by_cases h1 : rd ws (i : Int) % 3 = 1
      · have hp : pc ns ws i = lb (rd ns (i : Int)) 4 := by unfold pc; rw [if_neg h0, if_pos h1]
        rw [hp] at go
        rw [if_pos h1, Put32_eq (by omega) (by omega), if_pos ⟨by omega, by omega⟩, Option.bind_some, if_pos rfl]
        exact go
      · rw [if_neg h1, if_pos (by omega)]
        have hp : pc ns ws i = lb (-(rd ns (i : Int))) 8 := by unfold pc; rw [if_neg h0, if_neg h1]
        rw [hp] at go
        rw [Put64_eq (by omega) _ (by omega), Option.bind_some]
        exact go
theorem LeRows : cashbooklaw3_LeRows.Pure := by
  intro ns ws hm hs hn0 hm1 hs1 hw0
  have hn : ∀ x ∈ ns, 0 ≤ x ∧ x ≤ 4294967295 := fun x h => wf_u32 (hn0 x h)
  have hw : ∀ x ∈ ws, 0 ≤ x ∧ x ≤ 255 := fun x h => wf_u8 (hw0 x h)
  obtain ⟨k0, hk0⟩ := PureLe.known_eq
  obtain ⟨K, hK0, hK1⟩ : ∃ K, k0 ≤ K ∧ 500 ≤ K := ⟨k0 + 500, by omega, by omega⟩
  refine ⟨K, ?_⟩
  unfold cashbooklaw3_LeRows.f
  rw [hk0 _ hK0, Option.bind_some, if_pos rfl]
  by_cases h1 : (ns.length : Int) > 60
  · rw [if_pos h1]
  · rw [if_neg h1]
    by_cases h2 : (ws.length : Int) < (ns.length : Int)
    · rw [if_pos h2]
    · rw [if_neg h2]
      exact rows_l0 ns ws hn hw (by omega) (by omega) ns.length K 0 (by omega) (by omega)
end Go.Proofs.Ytnbllonnfbejgaa.Pure
