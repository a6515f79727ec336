/- A number that two bytes hold, and only such a one, is set behind the bytes there, the lowest first; so with four, and with eight every number: for all bytes and numbers. -/
import Derived.Test.YtnbllonnfbejgaaLwFns
namespace Go.Proofs.Ytnbllonnfbejgaa.Pure
open Go.RowKit Go.Proofs.Ytnbllonnfbejgaa.Lw Go.Proofs.Ytnbllonnfbejgaa.PureLw Go.Proofs.YtnbllonnfbejgaaW.PrintWords Go.Proofs.YtnbllonnfbejgaaW.PrintLast Go.Proofs.YtnbllonnfbejgaaW.PrintMore

theorem cnt (i : Nat) (h : i < 8) : IntKind.u64.wrap (wrap64 (8 * (i : Int))) = wrap64 (8 * (i : Int)) := by
  rw [w64 (by omega) (by omega)]
  exact wraps_u64 _ (by omega) (by omega)
theorem low_l0 (x : Int) (b : List Int) (n : Nat) (h8 : n ≤ 8) (hb : (b.length : Int) + n < 140737488355328) : ∀ (d k i : Nat), n = i + d → d < k →
    cashbookref7_PutLow.l0 k x (n : Int) (b ++ lb x i) (i : Int) = some (b ++ lb x n) := by
  intro d
  induction d with
  | zero =>
    intro k i hi hk
    obtain ⟨k, rfl⟩ : ∃ j, k = j + 1 := ⟨k - 1, by omega⟩
    simp only [cashbookref7_PutLow.l0]
    rw [if_neg (by omega), show n = i by omega]
  | succ d ih =>
    intro k i hi hk
    obtain ⟨k, rfl⟩ : ∃ j, k = j + 1 := ⟨k - 1, by omega⟩
    have e1 : wrap64 ((i : Int) + 1) = ((i + 1 : Nat) : Int) := by rw [w64 (by omega) (by omega)]; omega
    simp only [cashbookref7_PutLow.l0]
    rw [cnt i (by omega)]
    rw [if_pos (by omega), if_pos (by rw [w64 (by omega) (by omega)]; omega), if_pos (by rw [List.length_append, lb_length]; omega), shr_byte (by omega), List.append_assoc, ← lb_snoc, e1]
    exact ih k (i + 1) (by omega) (by omega)
theorem PutLow_eq {k : Nat} (hk : 10 ≤ k) (x : Int) {b : List Int} (n : Nat) (h8 : n ≤ 8) (hb : (b.length : Int) + n < 140737488355328) : cashbookref7_PutLow.f k b x (n : Int) = some (b ++ lb x n) := by
  unfold cashbookref7_PutLow.f
  have ap : ([] : List Int).length + b.length < 140737488355328 := by
    rw [List.length_nil]
    omega
  rw [Option.bind_some, if_pos ap, List.nil_append]
  have := low_l0 x b n h8 hb n k 0 (by omega) (by omega)
  rw [lb, List.append_nil] at this
  exact this
theorem rdR_end (a : List Int) (x : Int) (n : Nat) : rdR (a ++ lb x n) (a.length : Int) (n : Int) = (x % 256 ^ n, a ++ lb x n, (a.length : Int) + n, 0) := by
  have hl := lb_length x n
  unfold rdR
  rw [if_neg (by simp only [List.length_append]; omega), if_neg (by simp only [List.length_append]; omega)]
  rw [show sl (a ++ lb x n) (a.length : Int) (n : Int) = lb x n from ?_, leV_lb]
  unfold sl
  rw [Int.toNat_natCast, Int.toNat_natCast, List.drop_left, List.take_of_length_le (by omega)]
theorem endR_end (a : List Int) (x : Int) (n : Nat) : endR (a ++ lb x n) ((a.length : Int) + n) = 0 := by
  have hl := lb_length x n
  unfold endR
  rw [if_neg (by simp only [List.length_append]; omega), if_neg (by simp only [List.length_append]; omega)]
theorem two {x : Int} (h0 : 0 ≤ x) (h1 : x ≤ 65535) : x % 256 ^ 2 = x := Int.emod_eq_of_lt h0 (by rw [show (256 : Int) ^ 2 = 65536 by decide]; omega)
theorem four {x : Int} (h0 : 0 ≤ x) (h1 : x ≤ 4294967295) : x % 256 ^ 4 = x := Int.emod_eq_of_lt h0 (by rw [show (256 : Int) ^ 4 = 4294967296 by decide]; omega)
theorem eight {x : Int} (h0 : -9223372036854775808 ≤ x) (h1 : x ≤ 9223372036854775807) : wrap64 (x % 256 ^ 8) = x := by
  rw [show (256 : Int) ^ 8 = 18446744073709551616 by decide]
  unfold wrap64
  omega
theorem app_len {b : List Int} (hb : b.length ≤ 200) (x : Int) (n : Nat) (h8 : n ≤ 8) : Len (b ++ lb x n) := by
  unfold Len
  rw [List.length_append, lb_length]
  omega
theorem w_j2 {b : List Int} (hb : b.length ≤ 200) (hB : Bts b) {x : Int} (h0 : -9223372036854775808 ≤ x) (h1 : x ≤ 9223372036854775807) (k : Nat) (hk : 20 ≤ k) :
    cashbooklaw3_LeWrites.j2 k b x (b ++ lb x 8) = some true := by
  obtain ⟨k, rfl⟩ : ∃ j, k = j + 1 + 1 := ⟨k - 2, by omega⟩
  have hI : I64 (b.length : Int) := by unfold I64; omega
  have hm := rdR_end b x 8
  have he := endR_end b x 8
  have hp := PutLow_eq (k := k + 1) (by omega) (IntKind.u64.wrap x) (b := b) 8 (by decide) (by omega)
  rw [u64_wrap, lb_emod] at hp
  rw [show ((8 : Nat) : Int) = 8 from rfl] at hm he hp
  simp only [cashbooklaw3_LeWrites.j2]
  rw [I64_eq (by omega) (app_len hb x 8 (by decide)) (hB.app (lb_bts x 8)) hI, hm, Option.bind_some, if_pos rfl, if_pos (eight h0 h1), End_eq, Option.bind_some, he, if_pos rfl, u64_wrap, hp, Option.bind_some, beq_self_eq_true]
theorem w_j1 {b : List Int} (hb : b.length ≤ 200) (hB : Bts b) {x2 x : Int} (h0 : -9223372036854775808 ≤ x) (h1 : x ≤ 9223372036854775807) (k : Nat) (hk : 30 ≤ k) :
    ∀ r : List Int × Int, r = (if 0 ≤ x2 ∧ x2 ≤ 4294967295 then (b ++ lb x2 4, 0) else (b, 1)) →
    cashbooklaw3_LeWrites.j1 k b x2 x r.1 r.2 (b ++ lb x 8) = some true := by
  intro r hr
  obtain ⟨k, rfl⟩ : ∃ j, k = j + 1 + 1 := ⟨k - 2, by omega⟩
  have hj := w_j2 hb hB h0 h1 (k + 1) (by omega)
  by_cases h : 0 ≤ x2 ∧ x2 ≤ 4294967295
  · rw [if_pos h] at hr
    subst hr
    have hI : I64 (b.length : Int) := by unfold I64; omega
    have hm := rdR_end b x2 4
    have he := endR_end b x2 4
    have hp := PutLow_eq (k := k + 1) (by omega) x2 (b := b) 4 (by decide) (by omega)
    rw [show ((4 : Nat) : Int) = 4 from rfl] at hm he hp
    have hu : IntKind.u64.wrap x2 = x2 := wraps_u64 x2 h.1 (by omega)
    simp only [cashbooklaw3_LeWrites.j1]
    rw [if_pos trivial, U32_eq (by omega) (app_len hb x2 4 (by decide)) (hB.app (lb_bts x2 4)) hI, hm, Option.bind_some, if_pos rfl, if_pos (four h.1 h.2), End_eq, Option.bind_some, he, if_pos rfl, hu, hp, Option.bind_some, if_pos rfl, hj]
  · rw [if_neg h] at hr
    subst hr
    simp only [cashbooklaw3_LeWrites.j1]
    rw [if_neg (by decide), if_pos trivial, if_pos trivial, hj]
theorem w_j0 {b : List Int} (hb : b.length ≤ 200) (hB : Bts b) {x1 x2 x : Int} (h0 : -9223372036854775808 ≤ x) (h1 : x ≤ 9223372036854775807) (k : Nat) (hk : 40 ≤ k) :
    ∀ s r : List Int × Int, s = (if 0 ≤ x1 ∧ x1 ≤ 65535 then (b ++ lb x1 2, 0) else (b, 1)) → r = (if 0 ≤ x2 ∧ x2 ≤ 4294967295 then (b ++ lb x2 4, 0) else (b, 1)) →
    cashbooklaw3_LeWrites.j0 k b x1 x2 x s.1 s.2 r.1 r.2 (b ++ lb x 8) false = some true := by
  intro s r hs hr
  obtain ⟨k, rfl⟩ : ∃ j, k = j + 1 + 1 := ⟨k - 2, by omega⟩
  have hj := w_j1 hb hB h0 h1 (k + 1) (by omega) r hr
  clear hr
  by_cases h : 0 ≤ x1 ∧ x1 ≤ 65535
  · rw [if_pos h] at hs
    subst hs
    have hI : I64 (b.length : Int) := by unfold I64; omega
    have hm := rdR_end b x1 2
    have he := endR_end b x1 2
    have hp := PutLow_eq (k := k + 1) (by omega) x1 (b := b) 2 (by decide) (by omega)
    rw [show ((2 : Nat) : Int) = 2 from rfl] at hm he hp
    have hu : IntKind.u64.wrap x1 = x1 := wraps_u64 x1 h.1 (by omega)
    simp only [cashbooklaw3_LeWrites.j0]
    rw [if_neg (by decide), if_pos trivial, U16_eq (by omega) (app_len hb x1 2 (by decide)) (hB.app (lb_bts x1 2)) hI, hm, Option.bind_some, if_pos rfl, if_pos (two h.1 h.2), End_eq, Option.bind_some, he, if_pos rfl, hu, hp, Option.bind_some, if_pos rfl, hj]
  · rw [if_neg h] at hs
    subst hs
    simp only [cashbooklaw3_LeWrites.j0]
    rw [if_neg (by decide), if_neg (by decide), if_pos trivial, if_pos trivial, hj]
theorem LeWrites : cashbooklaw3_LeWrites.Pure := by
  intro b a1 a2 a3 hm hs hw hn1 hn2 hn3
  have hB := bts_of_wf hw
  obtain ⟨h30, h31⟩ := wf_i64 hn3
  obtain ⟨k0, hk0⟩ := PureLw.known_eq
  obtain ⟨K, hK0, hK1⟩ : ∃ K, k0 ≤ K ∧ 200 ≤ K := ⟨k0 + 200, by omega, by omega⟩
  refine ⟨K, ?_⟩
  unfold cashbooklaw3_LeWrites.f
  rw [hk0 _ hK0, Option.bind_some, if_pos rfl]
  by_cases hl : (b.length : Int) > 200
  · rw [if_pos hl]
  rw [if_neg hl]
  obtain ⟨s, hs⟩ : ∃ s, s = (if 0 ≤ a1 ∧ a1 ≤ 65535 then (b ++ lb a1 2, (0 : Int)) else (b, 1)) := ⟨_, rfl⟩
  obtain ⟨r, hr⟩ : ∃ r, r = (if 0 ≤ a2 ∧ a2 ≤ 4294967295 then (b ++ lb a2 4, (0 : Int)) else (b, 1)) := ⟨_, rfl⟩
  have hj := w_j0 (by omega) hB h30 h31 K (by omega) s r hs hr
  rw [Put16_eq (by omega) (by omega), Option.bind_some, Put32_eq (by omega) (by omega), Option.bind_some, Put64_eq (by omega) _ (by omega), Option.bind_some, ← hs, ← hr]
  have s2 : s.2 = if 0 ≤ a1 ∧ a1 ≤ 65535 then 0 else 1 := by
    rw [hs]
    split <;> rfl
  have r2 : r.2 = if 0 ≤ a2 ∧ a2 ≤ 4294967295 then 0 else 1 := by
    rw [hr]
    split <;> rfl
  clear hs hr hm hw hn1 hn2 hn3 hB
  have tail : ∀ z : Option Bool, z = some true → ∀ y : Option Bool,
      (if a2 ≥ 0 then (if r.2 = 0 then (if a2 < 4294967296 then z else y) else (if a2 < 4294967296 then y else z)) else (if r.2 = 0 then y else z)) = some true := by
    intro z hz y
    split <;> split <;> try split
    all_goals first | exact hz | skip
    all_goals
      exfalso
      split at r2 <;> omega
  rw [tail _ hj]
  split <;> split <;> try split
  all_goals first | rfl | skip
  all_goals
    exfalso
    split at s2 <;> omega
end Go.Proofs.Ytnbllonnfbejgaa.Pure
