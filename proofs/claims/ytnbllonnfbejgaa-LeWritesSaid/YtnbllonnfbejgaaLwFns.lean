/- What the printed functions of le compute (group Lw). -/
import Derived.Test.YtnbllonnfbejgaaLwx
import Derived.Test.YtnbllonnfbejgaaLeBase
namespace Go.Proofs.Ytnbllonnfbejgaa.PureLw
open Go.RowKit Go.Proofs.Ytnbllonnfbejgaa.Lw Go.Proofs.Ytnbllonnfbejgaa.Pure Go.Proofs.YtnbllonnfbejgaaW.PrintWords Go.Proofs.YtnbllonnfbejgaaW.PrintLast Go.Proofs.YtnbllonnfbejgaaW.PrintMore

def I64 (n : Int) : Prop := -9223372036854775808 ≤ n ∧ n ≤ 9223372036854775807
/-- A length that no sum leads out of its kind. -/
def Len (b : List Int) : Prop := (b.length : Int) < 140737488355328

theorem take_eq (k : Nat) {b : List Int} {p n : Int} (hb : Len b) (hp : I64 p) (hn : I64 n) : le_take.f (k + 1) b p n = some (rdB b p n) := by
  unfold Len at hb
  unfold I64 at hp hn
  unfold le_take.f rdB
  by_cases h0 : p < 0
  · rw [if_pos h0, if_pos (.inl h0)]
    simp only [le_take.j0]
    rw [if_pos trivial]
  · rw [if_neg h0]
    by_cases h1 : p > (b.length : Int)
    · rw [if_pos h1, if_pos (.inr (.inl h1))]
      simp only [le_take.j0]
      rw [if_pos trivial]
    · rw [if_neg h1]
      simp only [le_take.j0]
      by_cases h2 : n < 0
      · rw [if_pos (decide_eq_true h2), if_pos (.inr (.inr h2))]
      · rw [if_neg (by simpa using h2), if_neg (show ¬ (p < 0 ∨ (b.length : Int) < p ∨ n < 0) by omega), show wrap64 ((b.length : Int) - p) = (b.length : Int) - p from w64 (by omega) (by omega)]
        by_cases h3 : n > (b.length : Int) - p
        · rw [if_pos h3, if_pos h3]
        · rw [if_neg h3, if_neg h3, show wrap64 (p + n) = p + n from w64 (by omega) (by omega), if_pos (by omega), if_pos (by omega), if_pos (by omega), take_drop_sl (by omega) (by omega)]

theorem number_l0 (e : Int) (l b : List Int) (p : Int) (hl : Bts l) (h8 : l.length ≤ 8) : ∀ (d k i : Nat), l.length = i + d → d < k →
    le_number.l0 k e (leV (l.take i)) l (l.length : Int) (i : Int) b p = some (leV l, b, p, e) := by
  intro d
  induction d with
  | zero =>
    intro k i hi hk
    obtain ⟨k, rfl⟩ : ∃ j, k = j + 1 := ⟨k - 1, by omega⟩
    simp only [le_number.l0]
    rw [if_neg (by omega), List.take_of_length_le (by omega)]
  | succ d ih =>
    intro k i hi hk
    obtain ⟨k, rfl⟩ : ∃ j, k = j + 1 := ⟨k - 1, by omega⟩
    have hlt : i < l.length := by omega
    have hx := hl l[i] (List.getElem_mem hlt)
    have hb := leV_bound (hl.take i)
    rw [List.length_take, Nat.min_eq_left (by omega)] at hb
    simp only [le_number.l0]
    rw [if_pos (by omega), if_pos (by omega), if_pos (by omega), if_pos (by rw [w64 (by omega) (by omega)]; omega), rd_get hlt, or_byte (by omega) hb.1 hb.2 hx.1 hx.2, ← leV_take_succ hlt, w64 (by omega) (by omega)]
    have := ih k (i + 1) (by omega) (by omega)
    simpa using this

theorem number_eq {k : Nat} (hk : 10 ≤ k) {b : List Int} {p n : Int} (hb : Len b) (hB : Bts b) (hp : I64 p) (h0 : 0 ≤ n) (h8 : n ≤ 8) : le_number.f k b p n = some (rdR b p n) := by
  obtain ⟨k, rfl⟩ : ∃ j, k = j + 1 := ⟨k - 1, by omega⟩
  unfold le_number.f
  rw [take_eq k hb hp ⟨by omega, by omega⟩]
  simp only [Option.bind_some]
  unfold rdB rdR
  unfold Len at hb
  by_cases h1 : p < 0 ∨ (b.length : Int) < p
  · rw [if_pos (by omega), if_pos h1]
    exact number_l0 1 [] b p Bts.nil (by simp) 0 (k + 1) 0 rfl (by omega)
  · rw [if_neg (by omega), if_neg h1]
    by_cases h2 : (b.length : Int) - p < n
    · rw [if_pos h2, if_pos h2]
      exact number_l0 5 [] b p Bts.nil (by simp) 0 (k + 1) 0 rfl (by omega)
    · rw [if_neg h2, if_neg h2]
      have hl : (sl b p n).length = n.toNat := sl_length (by omega) h0 (by omega)
      exact number_l0 0 (sl b p n) b (p + n) (hB.sl p n) (by omega) n.toNat (k + 1) 0 (by omega) (by omega)

theorem rdR_bound {b : List Int} {p n : Int} (hB : Bts b) (hp : 0 ≤ n) : 0 ≤ (rdR b p n).1 ∧ (rdR b p n).1 < 256 ^ n.toNat := by
  unfold rdR
  have hpos := p256 n.toNat
  split
  · exact ⟨Int.le_refl _, hpos⟩
  · split
    · exact ⟨Int.le_refl _, hpos⟩
    · rename_i h1 h2
      have := leV_bound (hB.sl p n)
      rw [sl_length (by omega) hp (by omega)] at this
      exact this
theorem U8_eq {k : Nat} (hk : 10 ≤ k) {b : List Int} {p : Int} (hb : Len b) (hB : Bts b) (hp : I64 p) : le_U8.f k b p = some (rdR b p 1) := by
  unfold le_U8.f
  rw [number_eq hk hb hB hp (by decide) (by decide)]
  have := rdR_bound (p := p) hB (show (0 : Int) ≤ 1 by decide)
  rw [show (256 : Int) ^ Int.toNat 1 = 256 by decide] at this
  simp only [Option.bind_some]
  rw [w64 (by omega) (by omega)]
theorem U16_eq {k : Nat} (hk : 10 ≤ k) {b : List Int} {p : Int} (hb : Len b) (hB : Bts b) (hp : I64 p) : le_U16.f k b p = some (rdR b p 2) := by
  unfold le_U16.f
  rw [number_eq hk hb hB hp (by decide) (by decide)]
  have := rdR_bound (p := p) hB (show (0 : Int) ≤ 2 by decide)
  rw [show (256 : Int) ^ Int.toNat 2 = 65536 by decide] at this
  simp only [Option.bind_some]
  rw [w64 (by omega) (by omega)]
theorem U32_eq {k : Nat} (hk : 10 ≤ k) {b : List Int} {p : Int} (hb : Len b) (hB : Bts b) (hp : I64 p) : le_U32.f k b p = some (rdR b p 4) := by
  unfold le_U32.f
  rw [number_eq hk hb hB hp (by decide) (by decide)]
  have := rdR_bound (p := p) hB (show (0 : Int) ≤ 4 by decide)
  rw [show (256 : Int) ^ Int.toNat 4 = 4294967296 by decide] at this
  simp only [Option.bind_some]
  rw [w64 (by omega) (by omega)]
theorem I64_eq {k : Nat} (hk : 10 ≤ k) {b : List Int} {p : Int} (hb : Len b) (hB : Bts b) (hp : I64 p) :
    le_I64.f k b p = some (wrap64 (rdR b p 8).1, (rdR b p 8).2.1, (rdR b p 8).2.2.1, (rdR b p 8).2.2.2) := by
  unfold le_I64.f
  rw [number_eq hk hb hB hp (by decide) (by decide)]
  simp only [Option.bind_some]
theorem clone_eq {b : List Int} (hb : Len b) : slices_Clone_byte_byte.f b = some b := by
  unfold slices_Clone_byte_byte.f
  unfold Len at hb
  simp only [Option.bind_some, List.nil_append, List.length_nil]
  rw [if_pos (by omega)]
theorem rdB_len {b : List Int} {p n : Int} (hb : Len b) : Len (rdB b p n).1 := by
  unfold Len at *
  unfold rdB
  split
  · simp
  · split
    · simp
    · simp only [sl, List.length_take, List.length_drop]
      omega
theorem Bytes_eq (k : Nat) {b : List Int} {p n : Int} (hb : Len b) (hp : I64 p) (hn : I64 n) : le_Bytes.f (k + 1) b p n = some (rdB b p n) := by
  unfold le_Bytes.f
  rw [take_eq k hb hp hn]
  simp only [Option.bind_some]
  rw [clone_eq (rdB_len hb)]
  simp only [Option.bind_some]
theorem End_eq (k : Nat) (b : List Int) (p : Int) : le_End.f (k + 1) b p = some (endR b p) := by
  unfold le_End.f endR
  by_cases h0 : p < 0
  · rw [if_pos h0, if_pos (.inl h0)]
    simp only [le_End.j0]
    rw [if_pos trivial]
  · rw [if_neg h0]
    simp only [le_End.j0]
    by_cases h1 : p > (b.length : Int)
    · rw [if_pos (decide_eq_true h1), if_pos (.inr h1)]
    · rw [if_neg (by simpa using h1), if_neg (show ¬ (p < 0 ∨ (b.length : Int) < p) by omega)]
      by_cases h2 : p < (b.length : Int)
      · rw [if_pos h2, if_pos h2]
      · rw [if_neg h2, if_neg h2]

theorem put_l0 (x : Int) (b : List Int) (n : Nat) (h8 : n ≤ 8) (hb : (b.length : Int) + n < 140737488355328) : ∀ (d k i : Nat), n = i + d → d < k →
    le_put.l0 k (b ++ lb x i) x (n : Int) (i : Int) = some (b ++ lb x n) := by
  intro d
  induction d with
  | zero =>
    intro k i hi hk
    obtain ⟨k, rfl⟩ : ∃ j, k = j + 1 := ⟨k - 1, by omega⟩
    simp only [le_put.l0]
    rw [if_neg (by omega), show n = i by omega]
  | succ d ih =>
    intro k i hi hk
    obtain ⟨k, rfl⟩ : ∃ j, k = j + 1 := ⟨k - 1, by omega⟩
    simp only [le_put.l0]
    rw [if_pos (by omega), if_pos (by rw [w64 (by omega) (by omega)]; omega), if_pos (by rw [List.length_append, lb_length]; omega), shr_byte (by omega), List.append_assoc, ← lb_snoc, w64 (by omega) (by omega)]
    have := ih k (i + 1) (by omega) (by omega)
    simpa using this
theorem put_eq {k : Nat} (hk : 10 ≤ k) (x : Int) {b : List Int} (n : Nat) (h8 : n ≤ 8) (hb : (b.length : Int) + n < 140737488355328) : le_put.f k b x (n : Int) = some (b ++ lb x n) := by
  unfold le_put.f
  rw [clone_eq (show Len b by unfold Len; omega)]
  simp only [Option.bind_some]
  have := put_l0 x b n h8 hb n k 0 (by omega) (by omega)
  simpa [lb] using this
theorem u64_wrap (n : Int) : IntKind.u64.wrap n = n % 18446744073709551616 := by simp [IntKind.wrap, IntKind.bits, IntKind.signed]
theorem Put16_eq {k : Nat} (hk : 11 ≤ k) {b : List Int} {n : Int} (hb : (b.length : Int) + 2 < 140737488355328) :
    le_Put16.f k b n = some (if 0 ≤ n ∧ n ≤ 65535 then (b ++ lb n 2, 0) else (b, 1)) := by
  obtain ⟨k, rfl⟩ : ∃ j, k = j + 1 := ⟨k - 1, by omega⟩
  have hL : Len b := by unfold Len; omega
  unfold le_Put16.f
  by_cases h0 : n < 0
  · rw [if_pos h0, if_neg (by omega)]
    simp only [le_Put16.j0]
    rw [if_pos trivial, clone_eq hL]
    rfl
  · rw [if_neg h0]
    simp only [le_Put16.j0]
    by_cases h1 : n > 65535
    · rw [if_pos (decide_eq_true h1), if_neg (by omega), clone_eq hL]
      rfl
    · rw [if_neg (by simpa using h1), if_pos ⟨by omega, by omega⟩, u64_wrap, show n % 18446744073709551616 = n by omega]
      have := put_eq (k := k) (by omega) n (b := b) 2 (by decide) (by omega)
      rw [show ((2 : Nat) : Int) = 2 from rfl] at this
      rw [this]
      rfl
theorem Put32_eq {k : Nat} (hk : 11 ≤ k) {b : List Int} {n : Int} (hb : (b.length : Int) + 4 < 140737488355328) :
    le_Put32.f k b n = some (if 0 ≤ n ∧ n ≤ 4294967295 then (b ++ lb n 4, 0) else (b, 1)) := by
  obtain ⟨k, rfl⟩ : ∃ j, k = j + 1 := ⟨k - 1, by omega⟩
  have hL : Len b := by unfold Len; omega
  unfold le_Put32.f
  by_cases h0 : n < 0
  · rw [if_pos h0, if_neg (by omega)]
    simp only [le_Put32.j0]
    rw [if_pos trivial, clone_eq hL]
    rfl
  · rw [if_neg h0]
    simp only [le_Put32.j0]
    by_cases h1 : n > 4294967295
    · rw [if_pos (decide_eq_true h1), if_neg (by omega), clone_eq hL]
      rfl
    · rw [if_neg (by simpa using h1), if_pos ⟨by omega, by omega⟩, u64_wrap, show n % 18446744073709551616 = n by omega]
      have := put_eq (k := k) (by omega) n (b := b) 4 (by decide) (by omega)
      rw [show ((4 : Nat) : Int) = 4 from rfl] at this
      rw [this]
      rfl
theorem lb_emod (n : Int) : lb (n % 18446744073709551616) 8 = lb n 8 := by
  simp only [lb, List.cons.injEq, and_true]
  omega
theorem Put64_eq {k : Nat} (hk : 11 ≤ k) {b : List Int} (n : Int) (hb : (b.length : Int) + 8 < 140737488355328) : le_Put64.f k b n = some (b ++ lb n 8) := by
  unfold le_Put64.f
  have := put_eq (k := k) (by omega) (IntKind.u64.wrap n) (b := b) 8 (by decide) (by omega)
  rw [show ((8 : Nat) : Int) = 8 from rfl] at this
  rw [this, u64_wrap, lb_emod]
  rfl
theorem known_eq : ∃ k0, ∀ k, k0 ≤ k → cashbooklaw3_known.f k = some true := by
  refine ⟨20, fun k hk => ?_⟩
  have h10 : 10 ≤ k := by omega
  have h11 : 11 ≤ k := by omega
  obtain ⟨k, rfl⟩ : ∃ j, k = j + 1 := ⟨k - 1, by omega⟩
  have hB : Bts [1, 2, 3, 4, 255, 255, 255, 255, 255, 255, 255, 255] := by
    intro x hx
    simp at hx
    omega
  have hL : Len [1, 2, 3, 4, 255, 255, 255, 255, 255, 255, 255, 255] := by unfold Len; simp
  unfold cashbooklaw3_known.f
  simp only [Option.bind_some]
  rw [U8_eq h10 hL hB (by unfold I64; omega)]
  simp only [Option.bind_some]
  rw [show rdR [1, 2, 3, 4, 255, 255, 255, 255, 255, 255, 255, 255] 0 1 = (1, [1, 2, 3, 4, 255, 255, 255, 255, 255, 255, 255, 255], 1, 0) by decide]
  dsimp only
  rw [U16_eq h10 hL hB (by unfold I64; omega), U32_eq h10 hL hB (by unfold I64; omega), I64_eq h10 hL hB (by unfold I64; omega)]
  rw [show rdR [1, 2, 3, 4, 255, 255, 255, 255, 255, 255, 255, 255] 1 2 = (770, [1, 2, 3, 4, 255, 255, 255, 255, 255, 255, 255, 255], 3, 0) by decide,
    show rdR [1, 2, 3, 4, 255, 255, 255, 255, 255, 255, 255, 255] 0 4 = (67305985, [1, 2, 3, 4, 255, 255, 255, 255, 255, 255, 255, 255], 4, 0) by decide,
    show rdR [1, 2, 3, 4, 255, 255, 255, 255, 255, 255, 255, 255] 4 8 = (18446744073709551615, [1, 2, 3, 4, 255, 255, 255, 255, 255, 255, 255, 255], 12, 0) by decide +kernel]
  simp only [Option.bind_some]
  rw [U32_eq h10 hL hB (by unfold I64; omega), Bytes_eq k hL (by unfold I64; omega) (by unfold I64; omega), Put16_eq h11 (by simp), Put32_eq h11 (by simp), U8_eq h10 (by unfold Len; simp) Bts.nil (by unfold I64; omega)]
  simp only [Option.bind_some, End_eq, Put64_eq (k := k + 1) h11 (b := []) (-1) (by simp)]
  decide +kernel
end Go.Proofs.Ytnbllonnfbejgaa.PureLw
