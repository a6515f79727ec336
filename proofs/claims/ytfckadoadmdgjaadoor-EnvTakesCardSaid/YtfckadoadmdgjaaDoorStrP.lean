/- What the functions that EnvTakes reaches compute: a part. -/
import Derived.Test.YtfckadoadmdgjaaDoorCb0
import Derived.Lib.ValidLaws
import Derived.Lib.MapLaws
import Derived.Lib.TrimUEq
set_option linter.all false
namespace Go.Pv.Cb
set_option linter.unusedSimpArgs false
open Go.Pv Go.Lib
def okR (v : Nat) : Prop := v < 55296 ∨ (57344 ≤ v ∧ v ≤ 1114111)
def enc1 (v : Nat) : List UInt8 :=
  if v < 128 then [UInt8.ofNat v]
  else if v < 2048 then [UInt8.ofNat (192 + v / 64), UInt8.ofNat (128 + v % 64)]
  else if v < 65536 then [UInt8.ofNat (224 + v / 4096), UInt8.ofNat (128 + v / 64 % 64), UInt8.ofNat (128 + v % 64)]
  else [UInt8.ofNat (240 + v / 262144), UInt8.ofNat (128 + v / 4096 % 64), UInt8.ofNat (128 + v / 64 % 64), UInt8.ofNat (128 + v % 64)]
def encs (l : List Nat) : List UInt8 := l.flatMap enc1
def goodR (l : List Nat) : Prop := ∀ v ∈ l, okR v
theorem goodR_cons {v : Nat} {l : List Nat} (hv : okR v) (hl : goodR l) : goodR (v :: l) := by
  intro w hw
  rcases List.mem_cons.1 hw with rfl | q
  · exact hv
  · exact hl w q
theorem goodR_nil : goodR [] := by intro w hw; simp at hw
theorem encs_cons (v : Nat) (l : List Nat) : encs (v :: l) = enc1 v ++ encs l := by simp [encs]
theorem encs_app (a b : List Nat) : encs (a ++ b) = encs a ++ encs b := by simp [encs]
theorem toNat_of {n : Nat} (h : n < 256) : (UInt8.ofNat n).toNat = n := by
  rw [UInt8.toNat_ofNat']; omega
theorem enc1_len (v : Nat) : 1 ≤ (enc1 v).length ∧ (enc1 v).length ≤ 4 := by
  unfold enc1
  split
  · simp
  split
  · simp
  split
  · simp
  · simp
theorem enc1_ne (v : Nat) : enc1 v ≠ [] := fun h => by have := enc1_len v; rw [h] at this; simp at this
theorem dec_enc {v : Nat} (h : okR v) (t : List UInt8) : decodeL (enc1 v ++ t) = (v, (enc1 v).length) := by
  unfold okR at h
  rw [decodeL_N]
  by_cases h1 : v < 128
  · rw [enc1, if_pos h1]
    simp only [List.cons_append, List.nil_append, List.getD_cons_zero, List.length_cons, List.length_nil]
    rw [toNat_of (by omega), decodeN, if_pos h1]
  by_cases h2 : v < 2048
  · rw [enc1, if_neg h1, if_pos h2]
    simp only [List.cons_append, List.nil_append, List.getD_cons_zero, List.getD_cons_succ, List.length_cons, List.length_nil]
    rw [toNat_of (by omega), toNat_of (by omega), decodeN, if_neg (by omega), if_pos (by omega), if_pos (by omega)]
    exact Prod.ext (by simp only; omega) rfl
  by_cases h3 : v < 65536
  · rw [enc1, if_neg h1, if_neg h2, if_pos h3]
    simp only [List.cons_append, List.nil_append, List.getD_cons_zero, List.getD_cons_succ, List.length_cons, List.length_nil]
    rw [toNat_of (by omega), toNat_of (by omega), toNat_of (by omega), decodeN, if_neg (by omega), if_neg (by omega), if_pos (by omega), if_pos (by omega)]
    exact Prod.ext (by simp only; omega) rfl
  · rw [enc1, if_neg h1, if_neg h2, if_neg h3]
    simp only [List.cons_append, List.nil_append, List.getD_cons_zero, List.getD_cons_succ, List.length_cons, List.length_nil]
    rw [toNat_of (by omega), toNat_of (by omega), toNat_of (by omega), toNat_of (by omega), decodeN, if_neg (by omega), if_neg (by omega), if_neg (by omega), if_pos (by omega), if_pos (by omega)]
    exact Prod.ext (by simp only; omega) rfl
theorem bad_shape {n b0 b1 b2 b3 : Nat} (h : decodeN n b0 b1 b2 b3 = (65533, 1)) :
    128 ≤ b0 ∧ ¬ (b0 / 32 = 6 ∧ 1 < n ∧ b1 / 64 = 2 ∧ 128 ≤ b0 % 32 * 64 + b1 % 64) ∧
    ¬ (b0 / 16 = 14 ∧ 2 < n ∧ b1 / 64 = 2 ∧ b2 / 64 = 2 ∧ 2048 ≤ b0 % 16 * 4096 + b1 % 64 * 64 + b2 % 64 ∧ (b0 % 16 * 4096 + b1 % 64 * 64 + b2 % 64 < 55296 ∨ 57344 ≤ b0 % 16 * 4096 + b1 % 64 * 64 + b2 % 64)) ∧
    ¬ (b0 / 8 = 30 ∧ 3 < n ∧ b1 / 64 = 2 ∧ b2 / 64 = 2 ∧ b3 / 64 = 2 ∧ 65536 ≤ b0 % 8 * 262144 + b1 % 64 * 4096 + b2 % 64 * 64 + b3 % 64 ∧ b0 % 8 * 262144 + b1 % 64 * 4096 + b2 % 64 * 64 + b3 % 64 ≤ 1114111) := by
  refine ⟨?_, ?_, ?_, ?_⟩
  · rcases Nat.lt_or_ge b0 128 with q | q
    · rw [decodeN, if_pos q] at h
      have := congrArg Prod.fst h; simp only at this; omega
    · exact q
  · rintro ⟨a, b, c, d⟩
    rw [decodeN, if_neg (by omega), if_pos (by omega), if_pos (by omega)] at h
    have := congrArg Prod.snd h; simp only at this; omega
  · rintro ⟨a, b, c, d, e, f⟩
    rw [decodeN, if_neg (by omega), if_neg (by omega), if_pos (by omega), if_pos (by omega)] at h
    have := congrArg Prod.snd h; simp only at this; omega
  · rintro ⟨a, b, c, d, e, f, g⟩
    rw [decodeN, if_neg (by omega), if_neg (by omega), if_neg (by omega), if_pos (by omega), if_pos (by omega)] at h
    have := congrArg Prod.snd h; simp only at this; omega
theorem u8_of {b : UInt8} {n : Nat} (h : b.toNat = n) : UInt8.ofNat n = b := by
  subst h; exact UInt8.ofNat_toNat
theorem lst1 {l : List UInt8} (h : l ≠ []) : l = l.getD 0 0 :: l.drop 1 := by
  cases l with
  | nil => exact absurd rfl h
  | cons a l => rfl
theorem lst2 {l : List UInt8} (h : 1 < l.length) : l = l.getD 0 0 :: l.getD 1 0 :: l.drop 2 := by
  match l, h with
  | a :: b :: l, _ => rfl
theorem lst3 {l : List UInt8} (h : 2 < l.length) : l = l.getD 0 0 :: l.getD 1 0 :: l.getD 2 0 :: l.drop 3 := by
  match l, h with
  | a :: b :: c :: l, _ => rfl
theorem lst4 {l : List UInt8} (h : 3 < l.length) : l = l.getD 0 0 :: l.getD 1 0 :: l.getD 2 0 :: l.getD 3 0 :: l.drop 4 := by
  match l, h with
  | a :: b :: c :: d :: l, _ => rfl
theorem rune_cases (s : List UInt8) (hne : s ≠ []) : (∃ v t, okR v ∧ s = enc1 v ++ t) ∨ decodeL s = (65533, 1) := by
  have hp : 0 < s.length := List.length_pos_iff.2 hne
  have g0 := (s.getD 0 0).toNat_lt
  have g1 := (s.getD 1 0).toNat_lt
  have g2 := (s.getD 2 0).toNat_lt
  have g3 := (s.getD 3 0).toNat_lt
  rw [decodeL_N]
  rcases decodeN_shape s.length (s.getD 0 0).toNat (s.getD 1 0).toNat (s.getD 2 0).toNat (s.getD 3 0).toNat with ⟨h, _⟩ | ⟨h, hn, h1, hv, _⟩ | ⟨h, hn, h1, h2, hv, hw, _⟩ | ⟨h, hn, h1, h2, h3, hv, hw, _⟩ | h
  · refine .inl ⟨(s.getD 0 0).toNat, s.drop 1, .inl (by omega), ?_⟩
    rw [enc1, if_pos h, UInt8.ofNat_toNat]
    exact lst1 hne
  · refine .inl ⟨_, s.drop 2, .inl (a := (s.getD 0 0).toNat % 32 * 64 + (s.getD 1 0).toNat % 64 < 55296) (by omega), ?_⟩
    rw [enc1, if_neg (by omega), if_pos (by omega), u8_of (b := s.getD 0 0) (by omega), u8_of (b := s.getD 1 0) (by omega)]
    exact lst2 hn
  · refine .inl ⟨(s.getD 0 0).toNat % 16 * 4096 + (s.getD 1 0).toNat % 64 * 64 + (s.getD 2 0).toNat % 64, s.drop 3, (by unfold okR; omega), ?_⟩
    rw [enc1, if_neg (by omega), if_neg (by omega), if_pos (by omega), u8_of (b := s.getD 0 0) (by omega), u8_of (b := s.getD 1 0) (by omega), u8_of (b := s.getD 2 0) (by omega)]
    exact lst3 hn
  · refine .inl ⟨(s.getD 0 0).toNat % 8 * 262144 + (s.getD 1 0).toNat % 64 * 4096 + (s.getD 2 0).toNat % 64 * 64 + (s.getD 3 0).toNat % 64, s.drop 4, (by unfold okR; omega), ?_⟩
    rw [enc1, if_neg (by omega), if_neg (by omega), if_neg (by omega), u8_of (b := s.getD 0 0) (by omega), u8_of (b := s.getD 1 0) (by omega), u8_of (b := s.getD 2 0) (by omega), u8_of (b := s.getD 3 0) (by omega)]
    exact lst4 hn
  · exact .inr h
theorem valid_enc {v : Nat} (h : okR v) (t : List UInt8) : validD (enc1 v ++ t) = validD t := by
  rw [validD_step _ (by simp [enc1_ne]), dec_enc h, if_neg, List.drop_left]
  rintro ⟨q, r⟩
  simp only at q r
  subst q
  exact absurd r (by decide)
theorem valid_encs : ∀ {l : List Nat}, goodR l → ∀ t, validD (encs l ++ t) = validD t
  | [], _, t => rfl
  | v :: l, h, t => by
    rw [encs_cons, List.append_assoc, valid_enc (h v (by simp)), valid_encs (fun w hw => h w (by simp [hw]))]
theorem runes_cases : ∀ (n : Nat) (s : List UInt8), s.length ≤ n → (∃ l, goodR l ∧ s = encs l) ∨ (∃ l t, goodR l ∧ s = encs l ++ t ∧ t ≠ [] ∧ decodeL t = (65533, 1))
  | 0, s, h => .inl ⟨[], goodR_nil, List.eq_nil_of_length_eq_zero (by omega)⟩
  | n + 1, s, h => by
    by_cases hne : s = []
    · exact .inl ⟨[], goodR_nil, hne⟩
    rcases rune_cases s hne with ⟨v, t, hv, rfl⟩ | hb
    · have := enc1_len v
      rcases runes_cases n t (by rw [List.length_append] at h; omega) with ⟨l, hl, rfl⟩ | ⟨l, u, hl, rfl, hu, hd⟩
      · exact .inl ⟨v :: l, goodR_cons hv hl, (encs_cons ..).symm⟩
      · exact .inr ⟨v :: l, u, goodR_cons hv hl, by rw [encs_cons, List.append_assoc], hu, hd⟩
    · exact .inr ⟨[], s, goodR_nil, rfl, hne, hb⟩
theorem valid_good {l : List Nat} (h : goodR l) : validD (encs l) = true := by
  have := valid_encs h []
  rw [List.append_nil] at this
  rw [this]; rfl
theorem valid_bad {l : List Nat} {t : List UInt8} (h : goodR l) (hne : t ≠ []) (hd : decodeL t = (65533, 1)) : validD (encs l ++ t) = false := by
  rw [valid_encs h, validD_step _ hne, hd]; simp
theorem valid_cases (s : List UInt8) : (∃ l, goodR l ∧ s = encs l ∧ validD s = true) ∨ (validD s = false ∧ ∃ l t, goodR l ∧ s = encs l ++ t ∧ t ≠ [] ∧ decodeL t = (65533, 1)) := by
  rcases runes_cases s.length s (Nat.le_refl _) with ⟨l, hl, rfl⟩ | ⟨l, t, hl, rfl, hne, hd⟩
  · exact .inl ⟨l, hl, rfl, valid_good hl⟩
  · exact .inr ⟨valid_bad hl hne hd, l, t, hl, rfl, hne, hd⟩
theorem dec_at {l : List Nat} {v : Nat} {p t : List UInt8} (hv : okR v) : Utf8.decode ⟨(p ++ (enc1 v ++ t)).toArray⟩ p.length = (v, (enc1 v).length) := by
  rw [← decodeL_drop]
  show decodeL (List.drop p.length (p ++ (enc1 v ++ t))) = _
  rw [List.drop_left, dec_enc hv]
def u16 (v : Nat) : List Int := if v < 65536 then [(v : Int)] else [55296 + ((v : Int) - 65536) / 1024, 56320 + ((v : Int) - 65536) % 1024]
def units (l : List Nat) : List Int := l.flatMap u16
theorem units_cons (v : Nat) (l : List Nat) : units (v :: l) = u16 v ++ units l := by simp [units]
theorem units_app (a b : List Nat) : units (a ++ b) = units a ++ units b := by simp [units]
theorem units_len_le : ∀ l : List Nat, (units l).length ≤ 2 * l.length
  | [] => by simp [units]
  | v :: l => by
    rw [units_cons, List.length_append, List.length_cons]
    have := units_len_le l
    have : (u16 v).length ≤ 2 := by unfold u16; split <;> simp
    omega
theorem encs_len_ge : ∀ l : List Nat, l.length ≤ (encs l).length
  | [] => by simp
  | v :: l => by
    rw [encs_cons, List.length_append, List.length_cons]
    have := encs_len_ge l
    have := enc1_len v
    omega
end Go.Pv.Cb
