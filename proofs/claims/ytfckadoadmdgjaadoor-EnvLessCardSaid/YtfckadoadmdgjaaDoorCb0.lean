/- What the functions that EnvLess reaches compute: a part. -/
import Derived.Test.YtfckadoadmdgjaaDoorPvd
set_option linter.all false
namespace Go.Pv.W
set_option linter.unusedSimpArgs false
abbrev D (d : Nat) (o : IOp) : IOper := ⟨some d, o, none⟩
abbrev N (o : IOp) : IOper := ⟨none, o, none⟩
abbrev M (d i : Nat) : IOper := ⟨some d, .mov (.t i), none⟩
abbrev G (d t : Nat) (b : Bool) (o : IOp) : IOper := ⟨some d, o, some (t, b)⟩
abbrev I (n : Int) : Od := .c (.w (.p (.int .i64 n)))
abbrev P (v : PV) : Od := .c (.w (.p v))
abbrev T : Od := .c (.w (.p (.bool true)))
abbrev F : Od := .c (.w (.p (.bool false)))
abbrev dn (n : Nat) : List Nat := (List.range n).reverse
end Go.Pv.W
namespace Go.Pv.Cb
open Go.Pv
theorem drop_get {α : Type} {l : List α} {i : Nat} {x : α} (h : l[i]? = some x) : l.drop i = x :: l.drop (i + 1) := by
  obtain ⟨h1, rfl⟩ := List.getElem?_eq_some_iff.1 h
  exact List.drop_eq_getElem_cons h1
theorem or_256 (a b : Nat) (ha : a < 256) : a ||| b * 256 = a + 256 * b := by
  have h1 := Nat.two_pow_add_eq_or_of_lt (i := 8) (b := a) (by omega) b
  have h2 : (2 : Nat) ^ 8 = 256 := rfl
  rw [h2] at h1
  rw [Nat.or_comm, Nat.mul_comm b 256, ← h1]
  omega
theorem or_bv (a b : Nat) (ha : a < 256) (hb : b < 256) : (BitVec.ofInt 64 (a : Int) ||| BitVec.ofInt 64 ((b : Int) * 256)).toNat = a + 256 * b := by
  have e1 : ((b : Int) * 256) = ((b * 256 : Nat) : Int) := by omega
  rw [e1, BitVec.ofInt_natCast, BitVec.ofInt_natCast, BitVec.toNat_or, BitVec.toNat_ofNat, BitVec.toNat_ofNat, Nat.mod_eq_of_lt (by omega), Nat.mod_eq_of_lt (by omega), or_256 a b ha]
theorem bin_or8 (a b : Nat) (ha : a < 256) (hb : b < 256) : binInt .or .i64 (a : Int) ((b : Int) * 256) = some (.int .i64 ((a : Int) + 256 * (b : Int))) := by
  have h := or_bv a b ha hb
  show some (PV.int IntKind.i64 (IntKind.i64.wrap ((BitVec.ofInt 64 (a : Int) ||| BitVec.ofInt 64 ((b : Int) * 256)).toNat : Nat))) = _
  rw [h, wrap_i64 (by omega)]
  simp
theorem u8_lt (a : UInt8) : a.toNat < 256 := UInt8.toNat_lt a
def zerosB (n : Nat) : List UInt8 := List.replicate n 0
theorem zerosB_length (n : Nat) : (zerosB n).length = n := by simp [zerosB]
theorem rep_u8 (n : Nat) : mkRep n [OV.p (.int .u8 0)] = plains (ofBytes (zerosB n)) := by simp [mkRep, plains, ofBytes, zerosB]
def eI (l : List Int) : List (List PV) := l.map fun c => [.int .i64 c]
structure R where
  ty : Int
  data : List UInt8
  cuts : List Int
  at_ : Int
def eR (r : R) : List PV := [.int .i64 r.ty, .sl 1 (ofBytes r.data), .sl 1 (eI r.cuts), .int .i64 r.at_]
def oR (r : R) : List OV := [.p (.int .i64 r.ty), .own 1 (plains (ofBytes r.data)), .own 1 (plains (eI r.cuts)), .p (.int .i64 r.at_)]
theorem eI_length (l : List Int) : (eI l).length = l.length := by simp [eI]
theorem put_int (l : List Int) (c : Int) (r : List (List OV)) : plains (eI l) ++ [.p (.int .i64 c)] :: r = plains (eI (l ++ [c])) ++ r := by simp [plains, eI]
theorem eI_take (l : List Int) (k : Nat) : (eI l).take k = eI (l.take k) := by simp [eI, List.map_take]
theorem eI_drop (l : List Int) (k : Nat) : (eI l).drop k = eI (l.drop k) := by simp [eI, List.map_drop]
theorem put_ints (l m : List Int) : plains (eI l) ++ plains (eI m) = plains (eI (l ++ m)) := by simp [plains, eI]
theorem eq_upto {α : Type} {a b : List α} (hl : a.length = b.length) (h : ∀ j < a.length, a[j]? = b[j]?) : a = b := by
  refine List.ext_getElem? fun j => ?_
  rcases Nat.lt_or_ge j a.length with q | q
  · exact h j q
  · rw [List.getElem?_eq_none q, List.getElem?_eq_none (by omega)]
theorem eI_get (l : List Int) (i : Nat) : (eI l)[i]? = l[i]?.map fun c => [.int .i64 c] := by simp [eI]
theorem oR_frz (r : R) : OV.frzs (oR r) = eR r := by simp only [oR, eR, OV.frzs, OV.frz, frzss_plains]
theorem oRs_frz : ∀ (l : List R), OV.frzss (l.map oR) = l.map eR
  | [] => rfl
  | r :: l => by simp only [List.map_cons, OV.frzss, oR_frz, oRs_frz l]
theorem oRs_whole : ∀ (l : List R), OV.wholess (l.map oR) = true
  | [] => rfl
  | r :: l => by simp only [List.map_cons, OV.wholess, oRs_whole l, Bool.and_true, oR, OV.wholes, OV.whole, wholess_plains, Bool.and_self]
end Go.Pv.Cb
