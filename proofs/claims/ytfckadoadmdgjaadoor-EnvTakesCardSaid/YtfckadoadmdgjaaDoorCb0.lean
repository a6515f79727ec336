/- What the functions that EnvTakes reaches compute: a part. -/
import Derived.Test.YtfckadoadmdgjaaDoorPvd
set_option linter.all false
namespace Go.Pv.W
set_option linter.unusedSimpArgs false
abbrev D (d : Nat) (o : IOp) : IOper := ⟨some d, o, none⟩
abbrev N (o : IOp) : IOper := ⟨none, o, none⟩
abbrev M (d i : Nat) : IOper := ⟨some d, .mov (.t i), none⟩
abbrev G (d t : Nat) (b : Bool) (o : IOp) : IOper := ⟨some d, o, some (t, b)⟩
abbrev I (n : Int) : Od := .c (.w (.p (.int .i64 n)))
abbrev P (v : PV) : Od := .c (.w (.p v))
abbrev T : Od := .c (.w (.p (.bool true)))
abbrev F : Od := .c (.w (.p (.bool false)))
abbrev dn (n : Nat) : List Nat := (List.range n).reverse
end Go.Pv.W
namespace Go.Pv.Cb
open Go.Pv
theorem drop_get {α : Type} {l : List α} {i : Nat} {x : α} (h : l[i]? = some x) : l.drop i = x :: l.drop (i + 1) := by
  obtain ⟨h1, rfl⟩ := List.getElem?_eq_some_iff.1 h
  exact List.drop_eq_getElem_cons h1
theorem u8_lt (a : UInt8) : a.toNat < 256 := UInt8.toNat_lt a
def zerosB (n : Nat) : List UInt8 := List.replicate n 0
def eI (l : List Int) : List (List PV) := l.map fun c => [.int .i64 c]
structure R where
  ty : Int
  data : List UInt8
  cuts : List Int
  at_ : Int
def eR (r : R) : List PV := [.int .i64 r.ty, .sl 1 (ofBytes r.data), .sl 1 (eI r.cuts), .int .i64 r.at_]
def oR (r : R) : List OV := [.p (.int .i64 r.ty), .own 1 (plains (ofBytes r.data)), .own 1 (plains (eI r.cuts)), .p (.int .i64 r.at_)]
theorem eI_length (l : List Int) : (eI l).length = l.length := by simp [eI]
theorem put_int (l : List Int) (c : Int) (r : List (List OV)) : plains (eI l) ++ [.p (.int .i64 c)] :: r = plains (eI (l ++ [c])) ++ r := by simp [plains, eI]
theorem eI_get (l : List Int) (i : Nat) : (eI l)[i]? = l[i]?.map fun c => [.int .i64 c] := by simp [eI]
end Go.Pv.Cb
