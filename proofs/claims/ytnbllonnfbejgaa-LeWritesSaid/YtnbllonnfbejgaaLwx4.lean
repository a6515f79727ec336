-- written by a program of this session
import Derived.Test.YtnbllonnfbejgaaLwx0
import Derived.Test.YtnbllonnfbejgaaLwx2
import Derived.Test.YtnbllonnfbejgaaLwx3
namespace Go.Proofs.Ytnbllonnfbejgaa.Lw
open Go.RowKit Go.Proofs.YtnbllonnfbejgaaW.PrintWords Go.Proofs.YtnbllonnfbejgaaW.PrintLast Go.Proofs.YtnbllonnfbejgaaW.PrintMore
attribute [local go_sem] max2_int min2_int max_two min_two max_three min_three max_four min_four   -- for this text's walks alone
set_option linter.unusedVariables false
set_option linter.unusedSimpArgs false

/-! ### cashbooklaw3_LeWrites: function 8 -/
mutual
def cashbooklaw3_LeWrites.j0 : Nat → List Int → Int → Int → Int → List Int → Int → List Int → Int → List Int → Bool → Option (Bool)
  | 0, _, _, _, _, _, _, _, _, _, _ => none
  | k + 1, x0, x1, x2, x3, x9, x10, x11, x12, x13, x62 => if x62 = true then (none) else (if x10 = 0 then ((le_U16.f k x9 (x0.length : Int)).bind fun bt290 => (if bt290.2.2.2 = 0 then (if bt290.1 = x1 then ((le_End.f k bt290.2.1 bt290.2.2.1).bind fun t297 => (if t297 = 0 then ((cashbookref7_PutLow.f k x0 (IntKind.u64.wrap (x1)) 2).bind fun t298 => (if (strOfNums x9).toList = (strOfNums t298).toList then (cashbooklaw3_LeWrites.j1 k x0 x2 x3 x11 x12 x13) else (none))) else (none))) else (none)) else (none))) else (if x10 = 1 then (if (strOfNums x9).toList = (strOfNums x0).toList then (cashbooklaw3_LeWrites.j1 k x0 x2 x3 x11 x12 x13) else (none)) else (none)))
def cashbooklaw3_LeWrites.j1 : Nat → List Int → Int → Int → List Int → Int → List Int → Option (Bool)
  | 0, _, _, _, _, _, _ => none
  | k + 1, x0, x2, x3, x11, x12, x13 => if x12 = 0 then ((le_U32.f k x11 (x0.length : Int)).bind fun bt301 => (if bt301.2.2.2 = 0 then (if bt301.1 = x2 then ((le_End.f k bt301.2.1 bt301.2.2.1).bind fun t308 => (if t308 = 0 then ((cashbookref7_PutLow.f k x0 (IntKind.u64.wrap (x2)) 4).bind fun t309 => (if (strOfNums x11).toList = (strOfNums t309).toList then (cashbooklaw3_LeWrites.j2 k x0 x3 x13) else (none))) else (none))) else (none)) else (none))) else (if x12 = 1 then (if (strOfNums x11).toList = (strOfNums x0).toList then (cashbooklaw3_LeWrites.j2 k x0 x3 x13) else (none)) else (none))
def cashbooklaw3_LeWrites.j2 : Nat → List Int → Int → List Int → Option (Bool)
  | 0, _, _, _ => none
  | k + 1, x0, x3, x13 => (le_I64.f k x13 (x0.length : Int)).bind fun bt312 => (if bt312.2.2.2 = 0 then (if bt312.1 = x3 then ((le_End.f k bt312.2.1 bt312.2.2.1).bind fun t319 => (if t319 = 0 then ((cashbookref7_PutLow.f k x0 (IntKind.u64.wrap (x3)) 8).bind fun t320 => (some ((strOfNums x13).toList == (strOfNums t320).toList))) else (none))) else (none)) else (none))
end
def cashbooklaw3_LeWrites.f (k : Nat) (l0 : List Int) (a1 : Int) (a2 : Int) (a3 : Int) : Option (Bool) := (cashbooklaw3_known.f k).bind fun t278 => (if t278 = true then (if (l0.length : Int) > 200 then (some true) else ((le_Put16.f k l0 a1).bind fun bt279 => ((le_Put32.f k l0 a2).bind fun bt283 => ((le_Put64.f k l0 a3).bind fun t287 => (if a1 ≥ 0 then (if bt279.2 = 0 then (if a1 < 65536 then (if a2 ≥ 0 then (if bt283.2 = 0 then (if a2 < 4294967296 then (cashbooklaw3_LeWrites.j0 k l0 a1 a2 a3 bt279.1 bt279.2 bt283.1 bt283.2 t287 false) else (cashbooklaw3_LeWrites.j0 k l0 a1 a2 a3 bt279.1 bt279.2 bt283.1 bt283.2 t287 true)) else (if a2 < 4294967296 then (cashbooklaw3_LeWrites.j0 k l0 a1 a2 a3 bt279.1 bt279.2 bt283.1 bt283.2 t287 true) else (cashbooklaw3_LeWrites.j0 k l0 a1 a2 a3 bt279.1 bt279.2 bt283.1 bt283.2 t287 false))) else (if bt283.2 = 0 then (cashbooklaw3_LeWrites.j0 k l0 a1 a2 a3 bt279.1 bt279.2 bt283.1 bt283.2 t287 true) else (cashbooklaw3_LeWrites.j0 k l0 a1 a2 a3 bt279.1 bt279.2 bt283.1 bt283.2 t287 false))) else (cashbooklaw3_LeWrites.j0 k l0 a1 a2 a3 bt279.1 bt279.2 bt283.1 bt283.2 t287 true)) else (if a1 < 65536 then (cashbooklaw3_LeWrites.j0 k l0 a1 a2 a3 bt279.1 bt279.2 bt283.1 bt283.2 t287 true) else (if a2 ≥ 0 then (if bt283.2 = 0 then (if a2 < 4294967296 then (cashbooklaw3_LeWrites.j0 k l0 a1 a2 a3 bt279.1 bt279.2 bt283.1 bt283.2 t287 false) else (cashbooklaw3_LeWrites.j0 k l0 a1 a2 a3 bt279.1 bt279.2 bt283.1 bt283.2 t287 true)) else (if a2 < 4294967296 then (cashbooklaw3_LeWrites.j0 k l0 a1 a2 a3 bt279.1 bt279.2 bt283.1 bt283.2 t287 true) else (cashbooklaw3_LeWrites.j0 k l0 a1 a2 a3 bt279.1 bt279.2 bt283.1 bt283.2 t287 false))) else (if bt283.2 = 0 then (cashbooklaw3_LeWrites.j0 k l0 a1 a2 a3 bt279.1 bt279.2 bt283.1 bt283.2 t287 true) else (cashbooklaw3_LeWrites.j0 k l0 a1 a2 a3 bt279.1 bt279.2 bt283.1 bt283.2 t287 false))))) else (if bt279.2 = 0 then (cashbooklaw3_LeWrites.j0 k l0 a1 a2 a3 bt279.1 bt279.2 bt283.1 bt283.2 t287 true) else (if a2 ≥ 0 then (if bt283.2 = 0 then (if a2 < 4294967296 then (cashbooklaw3_LeWrites.j0 k l0 a1 a2 a3 bt279.1 bt279.2 bt283.1 bt283.2 t287 false) else (cashbooklaw3_LeWrites.j0 k l0 a1 a2 a3 bt279.1 bt279.2 bt283.1 bt283.2 t287 true)) else (if a2 < 4294967296 then (cashbooklaw3_LeWrites.j0 k l0 a1 a2 a3 bt279.1 bt279.2 bt283.1 bt283.2 t287 true) else (cashbooklaw3_LeWrites.j0 k l0 a1 a2 a3 bt279.1 bt279.2 bt283.1 bt283.2 t287 false))) else (if bt283.2 = 0 then (cashbooklaw3_LeWrites.j0 k l0 a1 a2 a3 bt279.1 bt279.2 bt283.1 bt283.2 t287 true) else (cashbooklaw3_LeWrites.j0 k l0 a1 a2 a3 bt279.1 bt279.2 bt283.1 bt283.2 t287 false))))))))) else (none))
theorem cashbooklaw3_LeWrites.mono_l : ∀ k, (∀ y0 y1 y2 y3 y4 y5 y6 y7 y8 y9, LeO (cashbooklaw3_LeWrites.j0 k y0 y1 y2 y3 y4 y5 y6 y7 y8 y9) (cashbooklaw3_LeWrites.j0 (k + 1) y0 y1 y2 y3 y4 y5 y6 y7 y8 y9)) ∧ (∀ y0 y1 y2 y3 y4 y5, LeO (cashbooklaw3_LeWrites.j1 k y0 y1 y2 y3 y4 y5) (cashbooklaw3_LeWrites.j1 (k + 1) y0 y1 y2 y3 y4 y5)) ∧ (∀ y0 y1 y2, LeO (cashbooklaw3_LeWrites.j2 k y0 y1 y2) (cashbooklaw3_LeWrites.j2 (k + 1) y0 y1 y2))
  | 0 => ⟨fun _ _ _ _ _ _ _ _ _ _ r h => by simp [cashbooklaw3_LeWrites.j0] at h, fun _ _ _ _ _ _ r h => by simp [cashbooklaw3_LeWrites.j1] at h, fun _ _ _ r h => by simp [cashbooklaw3_LeWrites.j2] at h⟩
  | k + 1 => by
    obtain ⟨ih0, ih1, ih2⟩ := cashbooklaw3_LeWrites.mono_l k
    refine ⟨?_, ?_, ?_⟩
    · intro y0 y1 y2 y3 y4 y5 y6 y7 y8 y9
      unfold cashbooklaw3_LeWrites.j0
      repeat' first
      | (with_reducible exact ih0 _ _ _ _ _ _ _ _ _ _)
      | (with_reducible exact ih1 _ _ _ _ _ _)
      | (with_reducible exact ih2 _ _ _)
      | (with_reducible exact cashbooklaw3_known.mono _)
      | (with_reducible exact cashbookref7_PutLow.mono _ _ _ _)
      | (with_reducible exact le_End.mono _ _ _)
      | (with_reducible exact le_I64.mono _ _ _)
      | (with_reducible exact le_Put16.mono _ _ _)
      | (with_reducible exact le_Put32.mono _ _ _)
      | (with_reducible exact le_Put64.mono _ _ _)
      | (with_reducible exact le_U16.mono _ _ _)
      | (with_reducible exact le_U32.mono _ _ _)
      | (with_reducible exact LeO.refl _)
      | (with_reducible exact LeO.none _)
      | (with_reducible refine LeO.ite ?_ ?_)
      | (with_reducible refine LeO.bind ?_ (fun _ => ?_))
      | exact ih0 _ _ _ _ _ _ _ _ _ _
      | exact ih1 _ _ _ _ _ _
      | exact ih2 _ _ _
      | exact cashbooklaw3_known.mono _
      | exact cashbookref7_PutLow.mono _ _ _ _
      | exact le_End.mono _ _ _
      | exact le_I64.mono _ _ _
      | exact le_Put16.mono _ _ _
      | exact le_Put32.mono _ _ _
      | exact le_Put64.mono _ _ _
      | exact le_U16.mono _ _ _
      | exact le_U32.mono _ _ _
      | exact LeO.none _
      | refine LeO.ite ?_ ?_
      | refine LeO.bind ?_ (fun _ => ?_)
    · intro y0 y1 y2 y3 y4 y5
      unfold cashbooklaw3_LeWrites.j1
      repeat' first
      | (with_reducible exact ih0 _ _ _ _ _ _ _ _ _ _)
      | (with_reducible exact ih1 _ _ _ _ _ _)
      | (with_reducible exact ih2 _ _ _)
      | (with_reducible exact cashbooklaw3_known.mono _)
      | (with_reducible exact cashbookref7_PutLow.mono _ _ _ _)
      | (with_reducible exact le_End.mono _ _ _)
      | (with_reducible exact le_I64.mono _ _ _)
      | (with_reducible exact le_Put16.mono _ _ _)
      | (with_reducible exact le_Put32.mono _ _ _)
      | (with_reducible exact le_Put64.mono _ _ _)
      | (with_reducible exact le_U16.mono _ _ _)
      | (with_reducible exact le_U32.mono _ _ _)
      | (with_reducible exact LeO.refl _)
      | (with_reducible exact LeO.none _)
      | (with_reducible refine LeO.ite ?_ ?_)
      | (with_reducible refine LeO.bind ?_ (fun _ => ?_))
      | exact ih0 _ _ _ _ _ _ _ _ _ _
      | exact ih1 _ _ _ _ _ _
      | exact ih2 _ _ _
      | exact cashbooklaw3_known.mono _
      | exact cashbookref7_PutLow.mono _ _ _ _
      | exact le_End.mono _ _ _
      | exact le_I64.mono _ _ _
      | exact le_Put16.mono _ _ _
      | exact le_Put32.mono _ _ _
      | exact le_Put64.mono _ _ _
      | exact le_U16.mono _ _ _
      | exact le_U32.mono _ _ _
      | exact LeO.none _
      | refine LeO.ite ?_ ?_
      | refine LeO.bind ?_ (fun _ => ?_)
    · intro y0 y1 y2
      unfold cashbooklaw3_LeWrites.j2
      repeat' first
      | (with_reducible exact ih0 _ _ _ _ _ _ _ _ _ _)
      | (with_reducible exact ih1 _ _ _ _ _ _)
      | (with_reducible exact ih2 _ _ _)
      | (with_reducible exact cashbooklaw3_known.mono _)
      | (with_reducible exact cashbookref7_PutLow.mono _ _ _ _)
      | (with_reducible exact le_End.mono _ _ _)
      | (with_reducible exact le_I64.mono _ _ _)
      | (with_reducible exact le_Put16.mono _ _ _)
      | (with_reducible exact le_Put32.mono _ _ _)
      | (with_reducible exact le_Put64.mono _ _ _)
      | (with_reducible exact le_U16.mono _ _ _)
      | (with_reducible exact le_U32.mono _ _ _)
      | (with_reducible exact LeO.refl _)
      | (with_reducible exact LeO.none _)
      | (with_reducible refine LeO.ite ?_ ?_)
      | (with_reducible refine LeO.bind ?_ (fun _ => ?_))
      | exact ih0 _ _ _ _ _ _ _ _ _ _
      | exact ih1 _ _ _ _ _ _
      | exact ih2 _ _ _
      | exact cashbooklaw3_known.mono _
      | exact cashbookref7_PutLow.mono _ _ _ _
      | exact le_End.mono _ _ _
      | exact le_I64.mono _ _ _
      | exact le_Put16.mono _ _ _
      | exact le_Put32.mono _ _ _
      | exact le_Put64.mono _ _ _
      | exact le_U16.mono _ _ _
      | exact le_U32.mono _ _ _
      | exact LeO.none _
      | refine LeO.ite ?_ ?_
      | refine LeO.bind ?_ (fun _ => ?_)
theorem cashbooklaw3_LeWrites.mono : ∀ a0 a1 a2 a3 k, LeO (cashbooklaw3_LeWrites.f k a0 a1 a2 a3) (cashbooklaw3_LeWrites.f (k + 1) a0 a1 a2 a3) := by
  intro a0 a1 a2 a3 k
  obtain ⟨ih0, ih1, ih2⟩ := cashbooklaw3_LeWrites.mono_l k
  unfold cashbooklaw3_LeWrites.f
  repeat' first
      | (with_reducible exact ih0 _ _ _ _ _ _ _ _ _ _)
      | (with_reducible exact ih1 _ _ _ _ _ _)
      | (with_reducible exact ih2 _ _ _)
      | (with_reducible exact cashbooklaw3_known.mono _)
      | (with_reducible exact cashbookref7_PutLow.mono _ _ _ _)
      | (with_reducible exact le_End.mono _ _ _)
      | (with_reducible exact le_I64.mono _ _ _)
      | (with_reducible exact le_Put16.mono _ _ _)
      | (with_reducible exact le_Put32.mono _ _ _)
      | (with_reducible exact le_Put64.mono _ _ _)
      | (with_reducible exact le_U16.mono _ _ _)
      | (with_reducible exact le_U32.mono _ _ _)
      | (with_reducible exact LeO.refl _)
      | (with_reducible exact LeO.none _)
      | (with_reducible refine LeO.ite ?_ ?_)
      | (with_reducible refine LeO.bind ?_ (fun _ => ?_))
      | exact ih0 _ _ _ _ _ _ _ _ _ _
      | exact ih1 _ _ _ _ _ _
      | exact ih2 _ _ _
      | exact cashbooklaw3_known.mono _
      | exact cashbookref7_PutLow.mono _ _ _ _
      | exact le_End.mono _ _ _
      | exact le_I64.mono _ _ _
      | exact le_Put16.mono _ _ _
      | exact le_Put32.mono _ _ _
      | exact le_Put64.mono _ _ _
      | exact le_U16.mono _ _ _
      | exact le_U32.mono _ _ _
      | exact LeO.none _
      | refine LeO.ite ?_ ?_
      | refine LeO.bind ?_ (fun _ => ?_)
def cashbooklaw3_LeWrites.T12 : Bool × List (List Nat × List Nat) := (true, [([], []), ([0], [0]), ([1], [1]), ([2], [2]), ([2], [2]), ([3, 4, 2], [2, 3, 4]), ([2, 5], [2, 5]), ([6, 2], [6]), ([7], [7]), ([8, 7, 7], [7, 8]), ([9, 7], [7, 9]), ([7, 10], [7, 10]), ([11, 9], [11]), ([12], [12]), ([13, 12], [12, 13]), ([12], [12]), ([12], [12]), ([16, 12], [12, 16]), ([15, 17, 12, 12], [12, 15, 17]), ([18, 12], [12, 18]), ([14, 19, 12], [12, 14, 19]), ([12, 20], [12, 20])])
def cashbooklaw3_LeWrites.B12 : List Nat := [0, 1, 3, 7, 7, 31, 63, 127, 255, 511, 1023, 2047, 4095, 8191, 16383, 8191, 8191, 73727, 237567, 499711, 1048575, 2097151]
theorem cashbooklaw3_LeWrites.tab12 : rtab .any (opsOf Try.f8 12) = cashbooklaw3_LeWrites.T12 := by kernel_rfl
theorem cashbooklaw3_LeWrites.bits12 : waitsOk cashbooklaw3_LeWrites.T12.2 cashbooklaw3_LeWrites.B12 = true := by kernel_rfl
def cashbooklaw3_LeWrites.T18 : Bool × List (List Nat × List Nat) := (true, [([], []), ([0], [0]), ([1], [1]), ([2], [2]), ([2], [2]), ([3, 4, 2], [2, 3, 4]), ([2, 5], [2, 5]), ([6, 2], [6]), ([7], [7]), ([8, 7, 7], [7, 8]), ([9, 7], [7, 9]), ([7, 10], [7, 10]), ([11, 9], [11]), ([12], [12]), ([13, 12], [12, 13]), ([12], [12]), ([12], [12]), ([16, 12], [12, 16]), ([15, 17, 12, 12], [12, 15, 17]), ([18, 12], [12, 18]), ([14, 19, 12], [12, 14, 19]), ([12, 20], [12, 20])])
def cashbooklaw3_LeWrites.B18 : List Nat := [0, 1, 3, 7, 7, 31, 63, 127, 255, 511, 1023, 2047, 4095, 8191, 16383, 8191, 8191, 73727, 237567, 499711, 1048575, 2097151]
theorem cashbooklaw3_LeWrites.tab18 : rtab .any (opsOf Try.f8 18) = cashbooklaw3_LeWrites.T18 := by kernel_rfl
theorem cashbooklaw3_LeWrites.bits18 : waitsOk cashbooklaw3_LeWrites.T18.2 cashbooklaw3_LeWrites.B18 = true := by kernel_rfl
def cashbooklaw3_LeWrites.T23 : Bool × List (List Nat × List Nat) := (true, [([], []), ([0], [0]), ([1], [1]), ([2], [2]), ([2], [2]), ([3, 4, 2], [2, 3, 4]), ([2, 5], [2, 5]), ([6, 2], [6]), ([7], [7]), ([8, 7, 7], [7, 8]), ([9, 7], [7, 9]), ([7, 10], [7, 10]), ([11, 9], [11]), ([12], [12]), ([13, 12], [12, 13]), ([12], [12]), ([12], [12]), ([16, 12], [12, 16]), ([15, 17, 12, 12], [12, 15, 17]), ([18, 12], [12, 18]), ([14, 19, 12], [12, 14, 19]), ([12, 20], [12, 20]), ([21, 18, 0, 1, 2, 3, 4, 5, 6, 7, 8, 9, 10, 11, 12, 13, 14, 15, 16, 17, 18, 19, 20, 21], [21])])
def cashbooklaw3_LeWrites.B23 : List Nat := [0, 1, 3, 7, 7, 31, 63, 127, 255, 511, 1023, 2047, 4095, 8191, 16383, 8191, 8191, 73727, 237567, 499711, 1048575, 2097151, 4194303]
theorem cashbooklaw3_LeWrites.tab23 : rtab .any (opsOf Try.f8 23) = cashbooklaw3_LeWrites.T23 := by kernel_rfl
theorem cashbooklaw3_LeWrites.bits23 : waitsOk cashbooklaw3_LeWrites.T23.2 cashbooklaw3_LeWrites.B23 = true := by kernel_rfl
set_option maxHeartbeats 8000000 in
set_option maxRecDepth 100000 in
theorem cashbooklaw3_LeWrites.calls (k : Nat) (A0 : Option Addr) (c0 : Nat) (l0 : List Int) (a1 : Int) (a2 : Int) (a3 : Int) (r : Bool) (w : World) (hr0 : Kd.C (Kd.int .u8) w A0 l0.length l0) (hc0 : l0.length ≤ c0) (h : cashbooklaw3_LeWrites.f k l0 a1 a2 a3 = some r) :
    Calls Try.prog 8 #[.slice A0 l0.length c0, .int .i64 a1, .int .i64 a2, .int .i64 a3] w fun e w' => e = .returned (.bool r) ∧ Below w.heap.size w w' := by
  have hu46 := Try.underlying46
  have HR0 := Aside0.mk hr0
  have HC0 := Aside0.mk hc0
  clear hr0 hc0
  have HB := Aside0.mk (Below.refl w.heap.size w)
  have H : ((cashbooklaw3_known.f k).bind fun t278 => (if t278 = true then (if (l0.length : Int) > 200 then (some true) else ((le_Put16.f k l0 a1).bind fun bt279 => ((le_Put32.f k l0 a2).bind fun bt283 => ((le_Put64.f k l0 a3).bind fun t287 => (if a1 ≥ 0 then (if bt279.2 = 0 then (if a1 < 65536 then (if a2 ≥ 0 then (if bt283.2 = 0 then (if a2 < 4294967296 then (cashbooklaw3_LeWrites.j0 k l0 a1 a2 a3 bt279.1 bt279.2 bt283.1 bt283.2 t287 false) else (cashbooklaw3_LeWrites.j0 k l0 a1 a2 a3 bt279.1 bt279.2 bt283.1 bt283.2 t287 true)) else (if a2 < 4294967296 then (cashbooklaw3_LeWrites.j0 k l0 a1 a2 a3 bt279.1 bt279.2 bt283.1 bt283.2 t287 true) else (cashbooklaw3_LeWrites.j0 k l0 a1 a2 a3 bt279.1 bt279.2 bt283.1 bt283.2 t287 false))) else (if bt283.2 = 0 then (cashbooklaw3_LeWrites.j0 k l0 a1 a2 a3 bt279.1 bt279.2 bt283.1 bt283.2 t287 true) else (cashbooklaw3_LeWrites.j0 k l0 a1 a2 a3 bt279.1 bt279.2 bt283.1 bt283.2 t287 false))) else (cashbooklaw3_LeWrites.j0 k l0 a1 a2 a3 bt279.1 bt279.2 bt283.1 bt283.2 t287 true)) else (if a1 < 65536 then (cashbooklaw3_LeWrites.j0 k l0 a1 a2 a3 bt279.1 bt279.2 bt283.1 bt283.2 t287 true) else (if a2 ≥ 0 then (if bt283.2 = 0 then (if a2 < 4294967296 then (cashbooklaw3_LeWrites.j0 k l0 a1 a2 a3 bt279.1 bt279.2 bt283.1 bt283.2 t287 false) else (cashbooklaw3_LeWrites.j0 k l0 a1 a2 a3 bt279.1 bt279.2 bt283.1 bt283.2 t287 true)) else (if a2 < 4294967296 then (cashbooklaw3_LeWrites.j0 k l0 a1 a2 a3 bt279.1 bt279.2 bt283.1 bt283.2 t287 true) else (cashbooklaw3_LeWrites.j0 k l0 a1 a2 a3 bt279.1 bt279.2 bt283.1 bt283.2 t287 false))) else (if bt283.2 = 0 then (cashbooklaw3_LeWrites.j0 k l0 a1 a2 a3 bt279.1 bt279.2 bt283.1 bt283.2 t287 true) else (cashbooklaw3_LeWrites.j0 k l0 a1 a2 a3 bt279.1 bt279.2 bt283.1 bt283.2 t287 false))))) else (if bt279.2 = 0 then (cashbooklaw3_LeWrites.j0 k l0 a1 a2 a3 bt279.1 bt279.2 bt283.1 bt283.2 t287 true) else (if a2 ≥ 0 then (if bt283.2 = 0 then (if a2 < 4294967296 then (cashbooklaw3_LeWrites.j0 k l0 a1 a2 a3 bt279.1 bt279.2 bt283.1 bt283.2 t287 false) else (cashbooklaw3_LeWrites.j0 k l0 a1 a2 a3 bt279.1 bt279.2 bt283.1 bt283.2 t287 true)) else (if a2 < 4294967296 then (cashbooklaw3_LeWrites.j0 k l0 a1 a2 a3 bt279.1 bt279.2 bt283.1 bt283.2 t287 true) else (cashbooklaw3_LeWrites.j0 k l0 a1 a2 a3 bt279.1 bt279.2 bt283.1 bt283.2 t287 false))) else (if bt283.2 = 0 then (cashbooklaw3_LeWrites.j0 k l0 a1 a2 a3 bt279.1 bt279.2 bt283.1 bt283.2 t287 true) else (cashbooklaw3_LeWrites.j0 k l0 a1 a2 a3 bt279.1 bt279.2 bt283.1 bt283.2 t287 false))))))))) else (none))) = some r := h
  clear h
  replace H := Option.bind_eq_some_iff.mp H
  obtain ⟨t278, A50, H⟩ := H
  replace H : (if t278 = true then (if (l0.length : Int) > 200 then (some true) else ((le_Put16.f k l0 a1).bind fun bt279 => ((le_Put32.f k l0 a2).bind fun bt283 => ((le_Put64.f k l0 a3).bind fun t287 => (if a1 ≥ 0 then (if bt279.2 = 0 then (if a1 < 65536 then (if a2 ≥ 0 then (if bt283.2 = 0 then (if a2 < 4294967296 then (cashbooklaw3_LeWrites.j0 k l0 a1 a2 a3 bt279.1 bt279.2 bt283.1 bt283.2 t287 false) else (cashbooklaw3_LeWrites.j0 k l0 a1 a2 a3 bt279.1 bt279.2 bt283.1 bt283.2 t287 true)) else (if a2 < 4294967296 then (cashbooklaw3_LeWrites.j0 k l0 a1 a2 a3 bt279.1 bt279.2 bt283.1 bt283.2 t287 true) else (cashbooklaw3_LeWrites.j0 k l0 a1 a2 a3 bt279.1 bt279.2 bt283.1 bt283.2 t287 false))) else (if bt283.2 = 0 then (cashbooklaw3_LeWrites.j0 k l0 a1 a2 a3 bt279.1 bt279.2 bt283.1 bt283.2 t287 true) else (cashbooklaw3_LeWrites.j0 k l0 a1 a2 a3 bt279.1 bt279.2 bt283.1 bt283.2 t287 false))) else (cashbooklaw3_LeWrites.j0 k l0 a1 a2 a3 bt279.1 bt279.2 bt283.1 bt283.2 t287 true)) else (if a1 < 65536 then (cashbooklaw3_LeWrites.j0 k l0 a1 a2 a3 bt279.1 bt279.2 bt283.1 bt283.2 t287 true) else (if a2 ≥ 0 then (if bt283.2 = 0 then (if a2 < 4294967296 then (cashbooklaw3_LeWrites.j0 k l0 a1 a2 a3 bt279.1 bt279.2 bt283.1 bt283.2 t287 false) else (cashbooklaw3_LeWrites.j0 k l0 a1 a2 a3 bt279.1 bt279.2 bt283.1 bt283.2 t287 true)) else (if a2 < 4294967296 then (cashbooklaw3_LeWrites.j0 k l0 a1 a2 a3 bt279.1 bt279.2 bt283.1 bt283.2 t287 true) else (cashbooklaw3_LeWrites.j0 k l0 a1 a2 a3 bt279.1 bt279.2 bt283.1 bt283.2 t287 false))) else (if bt283.2 = 0 then (cashbooklaw3_LeWrites.j0 k l0 a1 a2 a3 bt279.1 bt279.2 bt283.1 bt283.2 t287 true) else (cashbooklaw3_LeWrites.j0 k l0 a1 a2 a3 bt279.1 bt279.2 bt283.1 bt283.2 t287 false))))) else (if bt279.2 = 0 then (cashbooklaw3_LeWrites.j0 k l0 a1 a2 a3 bt279.1 bt279.2 bt283.1 bt283.2 t287 true) else (if a2 ≥ 0 then (if bt283.2 = 0 then (if a2 < 4294967296 then (cashbooklaw3_LeWrites.j0 k l0 a1 a2 a3 bt279.1 bt279.2 bt283.1 bt283.2 t287 false) else (cashbooklaw3_LeWrites.j0 k l0 a1 a2 a3 bt279.1 bt279.2 bt283.1 bt283.2 t287 true)) else (if a2 < 4294967296 then (cashbooklaw3_LeWrites.j0 k l0 a1 a2 a3 bt279.1 bt279.2 bt283.1 bt283.2 t287 true) else (cashbooklaw3_LeWrites.j0 k l0 a1 a2 a3 bt279.1 bt279.2 bt283.1 bt283.2 t287 false))) else (if bt283.2 = 0 then (cashbooklaw3_LeWrites.j0 k l0 a1 a2 a3 bt279.1 bt279.2 bt283.1 bt283.2 t287 true) else (cashbooklaw3_LeWrites.j0 k l0 a1 a2 a3 bt279.1 bt279.2 bt283.1 bt283.2 t287 false))))))))) else (none)) = some r := H
  have A5 := Aside0.mk A50
  clear A50
  by_cases c6 : t278 = true
  · subst c6
    have H1 : (if (l0.length : Int) > 200 then (some true) else ((le_Put16.f k l0 a1).bind fun bt279 => ((le_Put32.f k l0 a2).bind fun bt283 => ((le_Put64.f k l0 a3).bind fun t287 => (if a1 ≥ 0 then (if bt279.2 = 0 then (if a1 < 65536 then (if a2 ≥ 0 then (if bt283.2 = 0 then (if a2 < 4294967296 then (cashbooklaw3_LeWrites.j0 k l0 a1 a2 a3 bt279.1 bt279.2 bt283.1 bt283.2 t287 false) else (cashbooklaw3_LeWrites.j0 k l0 a1 a2 a3 bt279.1 bt279.2 bt283.1 bt283.2 t287 true)) else (if a2 < 4294967296 then (cashbooklaw3_LeWrites.j0 k l0 a1 a2 a3 bt279.1 bt279.2 bt283.1 bt283.2 t287 true) else (cashbooklaw3_LeWrites.j0 k l0 a1 a2 a3 bt279.1 bt279.2 bt283.1 bt283.2 t287 false))) else (if bt283.2 = 0 then (cashbooklaw3_LeWrites.j0 k l0 a1 a2 a3 bt279.1 bt279.2 bt283.1 bt283.2 t287 true) else (cashbooklaw3_LeWrites.j0 k l0 a1 a2 a3 bt279.1 bt279.2 bt283.1 bt283.2 t287 false))) else (cashbooklaw3_LeWrites.j0 k l0 a1 a2 a3 bt279.1 bt279.2 bt283.1 bt283.2 t287 true)) else (if a1 < 65536 then (cashbooklaw3_LeWrites.j0 k l0 a1 a2 a3 bt279.1 bt279.2 bt283.1 bt283.2 t287 true) else (if a2 ≥ 0 then (if bt283.2 = 0 then (if a2 < 4294967296 then (cashbooklaw3_LeWrites.j0 k l0 a1 a2 a3 bt279.1 bt279.2 bt283.1 bt283.2 t287 false) else (cashbooklaw3_LeWrites.j0 k l0 a1 a2 a3 bt279.1 bt279.2 bt283.1 bt283.2 t287 true)) else (if a2 < 4294967296 then (cashbooklaw3_LeWrites.j0 k l0 a1 a2 a3 bt279.1 bt279.2 bt283.1 bt283.2 t287 true) else (cashbooklaw3_LeWrites.j0 k l0 a1 a2 a3 bt279.1 bt279.2 bt283.1 bt283.2 t287 false))) else (if bt283.2 = 0 then (cashbooklaw3_LeWrites.j0 k l0 a1 a2 a3 bt279.1 bt279.2 bt283.1 bt283.2 t287 true) else (cashbooklaw3_LeWrites.j0 k l0 a1 a2 a3 bt279.1 bt279.2 bt283.1 bt283.2 t287 false))))) else (if bt279.2 = 0 then (cashbooklaw3_LeWrites.j0 k l0 a1 a2 a3 bt279.1 bt279.2 bt283.1 bt283.2 t287 true) else (if a2 ≥ 0 then (if bt283.2 = 0 then (if a2 < 4294967296 then (cashbooklaw3_LeWrites.j0 k l0 a1 a2 a3 bt279.1 bt279.2 bt283.1 bt283.2 t287 false) else (cashbooklaw3_LeWrites.j0 k l0 a1 a2 a3 bt279.1 bt279.2 bt283.1 bt283.2 t287 true)) else (if a2 < 4294967296 then (cashbooklaw3_LeWrites.j0 k l0 a1 a2 a3 bt279.1 bt279.2 bt283.1 bt283.2 t287 true) else (cashbooklaw3_LeWrites.j0 k l0 a1 a2 a3 bt279.1 bt279.2 bt283.1 bt283.2 t287 false))) else (if bt283.2 = 0 then (cashbooklaw3_LeWrites.j0 k l0 a1 a2 a3 bt279.1 bt279.2 bt283.1 bt283.2 t287 true) else (cashbooklaw3_LeWrites.j0 k l0 a1 a2 a3 bt279.1 bt279.2 bt283.1 bt283.2 t287 false))))))))) = some r := by rw [if_pos rfl] at H; exact H
    clear H
    have H := H1
    clear H1
    by_cases c7 : (l0.length : Int) > 200
    · rw [if_pos c7] at H
      have c7b0 : decide (200 < (l0.length : Int)) = true := decide_eq_true c7
      have c7b1 : decide (200 < l0.length) = true := decide_eq_true (by omega)
      clear c7
      obtain rfl := Option.some.inj H
      go_enter Try.func8, Try.ntmps8
      go_wp2_with (first | ((with_reducible refine gate_callee (f := 23) rfl ?_); refine goesL_ (some 23) rfl rfl Try.func23 (by kernel_rfl) rfl #[] rfl (by (try simp only [List.map_toArray, List.map_cons, List.map_nil]); first | done | rfl | (simp only [List.length_drop, List.length_take]; rfl)) ?_; (with_reducible refine (cashbooklaw3_known.calls k  true _ A5.out).mono ?_); rintro e w8 ⟨rfl, hb⟩; refine ⟨_, rfl, ?_⟩; have n0_ := Aside0.mk (below_step (bl7 HB) hb); clear HB; have HB := n0_; clear n0_; (try clear hb); (try clear hb2); (try clear hk); (try clear hi)))
      go_ret
      exact ⟨by first | rfl | (simp [errW_none, errW_some] <;> rfl) | (simp [*, errW_none, errW_some] <;> rfl), bl7 HB⟩
    · rw [if_neg c7] at H
      have c7b0 : decide (200 < (l0.length : Int)) = false := decide_eq_false c7
      have c7b1 : decide (200 < l0.length) = false := decide_eq_false (by omega)
      clear c7
      replace H := Option.bind_eq_some_iff.mp H
      obtain ⟨⟨t279, t280⟩, A90, H⟩ := H
      replace H : ((le_Put32.f k l0 a2).bind fun bt283 => ((le_Put64.f k l0 a3).bind fun t287 => (if a1 ≥ 0 then (if t280 = 0 then (if a1 < 65536 then (if a2 ≥ 0 then (if bt283.2 = 0 then (if a2 < 4294967296 then (cashbooklaw3_LeWrites.j0 k l0 a1 a2 a3 t279 t280 bt283.1 bt283.2 t287 false) else (cashbooklaw3_LeWrites.j0 k l0 a1 a2 a3 t279 t280 bt283.1 bt283.2 t287 true)) else (if a2 < 4294967296 then (cashbooklaw3_LeWrites.j0 k l0 a1 a2 a3 t279 t280 bt283.1 bt283.2 t287 true) else (cashbooklaw3_LeWrites.j0 k l0 a1 a2 a3 t279 t280 bt283.1 bt283.2 t287 false))) else (if bt283.2 = 0 then (cashbooklaw3_LeWrites.j0 k l0 a1 a2 a3 t279 t280 bt283.1 bt283.2 t287 true) else (cashbooklaw3_LeWrites.j0 k l0 a1 a2 a3 t279 t280 bt283.1 bt283.2 t287 false))) else (cashbooklaw3_LeWrites.j0 k l0 a1 a2 a3 t279 t280 bt283.1 bt283.2 t287 true)) else (if a1 < 65536 then (cashbooklaw3_LeWrites.j0 k l0 a1 a2 a3 t279 t280 bt283.1 bt283.2 t287 true) else (if a2 ≥ 0 then (if bt283.2 = 0 then (if a2 < 4294967296 then (cashbooklaw3_LeWrites.j0 k l0 a1 a2 a3 t279 t280 bt283.1 bt283.2 t287 false) else (cashbooklaw3_LeWrites.j0 k l0 a1 a2 a3 t279 t280 bt283.1 bt283.2 t287 true)) else (if a2 < 4294967296 then (cashbooklaw3_LeWrites.j0 k l0 a1 a2 a3 t279 t280 bt283.1 bt283.2 t287 true) else (cashbooklaw3_LeWrites.j0 k l0 a1 a2 a3 t279 t280 bt283.1 bt283.2 t287 false))) else (if bt283.2 = 0 then (cashbooklaw3_LeWrites.j0 k l0 a1 a2 a3 t279 t280 bt283.1 bt283.2 t287 true) else (cashbooklaw3_LeWrites.j0 k l0 a1 a2 a3 t279 t280 bt283.1 bt283.2 t287 false))))) else (if t280 = 0 then (cashbooklaw3_LeWrites.j0 k l0 a1 a2 a3 t279 t280 bt283.1 bt283.2 t287 true) else (if a2 ≥ 0 then (if bt283.2 = 0 then (if a2 < 4294967296 then (cashbooklaw3_LeWrites.j0 k l0 a1 a2 a3 t279 t280 bt283.1 bt283.2 t287 false) else (cashbooklaw3_LeWrites.j0 k l0 a1 a2 a3 t279 t280 bt283.1 bt283.2 t287 true)) else (if a2 < 4294967296 then (cashbooklaw3_LeWrites.j0 k l0 a1 a2 a3 t279 t280 bt283.1 bt283.2 t287 true) else (cashbooklaw3_LeWrites.j0 k l0 a1 a2 a3 t279 t280 bt283.1 bt283.2 t287 false))) else (if bt283.2 = 0 then (cashbooklaw3_LeWrites.j0 k l0 a1 a2 a3 t279 t280 bt283.1 bt283.2 t287 true) else (cashbooklaw3_LeWrites.j0 k l0 a1 a2 a3 t279 t280 bt283.1 bt283.2 t287 false))))))) = some r := H
      have A9 := Aside0.mk A90
      clear A90
      replace H := Option.bind_eq_some_iff.mp H
      obtain ⟨⟨t283, t284⟩, A100, H⟩ := H
      replace H : ((le_Put64.f k l0 a3).bind fun t287 => (if a1 ≥ 0 then (if t280 = 0 then (if a1 < 65536 then (if a2 ≥ 0 then (if t284 = 0 then (if a2 < 4294967296 then (cashbooklaw3_LeWrites.j0 k l0 a1 a2 a3 t279 t280 t283 t284 t287 false) else (cashbooklaw3_LeWrites.j0 k l0 a1 a2 a3 t279 t280 t283 t284 t287 true)) else (if a2 < 4294967296 then (cashbooklaw3_LeWrites.j0 k l0 a1 a2 a3 t279 t280 t283 t284 t287 true) else (cashbooklaw3_LeWrites.j0 k l0 a1 a2 a3 t279 t280 t283 t284 t287 false))) else (if t284 = 0 then (cashbooklaw3_LeWrites.j0 k l0 a1 a2 a3 t279 t280 t283 t284 t287 true) else (cashbooklaw3_LeWrites.j0 k l0 a1 a2 a3 t279 t280 t283 t284 t287 false))) else (cashbooklaw3_LeWrites.j0 k l0 a1 a2 a3 t279 t280 t283 t284 t287 true)) else (if a1 < 65536 then (cashbooklaw3_LeWrites.j0 k l0 a1 a2 a3 t279 t280 t283 t284 t287 true) else (if a2 ≥ 0 then (if t284 = 0 then (if a2 < 4294967296 then (cashbooklaw3_LeWrites.j0 k l0 a1 a2 a3 t279 t280 t283 t284 t287 false) else (cashbooklaw3_LeWrites.j0 k l0 a1 a2 a3 t279 t280 t283 t284 t287 true)) else (if a2 < 4294967296 then (cashbooklaw3_LeWrites.j0 k l0 a1 a2 a3 t279 t280 t283 t284 t287 true) else (cashbooklaw3_LeWrites.j0 k l0 a1 a2 a3 t279 t280 t283 t284 t287 false))) else (if t284 = 0 then (cashbooklaw3_LeWrites.j0 k l0 a1 a2 a3 t279 t280 t283 t284 t287 true) else (cashbooklaw3_LeWrites.j0 k l0 a1 a2 a3 t279 t280 t283 t284 t287 false))))) else (if t280 = 0 then (cashbooklaw3_LeWrites.j0 k l0 a1 a2 a3 t279 t280 t283 t284 t287 true) else (if a2 ≥ 0 then (if t284 = 0 then (if a2 < 4294967296 then (cashbooklaw3_LeWrites.j0 k l0 a1 a2 a3 t279 t280 t283 t284 t287 false) else (cashbooklaw3_LeWrites.j0 k l0 a1 a2 a3 t279 t280 t283 t284 t287 true)) else (if a2 < 4294967296 then (cashbooklaw3_LeWrites.j0 k l0 a1 a2 a3 t279 t280 t283 t284 t287 true) else (cashbooklaw3_LeWrites.j0 k l0 a1 a2 a3 t279 t280 t283 t284 t287 false))) else (if t284 = 0 then (cashbooklaw3_LeWrites.j0 k l0 a1 a2 a3 t279 t280 t283 t284 t287 true) else (cashbooklaw3_LeWrites.j0 k l0 a1 a2 a3 t279 t280 t283 t284 t287 false)))))) = some r := H
      have A10 := Aside0.mk A100
      clear A100
      replace H := Option.bind_eq_some_iff.mp H
      obtain ⟨t287, A110, H⟩ := H
      replace H : (if a1 ≥ 0 then (if t280 = 0 then (if a1 < 65536 then (if a2 ≥ 0 then (if t284 = 0 then (if a2 < 4294967296 then (cashbooklaw3_LeWrites.j0 k l0 a1 a2 a3 t279 t280 t283 t284 t287 false) else (cashbooklaw3_LeWrites.j0 k l0 a1 a2 a3 t279 t280 t283 t284 t287 true)) else (if a2 < 4294967296 then (cashbooklaw3_LeWrites.j0 k l0 a1 a2 a3 t279 t280 t283 t284 t287 true) else (cashbooklaw3_LeWrites.j0 k l0 a1 a2 a3 t279 t280 t283 t284 t287 false))) else (if t284 = 0 then (cashbooklaw3_LeWrites.j0 k l0 a1 a2 a3 t279 t280 t283 t284 t287 true) else (cashbooklaw3_LeWrites.j0 k l0 a1 a2 a3 t279 t280 t283 t284 t287 false))) else (cashbooklaw3_LeWrites.j0 k l0 a1 a2 a3 t279 t280 t283 t284 t287 true)) else (if a1 < 65536 then (cashbooklaw3_LeWrites.j0 k l0 a1 a2 a3 t279 t280 t283 t284 t287 true) else (if a2 ≥ 0 then (if t284 = 0 then (if a2 < 4294967296 then (cashbooklaw3_LeWrites.j0 k l0 a1 a2 a3 t279 t280 t283 t284 t287 false) else (cashbooklaw3_LeWrites.j0 k l0 a1 a2 a3 t279 t280 t283 t284 t287 true)) else (if a2 < 4294967296 then (cashbooklaw3_LeWrites.j0 k l0 a1 a2 a3 t279 t280 t283 t284 t287 true) else (cashbooklaw3_LeWrites.j0 k l0 a1 a2 a3 t279 t280 t283 t284 t287 false))) else (if t284 = 0 then (cashbooklaw3_LeWrites.j0 k l0 a1 a2 a3 t279 t280 t283 t284 t287 true) else (cashbooklaw3_LeWrites.j0 k l0 a1 a2 a3 t279 t280 t283 t284 t287 false))))) else (if t280 = 0 then (cashbooklaw3_LeWrites.j0 k l0 a1 a2 a3 t279 t280 t283 t284 t287 true) else (if a2 ≥ 0 then (if t284 = 0 then (if a2 < 4294967296 then (cashbooklaw3_LeWrites.j0 k l0 a1 a2 a3 t279 t280 t283 t284 t287 false) else (cashbooklaw3_LeWrites.j0 k l0 a1 a2 a3 t279 t280 t283 t284 t287 true)) else (if a2 < 4294967296 then (cashbooklaw3_LeWrites.j0 k l0 a1 a2 a3 t279 t280 t283 t284 t287 true) else (cashbooklaw3_LeWrites.j0 k l0 a1 a2 a3 t279 t280 t283 t284 t287 false))) else (if t284 = 0 then (cashbooklaw3_LeWrites.j0 k l0 a1 a2 a3 t279 t280 t283 t284 t287 true) else (cashbooklaw3_LeWrites.j0 k l0 a1 a2 a3 t279 t280 t283 t284 t287 false))))) = some r := H
      have A11 := Aside0.mk A110
      clear A110
      have HC12 := Aside0.mk H
      clear H
      go_enter Try.func8, Try.ntmps8
      go_upto_region 8 with (first | ((with_reducible refine gate_callee (f := 23) rfl ?_); refine goesL_ (some 23) rfl rfl Try.func23 (by kernel_rfl) rfl #[] rfl (by (try simp only [List.map_toArray, List.map_cons, List.map_nil]); first | done | rfl | (simp only [List.length_drop, List.length_take]; rfl)) ?_; (with_reducible refine (cashbooklaw3_known.calls k  true _ A5.out).mono ?_); rintro e w13 ⟨rfl, hb⟩; refine ⟨_, rfl, ?_⟩; have n0_ := Aside0.mk (below_step (bl7 HB) hb); clear HB; have HB := n0_; clear n0_; (try clear hb); (try clear hb2); (try clear hk); (try clear hi)) | ((with_reducible refine gate_callee (f := 34) rfl ?_); refine goesL_ (some 31) rfl rfl Try.func34 (by kernel_rfl) rfl #[.slice A0 l0.length c0, .int .i64 a1] rfl (by (try simp only [List.map_toArray, List.map_cons, List.map_nil]); first | done | rfl | (simp only [List.length_drop, List.length_take]; rfl)) ?_; (with_reducible refine (le_Put16.calls k _ _ l0 a1 t279 t280 _ ?side1 ?side2 A9.out).mono ?_); (case side1 => repeat (first | exact (Kd.C_below HR0.out HB.out) | (with_reducible refine Kd.C_alloc ?_ _) | (with_reducible refine Kd.C_drewN ?_ _) | (with_reducible refine Kd.C_drew ?_))); (case side2 => exact HC0.out); rintro e w14 ⟨v281, rfl, ho0, hb⟩; refine ⟨_, rfl, ?_⟩; have n0_ := Aside0.mk (Kd.R_lower ho0 (below_size (bl7 HB))); have n1_ := Aside0.mk (below_step (bl7 HB) hb); clear HB; have HO282 := n0_; have HB := n1_; clear n0_ n1_; (try clear hb); (try clear hb2); (try clear hk); (try clear hi); (try clear ho0)) | ((with_reducible refine gate_callee (f := 35) rfl ?_); refine goesL_ (some 37) rfl rfl Try.func35 (by kernel_rfl) rfl #[.slice A0 l0.length c0, .int .i64 a2] rfl (by (try simp only [List.map_toArray, List.map_cons, List.map_nil]); first | done | rfl | (simp only [List.length_drop, List.length_take]; rfl)) ?_; (with_reducible refine (le_Put32.calls k _ _ l0 a2 t283 t284 _ ?side1 ?side2 A10.out).mono ?_); (case side1 => repeat (first | exact (Kd.C_below HR0.out HB.out) | (with_reducible refine Kd.C_alloc ?_ _) | (with_reducible refine Kd.C_drewN ?_ _) | (with_reducible refine Kd.C_drew ?_))); (case side2 => exact HC0.out); rintro e w15 ⟨v285, rfl, ho0, hb⟩; refine ⟨_, rfl, ?_⟩; have n0_ := Aside0.mk (Kd.R_elder' (rq7 HO282) (Kd.R_base ho0) hb); have n1_ := Aside0.mk (Kd.R_lower (Kd.R_new' ho0 (Kd.R_lt (rq7 HO282))) (below_size (bl7 HB))); have n2_ := Aside0.mk (below_step (bl7 HB) hb); clear HO282; clear HB; have HO282 := n0_; have HO286 := n1_; have HB := n2_; clear n0_ n1_ n2_; (try clear hb); (try clear hb2); (try clear hk); (try clear hi); (try clear ho0)) | ((with_reducible refine gate_callee (f := 36) rfl ?_); refine goesL_ (some 42) rfl rfl Try.func36 (by kernel_rfl) rfl #[.slice A0 l0.length c0, .int .i64 a3] rfl (by (try simp only [List.map_toArray, List.map_cons, List.map_nil]); first | done | rfl | (simp only [List.length_drop, List.length_take]; rfl)) ?_; (with_reducible refine (le_Put64.calls k _ _ l0 a3 t287 _ ?side1 ?side2 A11.out).mono ?_); (case side1 => repeat (first | exact (Kd.C_below HR0.out HB.out) | (with_reducible refine Kd.C_alloc ?_ _) | (with_reducible refine Kd.C_drewN ?_ _) | (with_reducible refine Kd.C_drew ?_))); (case side2 => exact HC0.out); rintro e w16 ⟨v288, rfl, ho0, hb⟩; refine ⟨_, rfl, ?_⟩; have n0_ := Aside0.mk (Kd.R_elder' (rq7 HO282) (Kd.R_base ho0) hb); have n1_ := Aside0.mk (Kd.R_elder' (rq7 HO286) (Kd.R_base ho0) hb); have n2_ := Aside0.mk (Kd.R_lower (Kd.R_new' (Kd.R_new' ho0 (Kd.R_lt (rq7 HO282))) (Kd.R_lt (rq7 HO286))) (below_size (bl7 HB))); have n3_ := Aside0.mk (below_step (bl7 HB) hb); clear HO282; clear HO286; clear HB; have HO282 := n0_; have HO286 := n1_; have HO289 := n2_; have HB := n3_; clear n0_ n1_ n2_ n3_; (try clear hb); (try clear hb2); (try clear hk); (try clear hi); (try clear ho0)))
      (try simp only [Act.put, List.setIfInBounds_toArray, List.set_cons_zero, List.set_cons_succ])
      go_cut [62] (fun v62 wc => ∃ (kq : Nat) (x62_11 : Bool), v62 = .bool x62_11 ∧ Aside0 (cashbooklaw3_LeWrites.j0 kq l0 a1 a2 a3 t279 t280 t283 t284 t287 x62_11 = some r) ∧ Aside0 (kq ≤ k) ∧ Aside0 (Kd.R (Kd.int .u8) 5 wc w.heap.size (fun k_ => some k_ ≠ (v285 : Value).ownBlock ∧ some k_ ≠ (v288 : Value).ownBlock) v281 t279) ∧ Aside0 (Kd.R (Kd.int .u8) 5 wc w.heap.size (fun k_ => some k_ ≠ (v281 : Value).ownBlock ∧ some k_ ≠ (v288 : Value).ownBlock) v285 t283) ∧ Aside0 (Kd.R (Kd.int .u8) 5 wc w.heap.size (fun k_ => some k_ ≠ (v281 : Value).ownBlock ∧ some k_ ≠ (v285 : Value).ownBlock) v288 t287) ∧ Aside0 (Below w.heap.size w wc))
      case first =>
        have H := HC12.out
        clear HC12
        by_cases c17 : a1 ≥ 0
        · rw [if_pos c17] at H
          have c17b0 : decide (0 ≤ a1) = true := decide_eq_true c17
          clear c17
          (first | rw [c17b0] | (simp only [i64_w, i32_w]; rw [c17b0]) | skip)
          by_cases c18 : t280 = 0
          · rw [if_pos c18] at H
            have c18b0 : (t280 == 0) = true := beq_iff_eq.mpr c18
            have c18b1 : (t280 != 0) = false := bne_eq_false_iff_eq.mpr c18
            clear c18
            by_cases c19 : a1 < 65536
            · rw [if_pos c19] at H
              have c19b0 : decide (a1 < 65536) = true := decide_eq_true c19
              clear c19
              by_cases c20 : a2 ≥ 0
              · rw [if_pos c20] at H
                have c20b0 : decide (0 ≤ a2) = true := decide_eq_true c20
                clear c20
                by_cases c21 : t284 = 0
                · rw [if_pos c21] at H
                  have c21b0 : (t284 == 0) = true := beq_iff_eq.mpr c21
                  have c21b1 : (t284 != 0) = false := bne_eq_false_iff_eq.mpr c21
                  clear c21
                  by_cases c22 : a2 < 4294967296
                  · rw [if_pos c22] at H
                    have c22b0 : decide (a2 < 4294967296) = true := decide_eq_true c22
                    clear c22
                    have H' := Aside0.mk H
                    clear H
                    go_wp2
                    go_meet
                    case rel => exact ⟨_, (false), (by first | rfl | (simp; done) | (simp [*]; done)), H', ⟨by first | omega | exact Nat.le_refl _⟩, ⟨by (with_reducible repeat (first | apply Kd.R_alloc | apply Kd.R_drewN | apply Kd.R_drew)); exact Kd.R_mono HO282.out (fun _ hk => ⟨hk.1.2, hk.2⟩)⟩, ⟨by (with_reducible repeat (first | apply Kd.R_alloc | apply Kd.R_drewN | apply Kd.R_drew)); exact Kd.R_mono HO286.out (fun _ hk => ⟨hk.1.2, hk.2⟩)⟩, ⟨by (with_reducible repeat (first | apply Kd.R_alloc | apply Kd.R_drewN | apply Kd.R_drew)); exact Kd.R_mono HO289.out (fun _ hk => ⟨hk.1.2, hk.2⟩)⟩, ⟨bl7 HB⟩⟩
                  · rw [if_neg c22] at H
                    have c22b0 : decide (a2 < 4294967296) = false := decide_eq_false c22
                    clear c22
                    have H' := Aside0.mk H
                    clear H
                    go_wp2
                    go_meet
                    case rel => exact ⟨_, (true), (by first | rfl | (simp; done) | (simp [*]; done)), H', ⟨by first | omega | exact Nat.le_refl _⟩, ⟨by (with_reducible repeat (first | apply Kd.R_alloc | apply Kd.R_drewN | apply Kd.R_drew)); exact Kd.R_mono HO282.out (fun _ hk => ⟨hk.1.2, hk.2⟩)⟩, ⟨by (with_reducible repeat (first | apply Kd.R_alloc | apply Kd.R_drewN | apply Kd.R_drew)); exact Kd.R_mono HO286.out (fun _ hk => ⟨hk.1.2, hk.2⟩)⟩, ⟨by (with_reducible repeat (first | apply Kd.R_alloc | apply Kd.R_drewN | apply Kd.R_drew)); exact Kd.R_mono HO289.out (fun _ hk => ⟨hk.1.2, hk.2⟩)⟩, ⟨bl7 HB⟩⟩
                · rw [if_neg c21] at H
                  have c21b0 : (t284 == 0) = false := beq_eq_false_iff_ne.mpr c21
                  have c21b1 : (t284 != 0) = true := bne_iff_ne.mpr c21
                  by_cases c23 : a2 < 4294967296
                  · rw [if_pos c23] at H
                    have c23b0 : decide (a2 < 4294967296) = true := decide_eq_true c23
                    clear c23
                    have H' := Aside0.mk H
                    clear H
                    go_wp2
                    go_meet
                    case rel => exact ⟨_, (true), (by first | rfl | (simp; done) | (simp [*]; done)), H', ⟨by first | omega | exact Nat.le_refl _⟩, ⟨by (with_reducible repeat (first | apply Kd.R_alloc | apply Kd.R_drewN | apply Kd.R_drew)); exact Kd.R_mono HO282.out (fun _ hk => ⟨hk.1.2, hk.2⟩)⟩, ⟨by (with_reducible repeat (first | apply Kd.R_alloc | apply Kd.R_drewN | apply Kd.R_drew)); exact Kd.R_mono HO286.out (fun _ hk => ⟨hk.1.2, hk.2⟩)⟩, ⟨by (with_reducible repeat (first | apply Kd.R_alloc | apply Kd.R_drewN | apply Kd.R_drew)); exact Kd.R_mono HO289.out (fun _ hk => ⟨hk.1.2, hk.2⟩)⟩, ⟨bl7 HB⟩⟩
                  · rw [if_neg c23] at H
                    have c23b0 : decide (a2 < 4294967296) = false := decide_eq_false c23
                    clear c23
                    have H' := Aside0.mk H
                    clear H
                    go_wp2
                    go_meet
                    case rel => exact ⟨_, (false), (by first | rfl | (simp; done) | (simp [*]; done)), H', ⟨by first | omega | exact Nat.le_refl _⟩, ⟨by (with_reducible repeat (first | apply Kd.R_alloc | apply Kd.R_drewN | apply Kd.R_drew)); exact Kd.R_mono HO282.out (fun _ hk => ⟨hk.1.2, hk.2⟩)⟩, ⟨by (with_reducible repeat (first | apply Kd.R_alloc | apply Kd.R_drewN | apply Kd.R_drew)); exact Kd.R_mono HO286.out (fun _ hk => ⟨hk.1.2, hk.2⟩)⟩, ⟨by (with_reducible repeat (first | apply Kd.R_alloc | apply Kd.R_drewN | apply Kd.R_drew)); exact Kd.R_mono HO289.out (fun _ hk => ⟨hk.1.2, hk.2⟩)⟩, ⟨bl7 HB⟩⟩
              · rw [if_neg c20] at H
                have c20b0 : decide (0 ≤ a2) = false := decide_eq_false c20
                clear c20
                by_cases c24 : t284 = 0
                · rw [if_pos c24] at H
                  have c24b0 : (t284 == 0) = true := beq_iff_eq.mpr c24
                  have c24b1 : (t284 != 0) = false := bne_eq_false_iff_eq.mpr c24
                  clear c24
                  have H' := Aside0.mk H
                  clear H
                  go_wp2
                  go_meet
                  case rel => exact ⟨_, (true), (by first | rfl | (simp; done) | (simp [*]; done)), H', ⟨by first | omega | exact Nat.le_refl _⟩, ⟨by (with_reducible repeat (first | apply Kd.R_alloc | apply Kd.R_drewN | apply Kd.R_drew)); exact Kd.R_mono HO282.out (fun _ hk => ⟨hk.1.2, hk.2⟩)⟩, ⟨by (with_reducible repeat (first | apply Kd.R_alloc | apply Kd.R_drewN | apply Kd.R_drew)); exact Kd.R_mono HO286.out (fun _ hk => ⟨hk.1.2, hk.2⟩)⟩, ⟨by (with_reducible repeat (first | apply Kd.R_alloc | apply Kd.R_drewN | apply Kd.R_drew)); exact Kd.R_mono HO289.out (fun _ hk => ⟨hk.1.2, hk.2⟩)⟩, ⟨bl7 HB⟩⟩
                · rw [if_neg c24] at H
                  have c24b0 : (t284 == 0) = false := beq_eq_false_iff_ne.mpr c24
                  have c24b1 : (t284 != 0) = true := bne_iff_ne.mpr c24
                  have H' := Aside0.mk H
                  clear H
                  go_wp2
                  go_meet
                  case rel => exact ⟨_, (false), (by first | rfl | (simp; done) | (simp [*]; done)), H', ⟨by first | omega | exact Nat.le_refl _⟩, ⟨by (with_reducible repeat (first | apply Kd.R_alloc | apply Kd.R_drewN | apply Kd.R_drew)); exact Kd.R_mono HO282.out (fun _ hk => ⟨hk.1.2, hk.2⟩)⟩, ⟨by (with_reducible repeat (first | apply Kd.R_alloc | apply Kd.R_drewN | apply Kd.R_drew)); exact Kd.R_mono HO286.out (fun _ hk => ⟨hk.1.2, hk.2⟩)⟩, ⟨by (with_reducible repeat (first | apply Kd.R_alloc | apply Kd.R_drewN | apply Kd.R_drew)); exact Kd.R_mono HO289.out (fun _ hk => ⟨hk.1.2, hk.2⟩)⟩, ⟨bl7 HB⟩⟩
            · rw [if_neg c19] at H
              have c19b0 : decide (a1 < 65536) = false := decide_eq_false c19
              clear c19
              have H' := Aside0.mk H
              clear H
              go_wp2
              go_meet
              case rel => exact ⟨_, (true), (by first | rfl | (simp; done) | (simp [*]; done)), H', ⟨by first | omega | exact Nat.le_refl _⟩, ⟨by (with_reducible repeat (first | apply Kd.R_alloc | apply Kd.R_drewN | apply Kd.R_drew)); exact Kd.R_mono HO282.out (fun _ hk => ⟨hk.1.2, hk.2⟩)⟩, ⟨by (with_reducible repeat (first | apply Kd.R_alloc | apply Kd.R_drewN | apply Kd.R_drew)); exact Kd.R_mono HO286.out (fun _ hk => ⟨hk.1.2, hk.2⟩)⟩, ⟨by (with_reducible repeat (first | apply Kd.R_alloc | apply Kd.R_drewN | apply Kd.R_drew)); exact Kd.R_mono HO289.out (fun _ hk => ⟨hk.1.2, hk.2⟩)⟩, ⟨bl7 HB⟩⟩
          · rw [if_neg c18] at H
            have c18b0 : (t280 == 0) = false := beq_eq_false_iff_ne.mpr c18
            have c18b1 : (t280 != 0) = true := bne_iff_ne.mpr c18
            by_cases c25 : a1 < 65536
            · rw [if_pos c25] at H
              have c25b0 : decide (a1 < 65536) = true := decide_eq_true c25
              clear c25
              have H' := Aside0.mk H
              clear H
              go_wp2
              go_meet
              case rel => exact ⟨_, (true), (by first | rfl | (simp; done) | (simp [*]; done)), H', ⟨by first | omega | exact Nat.le_refl _⟩, ⟨by (with_reducible repeat (first | apply Kd.R_alloc | apply Kd.R_drewN | apply Kd.R_drew)); exact Kd.R_mono HO282.out (fun _ hk => ⟨hk.1.2, hk.2⟩)⟩, ⟨by (with_reducible repeat (first | apply Kd.R_alloc | apply Kd.R_drewN | apply Kd.R_drew)); exact Kd.R_mono HO286.out (fun _ hk => ⟨hk.1.2, hk.2⟩)⟩, ⟨by (with_reducible repeat (first | apply Kd.R_alloc | apply Kd.R_drewN | apply Kd.R_drew)); exact Kd.R_mono HO289.out (fun _ hk => ⟨hk.1.2, hk.2⟩)⟩, ⟨bl7 HB⟩⟩
            · rw [if_neg c25] at H
              have c25b0 : decide (a1 < 65536) = false := decide_eq_false c25
              clear c25
              by_cases c26 : a2 ≥ 0
              · rw [if_pos c26] at H
                have c26b0 : decide (0 ≤ a2) = true := decide_eq_true c26
                clear c26
                by_cases c27 : t284 = 0
                · rw [if_pos c27] at H
                  have c27b0 : (t284 == 0) = true := beq_iff_eq.mpr c27
                  have c27b1 : (t284 != 0) = false := bne_eq_false_iff_eq.mpr c27
                  clear c27
                  by_cases c28 : a2 < 4294967296
                  · rw [if_pos c28] at H
                    have c28b0 : decide (a2 < 4294967296) = true := decide_eq_true c28
                    clear c28
                    have H' := Aside0.mk H
                    clear H
                    go_wp2
                    go_meet
                    case rel => exact ⟨_, (false), (by first | rfl | (simp; done) | (simp [*]; done)), H', ⟨by first | omega | exact Nat.le_refl _⟩, ⟨by (with_reducible repeat (first | apply Kd.R_alloc | apply Kd.R_drewN | apply Kd.R_drew)); exact Kd.R_mono HO282.out (fun _ hk => ⟨hk.1.2, hk.2⟩)⟩, ⟨by (with_reducible repeat (first | apply Kd.R_alloc | apply Kd.R_drewN | apply Kd.R_drew)); exact Kd.R_mono HO286.out (fun _ hk => ⟨hk.1.2, hk.2⟩)⟩, ⟨by (with_reducible repeat (first | apply Kd.R_alloc | apply Kd.R_drewN | apply Kd.R_drew)); exact Kd.R_mono HO289.out (fun _ hk => ⟨hk.1.2, hk.2⟩)⟩, ⟨bl7 HB⟩⟩
                  · rw [if_neg c28] at H
                    have c28b0 : decide (a2 < 4294967296) = false := decide_eq_false c28
                    clear c28
                    have H' := Aside0.mk H
                    clear H
                    go_wp2
                    go_meet
                    case rel => exact ⟨_, (true), (by first | rfl | (simp; done) | (simp [*]; done)), H', ⟨by first | omega | exact Nat.le_refl _⟩, ⟨by (with_reducible repeat (first | apply Kd.R_alloc | apply Kd.R_drewN | apply Kd.R_drew)); exact Kd.R_mono HO282.out (fun _ hk => ⟨hk.1.2, hk.2⟩)⟩, ⟨by (with_reducible repeat (first | apply Kd.R_alloc | apply Kd.R_drewN | apply Kd.R_drew)); exact Kd.R_mono HO286.out (fun _ hk => ⟨hk.1.2, hk.2⟩)⟩, ⟨by (with_reducible repeat (first | apply Kd.R_alloc | apply Kd.R_drewN | apply Kd.R_drew)); exact Kd.R_mono HO289.out (fun _ hk => ⟨hk.1.2, hk.2⟩)⟩, ⟨bl7 HB⟩⟩
                · rw [if_neg c27] at H
                  have c27b0 : (t284 == 0) = false := beq_eq_false_iff_ne.mpr c27
                  have c27b1 : (t284 != 0) = true := bne_iff_ne.mpr c27
                  by_cases c29 : a2 < 4294967296
                  · rw [if_pos c29] at H
                    have c29b0 : decide (a2 < 4294967296) = true := decide_eq_true c29
                    clear c29
                    have H' := Aside0.mk H
                    clear H
                    go_wp2
                    go_meet
                    case rel => exact ⟨_, (true), (by first | rfl | (simp; done) | (simp [*]; done)), H', ⟨by first | omega | exact Nat.le_refl _⟩, ⟨by (with_reducible repeat (first | apply Kd.R_alloc | apply Kd.R_drewN | apply Kd.R_drew)); exact Kd.R_mono HO282.out (fun _ hk => ⟨hk.1.2, hk.2⟩)⟩, ⟨by (with_reducible repeat (first | apply Kd.R_alloc | apply Kd.R_drewN | apply Kd.R_drew)); exact Kd.R_mono HO286.out (fun _ hk => ⟨hk.1.2, hk.2⟩)⟩, ⟨by (with_reducible repeat (first | apply Kd.R_alloc | apply Kd.R_drewN | apply Kd.R_drew)); exact Kd.R_mono HO289.out (fun _ hk => ⟨hk.1.2, hk.2⟩)⟩, ⟨bl7 HB⟩⟩
                  · rw [if_neg c29] at H
                    have c29b0 : decide (a2 < 4294967296) = false := decide_eq_false c29
                    clear c29
                    have H' := Aside0.mk H
                    clear H
                    go_wp2
                    go_meet
                    case rel => exact ⟨_, (false), (by first | rfl | (simp; done) | (simp [*]; done)), H', ⟨by first | omega | exact Nat.le_refl _⟩, ⟨by (with_reducible repeat (first | apply Kd.R_alloc | apply Kd.R_drewN | apply Kd.R_drew)); exact Kd.R_mono HO282.out (fun _ hk => ⟨hk.1.2, hk.2⟩)⟩, ⟨by (with_reducible repeat (first | apply Kd.R_alloc | apply Kd.R_drewN | apply Kd.R_drew)); exact Kd.R_mono HO286.out (fun _ hk => ⟨hk.1.2, hk.2⟩)⟩, ⟨by (with_reducible repeat (first | apply Kd.R_alloc | apply Kd.R_drewN | apply Kd.R_drew)); exact Kd.R_mono HO289.out (fun _ hk => ⟨hk.1.2, hk.2⟩)⟩, ⟨bl7 HB⟩⟩
              · rw [if_neg c26] at H
                have c26b0 : decide (0 ≤ a2) = false := decide_eq_false c26
                clear c26
                by_cases c30 : t284 = 0
                · rw [if_pos c30] at H
                  have c30b0 : (t284 == 0) = true := beq_iff_eq.mpr c30
                  have c30b1 : (t284 != 0) = false := bne_eq_false_iff_eq.mpr c30
                  clear c30
                  have H' := Aside0.mk H
                  clear H
                  go_wp2
                  go_meet
                  case rel => exact ⟨_, (true), (by first | rfl | (simp; done) | (simp [*]; done)), H', ⟨by first | omega | exact Nat.le_refl _⟩, ⟨by (with_reducible repeat (first | apply Kd.R_alloc | apply Kd.R_drewN | apply Kd.R_drew)); exact Kd.R_mono HO282.out (fun _ hk => ⟨hk.1.2, hk.2⟩)⟩, ⟨by (with_reducible repeat (first | apply Kd.R_alloc | apply Kd.R_drewN | apply Kd.R_drew)); exact Kd.R_mono HO286.out (fun _ hk => ⟨hk.1.2, hk.2⟩)⟩, ⟨by (with_reducible repeat (first | apply Kd.R_alloc | apply Kd.R_drewN | apply Kd.R_drew)); exact Kd.R_mono HO289.out (fun _ hk => ⟨hk.1.2, hk.2⟩)⟩, ⟨bl7 HB⟩⟩
                · rw [if_neg c30] at H
                  have c30b0 : (t284 == 0) = false := beq_eq_false_iff_ne.mpr c30
                  have c30b1 : (t284 != 0) = true := bne_iff_ne.mpr c30
                  have H' := Aside0.mk H
                  clear H
                  go_wp2
                  go_meet
                  case rel => exact ⟨_, (false), (by first | rfl | (simp; done) | (simp [*]; done)), H', ⟨by first | omega | exact Nat.le_refl _⟩, ⟨by (with_reducible repeat (first | apply Kd.R_alloc | apply Kd.R_drewN | apply Kd.R_drew)); exact Kd.R_mono HO282.out (fun _ hk => ⟨hk.1.2, hk.2⟩)⟩, ⟨by (with_reducible repeat (first | apply Kd.R_alloc | apply Kd.R_drewN | apply Kd.R_drew)); exact Kd.R_mono HO286.out (fun _ hk => ⟨hk.1.2, hk.2⟩)⟩, ⟨by (with_reducible repeat (first | apply Kd.R_alloc | apply Kd.R_drewN | apply Kd.R_drew)); exact Kd.R_mono HO289.out (fun _ hk => ⟨hk.1.2, hk.2⟩)⟩, ⟨bl7 HB⟩⟩
        · rw [if_neg c17] at H
          have c17b0 : decide (0 ≤ a1) = false := decide_eq_false c17
          clear c17
          (first | rw [c17b0] | (simp only [i64_w, i32_w]; rw [c17b0]) | skip)
          by_cases c31 : t280 = 0
          · rw [if_pos c31] at H
            have c31b0 : (t280 == 0) = true := beq_iff_eq.mpr c31
            have c31b1 : (t280 != 0) = false := bne_eq_false_iff_eq.mpr c31
            clear c31
            have H' := Aside0.mk H
            clear H
            go_wp2
            go_meet
            case rel => exact ⟨_, (true), (by first | rfl | (simp; done) | (simp [*]; done)), H', ⟨by first | omega | exact Nat.le_refl _⟩, ⟨by (with_reducible repeat (first | apply Kd.R_alloc | apply Kd.R_drewN | apply Kd.R_drew)); exact Kd.R_mono HO282.out (fun _ hk => ⟨hk.1.2, hk.2⟩)⟩, ⟨by (with_reducible repeat (first | apply Kd.R_alloc | apply Kd.R_drewN | apply Kd.R_drew)); exact Kd.R_mono HO286.out (fun _ hk => ⟨hk.1.2, hk.2⟩)⟩, ⟨by (with_reducible repeat (first | apply Kd.R_alloc | apply Kd.R_drewN | apply Kd.R_drew)); exact Kd.R_mono HO289.out (fun _ hk => ⟨hk.1.2, hk.2⟩)⟩, ⟨bl7 HB⟩⟩
          · rw [if_neg c31] at H
            have c31b0 : (t280 == 0) = false := beq_eq_false_iff_ne.mpr c31
            have c31b1 : (t280 != 0) = true := bne_iff_ne.mpr c31
            by_cases c32 : a2 ≥ 0
            · rw [if_pos c32] at H
              have c32b0 : decide (0 ≤ a2) = true := decide_eq_true c32
              clear c32
              by_cases c33 : t284 = 0
              · rw [if_pos c33] at H
                have c33b0 : (t284 == 0) = true := beq_iff_eq.mpr c33
                have c33b1 : (t284 != 0) = false := bne_eq_false_iff_eq.mpr c33
                clear c33
                by_cases c34 : a2 < 4294967296
                · rw [if_pos c34] at H
                  have c34b0 : decide (a2 < 4294967296) = true := decide_eq_true c34
                  clear c34
                  have H' := Aside0.mk H
                  clear H
                  go_wp2
                  go_meet
                  case rel => exact ⟨_, (false), (by first | rfl | (simp; done) | (simp [*]; done)), H', ⟨by first | omega | exact Nat.le_refl _⟩, ⟨by (with_reducible repeat (first | apply Kd.R_alloc | apply Kd.R_drewN | apply Kd.R_drew)); exact Kd.R_mono HO282.out (fun _ hk => ⟨hk.1.2, hk.2⟩)⟩, ⟨by (with_reducible repeat (first | apply Kd.R_alloc | apply Kd.R_drewN | apply Kd.R_drew)); exact Kd.R_mono HO286.out (fun _ hk => ⟨hk.1.2, hk.2⟩)⟩, ⟨by (with_reducible repeat (first | apply Kd.R_alloc | apply Kd.R_drewN | apply Kd.R_drew)); exact Kd.R_mono HO289.out (fun _ hk => ⟨hk.1.2, hk.2⟩)⟩, ⟨bl7 HB⟩⟩
                · rw [if_neg c34] at H
                  have c34b0 : decide (a2 < 4294967296) = false := decide_eq_false c34
                  clear c34
                  have H' := Aside0.mk H
                  clear H
                  go_wp2
                  go_meet
                  case rel => exact ⟨_, (true), (by first | rfl | (simp; done) | (simp [*]; done)), H', ⟨by first | omega | exact Nat.le_refl _⟩, ⟨by (with_reducible repeat (first | apply Kd.R_alloc | apply Kd.R_drewN | apply Kd.R_drew)); exact Kd.R_mono HO282.out (fun _ hk => ⟨hk.1.2, hk.2⟩)⟩, ⟨by (with_reducible repeat (first | apply Kd.R_alloc | apply Kd.R_drewN | apply Kd.R_drew)); exact Kd.R_mono HO286.out (fun _ hk => ⟨hk.1.2, hk.2⟩)⟩, ⟨by (with_reducible repeat (first | apply Kd.R_alloc | apply Kd.R_drewN | apply Kd.R_drew)); exact Kd.R_mono HO289.out (fun _ hk => ⟨hk.1.2, hk.2⟩)⟩, ⟨bl7 HB⟩⟩
              · rw [if_neg c33] at H
                have c33b0 : (t284 == 0) = false := beq_eq_false_iff_ne.mpr c33
                have c33b1 : (t284 != 0) = true := bne_iff_ne.mpr c33
                by_cases c35 : a2 < 4294967296
                · rw [if_pos c35] at H
                  have c35b0 : decide (a2 < 4294967296) = true := decide_eq_true c35
                  clear c35
                  have H' := Aside0.mk H
                  clear H
                  go_wp2
                  go_meet
                  case rel => exact ⟨_, (true), (by first | rfl | (simp; done) | (simp [*]; done)), H', ⟨by first | omega | exact Nat.le_refl _⟩, ⟨by (with_reducible repeat (first | apply Kd.R_alloc | apply Kd.R_drewN | apply Kd.R_drew)); exact Kd.R_mono HO282.out (fun _ hk => ⟨hk.1.2, hk.2⟩)⟩, ⟨by (with_reducible repeat (first | apply Kd.R_alloc | apply Kd.R_drewN | apply Kd.R_drew)); exact Kd.R_mono HO286.out (fun _ hk => ⟨hk.1.2, hk.2⟩)⟩, ⟨by (with_reducible repeat (first | apply Kd.R_alloc | apply Kd.R_drewN | apply Kd.R_drew)); exact Kd.R_mono HO289.out (fun _ hk => ⟨hk.1.2, hk.2⟩)⟩, ⟨bl7 HB⟩⟩
                · rw [if_neg c35] at H
                  have c35b0 : decide (a2 < 4294967296) = false := decide_eq_false c35
                  clear c35
                  have H' := Aside0.mk H
                  clear H
                  go_wp2
                  go_meet
                  case rel => exact ⟨_, (false), (by first | rfl | (simp; done) | (simp [*]; done)), H', ⟨by first | omega | exact Nat.le_refl _⟩, ⟨by (with_reducible repeat (first | apply Kd.R_alloc | apply Kd.R_drewN | apply Kd.R_drew)); exact Kd.R_mono HO282.out (fun _ hk => ⟨hk.1.2, hk.2⟩)⟩, ⟨by (with_reducible repeat (first | apply Kd.R_alloc | apply Kd.R_drewN | apply Kd.R_drew)); exact Kd.R_mono HO286.out (fun _ hk => ⟨hk.1.2, hk.2⟩)⟩, ⟨by (with_reducible repeat (first | apply Kd.R_alloc | apply Kd.R_drewN | apply Kd.R_drew)); exact Kd.R_mono HO289.out (fun _ hk => ⟨hk.1.2, hk.2⟩)⟩, ⟨bl7 HB⟩⟩
            · rw [if_neg c32] at H
              have c32b0 : decide (0 ≤ a2) = false := decide_eq_false c32
              clear c32
              by_cases c36 : t284 = 0
              · rw [if_pos c36] at H
                have c36b0 : (t284 == 0) = true := beq_iff_eq.mpr c36
                have c36b1 : (t284 != 0) = false := bne_eq_false_iff_eq.mpr c36
                clear c36
                have H' := Aside0.mk H
                clear H
                go_wp2
                go_meet
                case rel => exact ⟨_, (true), (by first | rfl | (simp; done) | (simp [*]; done)), H', ⟨by first | omega | exact Nat.le_refl _⟩, ⟨by (with_reducible repeat (first | apply Kd.R_alloc | apply Kd.R_drewN | apply Kd.R_drew)); exact Kd.R_mono HO282.out (fun _ hk => ⟨hk.1.2, hk.2⟩)⟩, ⟨by (with_reducible repeat (first | apply Kd.R_alloc | apply Kd.R_drewN | apply Kd.R_drew)); exact Kd.R_mono HO286.out (fun _ hk => ⟨hk.1.2, hk.2⟩)⟩, ⟨by (with_reducible repeat (first | apply Kd.R_alloc | apply Kd.R_drewN | apply Kd.R_drew)); exact Kd.R_mono HO289.out (fun _ hk => ⟨hk.1.2, hk.2⟩)⟩, ⟨bl7 HB⟩⟩
              · rw [if_neg c36] at H
                have c36b0 : (t284 == 0) = false := beq_eq_false_iff_ne.mpr c36
                have c36b1 : (t284 != 0) = true := bne_iff_ne.mpr c36
                have H' := Aside0.mk H
                clear H
                go_wp2
                go_meet
                case rel => exact ⟨_, (false), (by first | rfl | (simp; done) | (simp [*]; done)), H', ⟨by first | omega | exact Nat.le_refl _⟩, ⟨by (with_reducible repeat (first | apply Kd.R_alloc | apply Kd.R_drewN | apply Kd.R_drew)); exact Kd.R_mono HO282.out (fun _ hk => ⟨hk.1.2, hk.2⟩)⟩, ⟨by (with_reducible repeat (first | apply Kd.R_alloc | apply Kd.R_drewN | apply Kd.R_drew)); exact Kd.R_mono HO286.out (fun _ hk => ⟨hk.1.2, hk.2⟩)⟩, ⟨by (with_reducible repeat (first | apply Kd.R_alloc | apply Kd.R_drewN | apply Kd.R_drew)); exact Kd.R_mono HO289.out (fun _ hk => ⟨hk.1.2, hk.2⟩)⟩, ⟨bl7 HB⟩⟩
      case rest =>
        clear HC12
        try clear c1
        try clear c2
        try clear p2
        try clear c3
        try clear c6
        try clear c7
        try clear c7b0
        try clear c7b1
        try clear c8
        try clear c17
        try clear c17b0
        try clear c18
        try clear c18b0
        try clear c18b1
        try clear c19
        try clear c19b0
        try clear c20
        try clear c20b0
        try clear c21
        try clear c21b0
        try clear c21b1
        try clear c22
        try clear c22b0
        try clear c23
        try clear c23b0
        try clear c24
        try clear c24b0
        try clear c24b1
        try clear c25
        try clear c25b0
        try clear c26
        try clear c26b0
        try clear c27
        try clear c27b0
        try clear c27b1
        try clear c28
        try clear c28b0
        try clear c29
        try clear c29b0
        try clear c30
        try clear c30b0
        try clear c30b1
        try clear c31
        try clear c31b0
        try clear c31b1
        try clear c32
        try clear c32b0
        try clear c33
        try clear c33b0
        try clear c33b1
        try clear c34
        try clear c34b0
        try clear c35
        try clear c35b0
        try clear c36
        try clear c36b0
        try clear c36b1
        obtain ⟨kq, x62_11, rfl, HA, HJ11, HO_9, HO_11, HO_13, HB⟩ := hcut
        cases kq with
        | zero => exact absurd HA.out (by simp [cashbooklaw3_LeWrites.j0])
        | succ kj11 =>
          have H := HA.out
          clear HA
          simp only [cashbooklaw3_LeWrites.j0] at H
          by_cases c37 : x62_11 = true
          · subst c37
            have H1 : (none) = some r := by rw [if_pos rfl] at H; exact H
            clear H
            have H := H1
            clear H1
            exact absurd H (by simp)
          · replace c37 := Bool.eq_false_iff.mpr c37
            subst c37
            have H1 : (if t280 = 0 then ((le_U16.f kj11 t279 (l0.length : Int)).bind fun bt290 => (if bt290.2.2.2 = 0 then (if bt290.1 = a1 then ((le_End.f kj11 bt290.2.1 bt290.2.2.1).bind fun t297 => (if t297 = 0 then ((cashbookref7_PutLow.f kj11 l0 (IntKind.u64.wrap (a1)) 2).bind fun t298 => (if (strOfNums t279).toList = (strOfNums t298).toList then (cashbooklaw3_LeWrites.j1 kj11 l0 a2 a3 t283 t284 t287) else (none))) else (none))) else (none)) else (none))) else (if t280 = 1 then (if (strOfNums t279).toList = (strOfNums l0).toList then (cashbooklaw3_LeWrites.j1 kj11 l0 a2 a3 t283 t284 t287) else (none)) else (none))) = some r := by rw [if_neg (show ¬ (false = true) by decide)] at H; exact H
            clear H
            have H := H1
            clear H1
            have HC38 := Aside0.mk H
            clear H
            go_upto_if 64 with (fail)
            go_cut [] (fun wc => ∃ (kq : Nat), Aside0 (cashbooklaw3_LeWrites.j1 kq l0 a2 a3 t283 t284 t287 = some r) ∧ Aside0 (kq ≤ kj11) ∧ Aside0 (Kd.R (Kd.int .u8) 5 wc w.heap.size (fun k_ => some k_ ≠ (v288 : Value).ownBlock) v285 t283) ∧ Aside0 (Kd.R (Kd.int .u8) 5 wc w.heap.size (fun k_ => some k_ ≠ (v285 : Value).ownBlock) v288 t287) ∧ Aside0 (Below w.heap.size w wc))
            case first =>
              have H := HC38.out
              clear HC38
              by_cases c39 : t280 = 0
              · rw [if_pos c39] at H
                have c39b0 : (t280 == 0) = true := beq_iff_eq.mpr c39
                have c39b1 : (t280 != 0) = false := bne_eq_false_iff_eq.mpr c39
                clear c39
                (first | rw [c39b0] | (simp only [i64_w, i32_w]; rw [c39b0]) | skip)
                replace H := Option.bind_eq_some_iff.mp H
                obtain ⟨⟨t290, t291, t294, t295⟩, A400, H⟩ := H
                replace H : (if t295 = 0 then (if t290 = a1 then ((le_End.f kj11 t291 t294).bind fun t297 => (if t297 = 0 then ((cashbookref7_PutLow.f kj11 l0 (IntKind.u64.wrap (a1)) 2).bind fun t298 => (if (strOfNums t279).toList = (strOfNums t298).toList then (cashbooklaw3_LeWrites.j1 kj11 l0 a2 a3 t283 t284 t287) else (none))) else (none))) else (none)) else (none)) = some r := H
                have A40 := Aside0.mk A400
                clear A400
                by_cases c41 : t295 = 0
                · rw [if_pos c41] at H
                  have c41b0 : (t295 == 0) = true := beq_iff_eq.mpr c41
                  have c41b1 : (t295 != 0) = false := bne_eq_false_iff_eq.mpr c41
                  clear c41
                  by_cases c42 : t290 = a1
                  · rw [if_pos c42] at H
                    have c42b0 : (t290 == a1) = true := beq_iff_eq.mpr c42
                    have c42b1 : (t290 != a1) = false := bne_eq_false_iff_eq.mpr c42
                    clear c42
                    replace H := Option.bind_eq_some_iff.mp H
                    obtain ⟨t297, A430, H⟩ := H
                    replace H : (if t297 = 0 then ((cashbookref7_PutLow.f kj11 l0 (IntKind.u64.wrap (a1)) 2).bind fun t298 => (if (strOfNums t279).toList = (strOfNums t298).toList then (cashbooklaw3_LeWrites.j1 kj11 l0 a2 a3 t283 t284 t287) else (none))) else (none)) = some r := H
                    have A43 := Aside0.mk A430
                    clear A430
                    by_cases c44 : t297 = 0
                    · rw [if_pos c44] at H
                      have c44b0 : (t297 == 0) = true := beq_iff_eq.mpr c44
                      have c44b1 : (t297 != 0) = false := bne_eq_false_iff_eq.mpr c44
                      clear c44
                      replace H := Option.bind_eq_some_iff.mp H
                      obtain ⟨t298, A450, H⟩ := H
                      replace H : (if (strOfNums t279).toList = (strOfNums t298).toList then (cashbooklaw3_LeWrites.j1 kj11 l0 a2 a3 t283 t284 t287) else (none)) = some r := H
                      have A45 := Aside0.mk A450
                      clear A450
                      by_cases c46 : (strOfNums t279).toList = (strOfNums t298).toList
                      · rw [if_pos c46] at H
                        have c46b0 : ((strOfNums t279).toList == (strOfNums t298).toList) = true := beq_iff_eq.mpr c46
                        have c46b1 : ((strOfNums t279).toList != (strOfNums t298).toList) = false := bne_eq_false_iff_eq.mpr c46
                        clear c46
                        have H' := Aside0.mk H
                        clear H
                        obtain ⟨Ao47, co47, eo47⟩ := Kd.R_slice HO_9.out
                        subst eo47
                        try go_wp2_with (first | ((with_reducible refine gate_callee (f := 26) rfl ?_); refine goesL_ (some 70) rfl rfl Try.func26 (by kernel_rfl) rfl #[.agg #[.slice Ao47 t279.length co47, .int .i64 (l0.length : Int)]] rfl (by (try simp only [List.map_toArray, List.map_cons, List.map_nil]); first | done | rfl | (simp only [List.length_drop, List.length_take]; rfl)) ?_; (with_reducible refine (le_U16.calls kj11 (fun k_ => some k_ = (.slice Ao47 t279.length co47 : Value).ownBlock) _ _ t279 (l0.length : Int) t290 t291 t294 t295 _ ?side1 A40.out).mono ?_); (case side1 => exact Kd.R_V (Kd.R_tight rfl (HO_9.out))); rintro e w48 ⟨v292, rfl, ho0, hb⟩; refine ⟨_, rfl, ?_⟩; have n0_ := rb7 HO_9 hb; have n1_ := rb7 HO_11 hb; have n2_ := rb7 HO_13 hb; have n3_ := Aside0.mk (Kd.V_lower (Kd.V_mono (ok' := fun k_ => some k_ ≠ (v285 : Value).ownBlock ∧ some k_ ≠ (v288 : Value).ownBlock) ho0 (fun k_ hk_ => ⟨Or.elim hk_ (fun hs_ => ((HO_9.out).1 k_ hs_.symm).1) (fun hn_ => (Kd.fresh' (Kd.R_lt (rq7 HO_11)) k_ hn_)), Or.elim hk_ (fun hs_ => ((HO_9.out).1 k_ hs_.symm).2) (fun hn_ => (Kd.fresh' (Kd.R_lt (rq7 HO_13)) k_ hn_))⟩)) (below_size (bl7 HB))); have n4_ := Aside0.mk (below_step (bl7 HB) hb); clear HO_9; clear HO_11; clear HO_13; clear HB; have HO_9 := n0_; have HO_11 := n1_; have HO_13 := n2_; have HO293 := n3_; have HB := n4_; clear n0_ n1_ n2_ n3_ n4_; (try clear hb); (try clear hb2); (try clear hk); (try clear hi); (try clear ho0)) | ((with_reducible refine gate_dst (N := 15) rfl ?_); refine box_event ?hg (N := 15) ?hd (cs := #[.slice none 0 0, .int .i64 0]) (t := 46) ?hr ?_; (case hd => rfl); (case hg => rfl); (case hr => first | (go_simp; done) | (go_simp; rfl)); intro gb296 hg w49 hbox hb; have n0_ := rb7 HO_9 hb; have n1_ := rb7 HO_11 hb; have n2_ := rb7 HO_13 hb; have n3_ := Aside0.mk (Kd.V_below (Kd.V_elderB (vq7 HO293) gb296 (Nat.le_of_eq hg.symm)) hb); have n4_ := Aside0.mk (below_step (bl7 HB) hb); have n5_ := Aside0.mk (hbox); have n6_ := Aside0.mk ((by rw [hg]; exact (below_size (bl7 HB)) : w.heap.size ≤ gb296)); have n7_ := Aside0.mk ((by rw [hg]; exact (below_size (bl7 HB)) : w.heap.size ≤ gb296)); clear HO_9; clear HO_11; clear HO_13; clear HO293; clear HB; have HO_9 := n0_; have HO_11 := n1_; have HO_13 := n2_; have HO293 := n3_; have HB := n4_; have BK296 := n5_; have GW296 := n6_; have GE296 := n7_; clear n0_ n1_ n2_ n3_ n4_ n5_ n6_ n7_; clear hb hbox hg; obtain ⟨Ao50, co50, eo50⟩ := Kd.V_slice HO293.out; subst eo50; have hcz51_0 : w49.cell? ⟨gb296, 0, none⟩ = some (.slice none 0 0) := (blk_cell BK296.out 0).trans rfl; have hcz51_1 : w49.cell? ⟨gb296, 1, none⟩ = some (.int .i64 0) := (blk_cell BK296.out 1).trans rfl; have hfz51_0 := blk_frozen BK296.out 0; have hfz51_1 := blk_frozen BK296.out 1))
                        have n0_ : Aside0 (Kd.R (Kd.int .u8) 5 ((w49.setCell ⟨gb296, 0, none⟩ (.slice Ao50 t291.length co50)).setCell ⟨gb296, 1, none⟩ (.int .i64 t294)) w.heap.size (fun k_ => some k_ ≠ (v285 : Value).ownBlock ∧ some k_ ≠ (v288 : Value).ownBlock) (.slice Ao47 t279.length co47) t279) := ⟨by (with_reducible repeat (first | apply Kd.R_alloc | apply Kd.R_drewN | apply Kd.R_drew)); exact Kd.R_mono (Kd.R_far (p := ⟨gb296, 1, none⟩) (Kd.R_far (p := ⟨gb296, 0, none⟩) (Kd.R_types HO_9.out BK296.out (by decide)) (fun _ hk => hk.2) (.slice Ao50 t291.length co50)) (fun _ hk => hk.2) (.int .i64 t294)) (fun _ hk => ⟨hk.1.1, hk.1.2⟩)⟩
                        have n1_ : Aside0 (Kd.R (Kd.int .u8) 5 ((w49.setCell ⟨gb296, 0, none⟩ (.slice Ao50 t291.length co50)).setCell ⟨gb296, 1, none⟩ (.int .i64 t294)) w.heap.size (fun k_ => some k_ ≠ (.slice Ao47 t279.length co47 : Value).ownBlock ∧ some k_ ≠ (v288 : Value).ownBlock) v285 t283) := ⟨by (with_reducible repeat (first | apply Kd.R_alloc | apply Kd.R_drewN | apply Kd.R_drew)); exact Kd.R_mono (Kd.R_far (p := ⟨gb296, 1, none⟩) (Kd.R_far (p := ⟨gb296, 0, none⟩) (Kd.R_types HO_11.out BK296.out (by decide)) (fun _ hk => hk.2) (.slice Ao50 t291.length co50)) (fun _ hk => hk.2) (.int .i64 t294)) (fun _ hk => ⟨hk.1.1, hk.1.2⟩)⟩
                        have n2_ : Aside0 (Kd.R (Kd.int .u8) 5 ((w49.setCell ⟨gb296, 0, none⟩ (.slice Ao50 t291.length co50)).setCell ⟨gb296, 1, none⟩ (.int .i64 t294)) w.heap.size (fun k_ => some k_ ≠ (.slice Ao47 t279.length co47 : Value).ownBlock ∧ some k_ ≠ (v285 : Value).ownBlock) v288 t287) := ⟨by (with_reducible repeat (first | apply Kd.R_alloc | apply Kd.R_drewN | apply Kd.R_drew)); exact Kd.R_mono (Kd.R_far (p := ⟨gb296, 1, none⟩) (Kd.R_far (p := ⟨gb296, 0, none⟩) (Kd.R_types HO_13.out BK296.out (by decide)) (fun _ hk => hk.2) (.slice Ao50 t291.length co50)) (fun _ hk => hk.2) (.int .i64 t294)) (fun _ hk => ⟨hk.1.1, hk.1.2⟩)⟩
                        have n3_ : Aside0 (Kd.V (Kd.int .u8) 5 ((w49.setCell ⟨gb296, 0, none⟩ (.slice Ao50 t291.length co50)).setCell ⟨gb296, 1, none⟩ (.int .i64 t294)) w.heap.size (fun k_ => some k_ ≠ (v285 : Value).ownBlock ∧ some k_ ≠ (v288 : Value).ownBlock ∧ k_ ≠ gb296) (.slice Ao50 t291.length co50) t291) := ⟨by (with_reducible repeat (first | apply Kd.V_alloc | apply Kd.V_drewN | apply Kd.V_drew)); exact Kd.V_mono (Kd.V_far (p := ⟨gb296, 1, none⟩) (Kd.V_far (p := ⟨gb296, 0, none⟩) (Kd.V_mono HO293.out (fun k_ hk => (⟨hk, hk.2⟩ : _ ∧ k_ ≠ gb296))) (fun _ hk => hk.2) (.slice Ao50 t291.length co50)) (fun _ hk => hk.2) (.int .i64 t294)) (fun _ hk => ⟨hk.1.1.1, ⟨hk.1.1.2, hk.1.2⟩⟩)⟩
                        have n4_ : Aside0 (((w49.setCell ⟨gb296, 0, none⟩ (.slice Ao50 t291.length co50)).setCell ⟨gb296, 1, none⟩ (.int .i64 t294)).heap[gb296]? = some (.cells #[.slice Ao50 t291.length co50, .int .i64 t294] 46 (0, 0))) := ⟨by (with_reducible repeat (first | refine blk_drewN ?_ _ | refine blk_drew ?_ | refine blk_alloc ?_ _)); refine blk_put (cs := #[.slice Ao50 t291.length co50, .int .i64 0]) ?_ 1 _ rfl; (with_reducible repeat (first | refine blk_drewN ?_ _ | refine blk_drew ?_ | refine blk_alloc ?_ _)); refine blk_put (cs := #[.slice none 0 0, .int .i64 0]) ?_ 0 _ rfl; (with_reducible repeat (first | refine blk_drewN ?_ _ | refine blk_drew ?_ | refine blk_alloc ?_ _)); exact BK296.out⟩
                        have n5_ : Aside0 (Below w.heap.size w ((w49.setCell ⟨gb296, 0, none⟩ (.slice Ao50 t291.length co50)).setCell ⟨gb296, 1, none⟩ (.int .i64 t294))) := ⟨bl7 HB⟩
                        (try clear HO_9)
                        (try clear HO_11)
                        (try clear HO_13)
                        (try clear HO293)
                        (try clear BK296)
                        (try clear HB)
                        generalize ((w49.setCell ⟨gb296, 0, none⟩ (.slice Ao50 t291.length co50)).setCell ⟨gb296, 1, none⟩ (.int .i64 t294)) = w52 at n0_ n1_ n2_ n3_ n4_ n5_ ⊢
                        have HO_9 := n0_
                        have HO_11 := n1_
                        have HO_13 := n2_
                        have HO293 := n3_
                        have BK296 := n4_
                        have HB := n5_
                        clear n0_ n1_ n2_ n3_ n4_ n5_
                        have n0_ := Aside0.mk (Kd.R_drew HO_9.out)
                        have n1_ := Aside0.mk (Kd.R_drew HO_11.out)
                        have n2_ := Aside0.mk (Kd.R_drew HO_13.out)
                        have n3_ := Aside0.mk (Kd.V_drew HO293.out)
                        have n4_ := Aside0.mk (blk_drew BK296.out)
                        have n5_ := Aside0.mk (below_drew1 HB.out)
                        clear HO_9
                        clear HO_11
                        clear HO_13
                        clear HO293
                        clear BK296
                        clear HB
                        have HO_9 := n0_
                        have HO_11 := n1_
                        have HO_13 := n2_
                        have HO293 := n3_
                        have BK296 := n4_
                        have HB := n5_
                        clear n0_ n1_ n2_ n3_ n4_ n5_
                        refine start_ (n := 22) (S := fun w' => w'.cell? ⟨gb296, 0, none⟩ = some (.slice Ao50 t291.length co50) ∧ w'.cell? ⟨gb296, 1, none⟩ = some (.int .i64 t294)) (ds := []) #[false, false, false, false, false, false, false, false, false, false, false, false, false, false, false, false, false, false, false, false, false, false] (by kernel_rfl) rfl rfl ⟨(blk_cell BK296.out 0).trans rfl, (blk_cell BK296.out 1).trans rfl⟩ (fun hHeld => ?_); refine with_tabW cashbooklaw3_LeWrites.tab12 cashbooklaw3_LeWrites.bits12 (fun HT_ HW_ => ?_)
                        generalize w52.drew = w53 at HO_9 HO_11 HO_13 HO293 BK296 HB hHeld ⊢
                        refine pure_ (i := 0) (N := some 74) (v := ?_) (a' := ?_) #[true, false, false, false, false, false, false, false, false, false, false, false, false, false, false, false, false, false, false, false, false, false] rfl rfl (any_of HT_.out (by kernel_rfl)) (fun _ _ _ h => h) (Or.inl ⟨by rfl, ?_⟩) ?_ ?_
                        rotate_left
                        · intro w'
                          go_simp
                          with_reducible rfl
                        rotate_left
                        · simp only [Act.put, List.setIfInBounds_toArray, List.set_cons_zero, List.set_cons_succ, i64_w, i32_w]
                          rfl
                        refine pure_ (i := 1) (N := some 75) (v := ?_) (a' := ?_) #[true, true, false, false, false, false, false, false, false, false, false, false, false, false, false, false, false, false, false, false, false, false] rfl rfl (any_of HT_.out (by kernel_rfl)) (fun _ _ _ h => h) (Or.inl ⟨by rfl, ?_⟩) ?_ ?_
                        rotate_left
                        · intro w'
                          go_simp
                          with_reducible rfl
                        rotate_left
                        · simp only [Act.put, List.setIfInBounds_toArray, List.set_cons_zero, List.set_cons_succ, i64_w, i32_w]
                          rfl
                        refine pure_ (i := 2) (N := some 76) (v := ?_) (a' := ?_) #[true, true, true, false, false, false, false, false, false, false, false, false, false, false, false, false, false, false, false, false, false, false] rfl rfl (any_of HT_.out (by kernel_rfl)) (fun _ _ _ h => h) (Or.inl ⟨by rfl, ?_⟩) ?_ ?_
                        rotate_left
                        · intro w'
                          go_simp
                          with_reducible rfl
                        rotate_left
                        · simp only [Act.put, List.setIfInBounds_toArray, List.set_cons_zero, List.set_cons_succ, i64_w, i32_w]
                          rfl
                        refine pure_ (i := 3) (N := some 77) (v := ?_) (a' := ?_) #[true, true, true, true, false, false, false, false, false, false, false, false, false, false, false, false, false, false, false, false, false, false] rfl rfl (any_of HT_.out (by kernel_rfl)) (fun _ _ _ h => h) (Or.inl ⟨by rfl, ?_⟩) ?_ ?_
                        rotate_left
                        · intro w'
                          go_simp
                          with_reducible rfl
                        rotate_left
                        · simp only [Act.put, List.setIfInBounds_toArray, List.set_cons_zero, List.set_cons_succ, i64_w, i32_w]
                          rfl
                        refine pure_ (i := 4) (N := some 78) (v := ?_) (a' := ?_) #[true, true, true, true, true, false, false, false, false, false, false, false, false, false, false, false, false, false, false, false, false, false] rfl rfl (any_of HT_.out (by kernel_rfl)) (fun _ _ _ h => h) (Or.inl ⟨by rfl, ?_⟩) ?_ ?_
                        rotate_left
                        · intro w'
                          go_simp
                          with_reducible rfl
                        rotate_left
                        · simp only [Act.put, List.setIfInBounds_toArray, List.set_cons_zero, List.set_cons_succ, i64_w, i32_w]
                          rfl
                        refine pure_ (i := 5) (N := some 79) (v := ?_) (a' := ?_) #[true, true, true, true, true, true, false, false, false, false, false, false, false, false, false, false, false, false, false, false, false, false] rfl rfl (any_of HT_.out (by kernel_rfl)) (fun _ _ _ h => h) (Or.inl ⟨by rfl, ?_⟩) ?_ ?_
                        rotate_left
                        · intro w'
                          go_simp
                          with_reducible rfl
                        rotate_left
                        · simp only [Act.put, List.setIfInBounds_toArray, List.set_cons_zero, List.set_cons_succ, i64_w, i32_w]
                          rfl
                        refine pure_ (i := 6) (N := some 80) (v := ?_) (a' := ?_) #[true, true, true, true, true, true, true, false, false, false, false, false, false, false, false, false, false, false, false, false, false, false] rfl rfl (any_of HT_.out (by kernel_rfl)) (fun _ _ _ h => h) (Or.inl ⟨by rfl, ?_⟩) ?_ ?_
                        rotate_left
                        · intro w'
                          go_simp
                          with_reducible rfl
                        rotate_left
                        · simp only [Act.put, List.setIfInBounds_toArray, List.set_cons_zero, List.set_cons_succ, i64_w, i32_w]
                          rfl
                        refine pure_ (i := 7) (N := some 81) (v := ?_) (a' := ?_) #[true, true, true, true, true, true, true, true, false, false, false, false, false, false, false, false, false, false, false, false, false, false] rfl rfl (any_of HT_.out (by kernel_rfl)) (fun _ _ _ h => h) (Or.inl ⟨by rfl, ?_⟩) ?_ ?_
                        rotate_left
                        · intro w'
                          go_simp
                          with_reducible rfl
                        rotate_left
                        · simp only [Act.put, List.setIfInBounds_toArray, List.set_cons_zero, List.set_cons_succ, i64_w, i32_w]
                          rfl
                        refine take_ (i := 8) (N := some 82) (v := ?_) (a' := ?_) #[true, true, true, true, true, true, true, true, true, false, false, false, false, false, false, false, false, false, false, false, false, false] rfl rfl (take_ofW HT_.out HW_.out (by kernel_rfl)) (fun _ _ _ h => h) (Or.inl ⟨by rfl, ?_⟩) hHeld ?_ ?_
                        rotate_left
                        · rintro w' ⟨s0, s1⟩
                          go_simp
                          with_reducible rfl
                        rotate_left
                        · simp only [Act.put, List.setIfInBounds_toArray, List.set_cons_zero, List.set_cons_succ, i64_w, i32_w]
                          rfl
                        refine one_ (i := 9) (N := some 83) #[true, true, true, true, true, true, true, true, true, true, false, false, false, false, false, false, false, false, false, false, false, false] rfl rfl (one_of HT_.out (by kernel_rfl)) (by decide) (fun K hK => ?_)
                        refine goes_ Try.func31 (by kernel_rfl) rfl #[.agg #[.slice Ao50 t291.length co50, .int .i64 t294]] (by rfl) rfl rfl (by (try simp only [List.map_toArray, List.map_cons, List.map_nil]); first | done | rfl | (simp only [List.length_drop, List.length_take]; rfl)) ?_
                        with_reducible refine (le_End.calls kj11 _ _ t291 t294 t297 _ ?side1 ?side2 A43.out).mono ?_
                        (case side1 => repeat (first | exact (Kd.V_reads' HO293.out).2.2 | (with_reducible refine Kd.C_alloc ?_ _) | (with_reducible refine Kd.C_drewN ?_ _) | (with_reducible refine Kd.C_drew ?_)))
                        (case side2 => exact (Kd.V_reads' HO293.out).2.1)
                        rintro e w54 ⟨rfl, hb⟩
                        refine ⟨_, rfl, ?_⟩
                        have n0_ := rb7 HO_9 hb
                        have n1_ := rb7 HO_11 hb
                        have n2_ := rb7 HO_13 hb
                        have n3_ := vb7 HO293 hb
                        have n4_ := bk7 BK296 hb
                        have n5_ := Aside0.mk (below_step (bl7 HB) hb)
                        clear HO_9
                        clear HO_11
                        clear HO_13
                        clear HO293
                        clear BK296
                        clear HB
                        have HO_9 := n0_
                        have HO_11 := n1_
                        have HO_13 := n2_
                        have HO293 := n3_
                        have BK296 := n4_
                        have HB := n5_
                        clear n0_ n1_ n2_ n3_ n4_ n5_
                        (try clear hb)
                        (try clear hb2)
                        (try clear hk)
                        (try clear hi)
                        refine hK.out _ _ ⟨(blk_cell BK296.out 0).trans rfl, (blk_cell BK296.out 1).trans rfl⟩ (fun hHeld => ?_)
                        clear hK K
                        refine norm_ (a' := ?_) ?_ ?_
                        rotate_left
                        · show Act.put _ (some 83) _ = _
                          simp only [Act.put, List.setIfInBounds_toArray, List.set_cons_zero, List.set_cons_succ, i64_w, i32_w]
                          rfl
                        refine pure_ (i := 10) (N := some 84) (v := ?_) (a' := ?_) #[true, true, true, true, true, true, true, true, true, true, true, false, false, false, false, false, false, false, false, false, false, false] rfl rfl (any_of HT_.out (by kernel_rfl)) (fun _ _ _ h => h) (Or.inl ⟨by rfl, ?_⟩) ?_ ?_
                        rotate_left
                        · intro w'
                          go_simp
                          with_reducible rfl
                        rotate_left
                        · simp only [Act.put, List.setIfInBounds_toArray, List.set_cons_zero, List.set_cons_succ, i64_w, i32_w]
                          rfl
                        refine pure_ (i := 11) (N := some 85) (v := ?_) (a' := ?_) #[true, true, true, true, true, true, true, true, true, true, true, true, false, false, false, false, false, false, false, false, false, false] rfl rfl (any_of HT_.out (by kernel_rfl)) (fun _ _ _ h => h) (Or.inl ⟨by rfl, ?_⟩) ?_ ?_
                        rotate_left
                        · intro w'
                          go_simp
                          with_reducible rfl
                        rotate_left
                        · simp only [Act.put, List.setIfInBounds_toArray, List.set_cons_zero, List.set_cons_succ, i64_w, i32_w]
                          rfl
                        refine pure_ (i := 12) (N := some 86) (v := ?_) (a' := ?_) #[true, true, true, true, true, true, true, true, true, true, true, true, true, false, false, false, false, false, false, false, false, false] rfl rfl (any_of HT_.out (by kernel_rfl)) (fun _ _ _ h => h) (Or.inl ⟨by rfl, ?_⟩) ?_ ?_
                        rotate_left
                        · intro w'
                          go_simp
                          with_reducible rfl
                        rotate_left
                        · simp only [Act.put, List.setIfInBounds_toArray, List.set_cons_zero, List.set_cons_succ, i64_w, i32_w]
                          rfl
                        refine pure_ (i := 13) (N := some 87) (v := ?_) (a' := ?_) #[true, true, true, true, true, true, true, true, true, true, true, true, true, true, false, false, false, false, false, false, false, false] rfl rfl (any_of HT_.out (by kernel_rfl)) (fun _ _ _ h => h) (Or.inl ⟨by rfl, ?_⟩) ?_ ?_
                        rotate_left
                        · intro w'
                          go_simp
                          with_reducible rfl
                        rotate_left
                        · simp only [Act.put, List.setIfInBounds_toArray, List.set_cons_zero, List.set_cons_succ, i64_w, i32_w]
                          rfl
                        refine pure_ (i := 15) (N := some 89) (v := ?_) (a' := ?_) #[true, true, true, true, true, true, true, true, true, true, true, true, true, true, false, true, false, false, false, false, false, false] rfl rfl (any_of HT_.out (by kernel_rfl)) (fun _ _ _ h => h) (Or.inl ⟨by rfl, ?_⟩) ?_ ?_
                        rotate_left
                        · intro w'
                          go_simp
                          with_reducible rfl
                        rotate_left
                        · simp only [Act.put, List.setIfInBounds_toArray, List.set_cons_zero, List.set_cons_succ, i64_w, i32_w]
                          rfl
                        refine pure_ (i := 16) (N := some 90) (v := ?_) (a' := ?_) #[true, true, true, true, true, true, true, true, true, true, true, true, true, true, false, true, true, false, false, false, false, false] rfl rfl (any_of HT_.out (by kernel_rfl)) (fun _ _ _ h => h) (Or.inl ⟨by rfl, ?_⟩) ?_ ?_
                        rotate_left
                        · intro w'
                          go_simp
                          with_reducible rfl
                        rotate_left
                        · simp only [Act.put, List.setIfInBounds_toArray, List.set_cons_zero, List.set_cons_succ, i64_w, i32_w]
                          rfl
                        refine pure_ (i := 17) (N := some 91) (v := ?_) (a' := ?_) #[true, true, true, true, true, true, true, true, true, true, true, true, true, true, false, true, true, true, false, false, false, false] rfl rfl (any_of HT_.out (by kernel_rfl)) (fun _ _ _ h => h) (Or.inl ⟨by rfl, ?_⟩) ?_ ?_
                        rotate_left
                        · intro w'
                          go_simp
                          with_reducible rfl
                        rotate_left
                        · simp only [Act.put, List.setIfInBounds_toArray, List.set_cons_zero, List.set_cons_succ, i64_w, i32_w]
                          rfl
                        refine join_ (σ := Value) 2 #[true, true, true, true, true, true, true, true, true, true, true, true, true, true, true, true, true, true, true, true, false, false] (fun s_ => [(88, .string (strOfNums t279)), (92, s_), (93, .string (strOfNums t298))]) (fun s_ w' => (w'.cell? ⟨gb296, 0, none⟩ = some (.slice Ao50 t291.length co50) ∧ w'.cell? ⟨gb296, 1, none⟩ = some (.int .i64 t294)) ∧ (Kd.V (Kd.int .u8) 5 w' w.heap.size (fun k_ => some k_ ≠ (s_ : Value).ownBlock ∧ some k_ ≠ (v285 : Value).ownBlock ∧ some k_ ≠ (v288 : Value).ownBlock ∧ k_ ≠ gb296) (.slice Ao50 t291.length co50) t291) ∧ (Kd.R (Kd.int .u8) 5 w' w.heap.size (fun k_ => some k_ ≠ (v285 : Value).ownBlock ∧ some k_ ≠ (v288 : Value).ownBlock ∧ some k_ ≠ (.slice Ao47 t279.length co47 : Value).ownBlock) s_ t298) ∧ (Kd.R (Kd.int .u8) 5 w' w.heap.size (fun k_ => some k_ ≠ (s_ : Value).ownBlock ∧ some k_ ≠ (v288 : Value).ownBlock ∧ some k_ ≠ (.slice Ao47 t279.length co47 : Value).ownBlock) v285 t283) ∧ (Kd.R (Kd.int .u8) 5 w' w.heap.size (fun k_ => some k_ ≠ (s_ : Value).ownBlock ∧ some k_ ≠ (v285 : Value).ownBlock ∧ some k_ ≠ (.slice Ao47 t279.length co47 : Value).ownBlock) v288 t287) ∧ (Kd.R (Kd.int .u8) 5 w' w.heap.size (fun k_ => some k_ ≠ (s_ : Value).ownBlock ∧ some k_ ≠ (v285 : Value).ownBlock ∧ some k_ ≠ (v288 : Value).ownBlock) (.slice Ao47 t279.length co47) t279) ∧ (w'.heap[gb296]? = some (.cells #[.slice Ao50 t291.length co50, .int .i64 t294] 46 (0, 0))) ∧ (Below w.heap.size w w')) ?_ ?_
                        rotate_left
                        · intro hCont
                          refine two_ (i := 14) (j := 18) (Ni := some 88) (Nj := some 92) #[true, true, true, true, true, true, true, true, true, true, true, true, true, true, true, true, true, true, false, false, false, false] #[true, true, true, true, true, true, true, true, true, true, true, true, true, true, false, true, true, true, true, false, false, false] rfl rfl rfl rfl (two_of HT_.out (by kernel_rfl)) (by decide) (by decide) (fun K hK => ?_) (fun K hK => ?_)
                          · skip
                            have hcv55 := own_string (P := Try.prog) Try.underlying44 Try.underlying5 Try.underlying9 (Kd.own_of_R HO_9.out)
                            refine value_ (w1 := ?_) (v := ?_) (by rfl) rfl ?_ ?_
                            rotate_left 2
                            · go_simp
                              constructor
                              · rfl
                              · rfl
                            clear hcv55
                            refine hK.out _ _ ⟨(blk_cell BK296.out 0).trans rfl, (blk_cell BK296.out 1).trans rfl⟩ (fun hHeld => ?_)
                            clear hK K
                            refine norm_ (a' := ?_) ?_ ?_
                            rotate_left
                            · show Act.put _ (some 88) _ = _
                              simp only [Act.put, List.setIfInBounds_toArray, List.set_cons_zero, List.set_cons_succ, i64_w, i32_w]
                              rfl
                            refine one_ (i := 18) (N := some 92) #[true, true, true, true, true, true, true, true, true, true, true, true, true, true, true, true, true, true, true, false, false, false] rfl rfl (one_of HT_.out (by kernel_rfl)) (by decide) (fun K hK => ?_)
                            refine goes_ Try.func37 (by kernel_rfl) rfl #[.slice A0 l0.length c0, .int .u64 (IntKind.u64.wrap (a1)), .int .i64 2] (by rfl) rfl rfl (by (try simp only [List.map_toArray, List.map_cons, List.map_nil]); first | done | rfl | (simp only [List.length_drop, List.length_take]; rfl)) ?_
                            with_reducible refine (cashbookref7_PutLow.calls kj11 _ _ l0 (IntKind.u64.wrap (a1)) 2 t298 _ ?side1 ?side2 A45.out).mono ?_
                            (case side1 => repeat (first | exact (Kd.C_below HR0.out HB.out) | (with_reducible refine Kd.C_alloc ?_ _) | (with_reducible refine Kd.C_drewN ?_ _) | (with_reducible refine Kd.C_drew ?_)))
                            (case side2 => exact HC0.out)
                            rintro e w56 ⟨v299, rfl, ho0, hb⟩
                            refine ⟨_, rfl, ?_⟩
                            have n0_ := Aside0.mk (Kd.R_elder' (rq7 HO_9) (Kd.R_base ho0) hb)
                            have n1_ := Aside0.mk (Kd.R_elder' (rq7 HO_11) (Kd.R_base ho0) hb)
                            have n2_ := Aside0.mk (Kd.R_elder' (rq7 HO_13) (Kd.R_base ho0) hb)
                            have n3_ := Aside0.mk (Kd.V_elder' (vq7 HO293) (Kd.R_base ho0) hb)
                            have n4_ := Aside0.mk (Kd.R_lower (Kd.R_new' (Kd.R_new' (Kd.R_new' ho0 (Kd.R_lt (rq7 HO_9))) (Kd.R_lt (rq7 HO_11))) (Kd.R_lt (rq7 HO_13))) (below_size (bl7 HB)))
                            have n5_ := bk7 BK296 hb
                            have n6_ := Aside0.mk (below_step (bl7 HB) hb)
                            clear HO_9
                            clear HO_11
                            clear HO_13
                            clear HO293
                            clear BK296
                            clear HB
                            have HO_9 := n0_
                            have HO_11 := n1_
                            have HO_13 := n2_
                            have HO293 := n3_
                            have HO300 := n4_
                            have BK296 := n5_
                            have HB := n6_
                            clear n0_ n1_ n2_ n3_ n4_ n5_ n6_
                            (try clear hb)
                            (try clear hb2)
                            (try clear hk)
                            (try clear hi)
                            (try clear ho0)
                            refine hK.out _ _ ⟨(blk_cell BK296.out 0).trans rfl, (blk_cell BK296.out 1).trans rfl⟩ (fun hHeld => ?_)
                            clear hK K
                            refine norm_ (a' := ?_) ?_ ?_
                            rotate_left
                            · show Act.put _ (some 92) _ = _
                              simp only [Act.put, List.setIfInBounds_toArray, List.set_cons_zero, List.set_cons_succ, i64_w, i32_w]
                              rfl
                            refine one_ (i := 19) (N := some 93) #[true, true, true, true, true, true, true, true, true, true, true, true, true, true, true, true, true, true, true, true, false, false] rfl rfl (one_of HT_.out (by kernel_rfl)) (by decide) (fun K hK => ?_)
                            have hcv57 := own_string (P := Try.prog) Try.underlying44 Try.underlying5 Try.underlying9 (Kd.own_of_R HO300.out)
                            refine value_ (w1 := ?_) (v := ?_) (by rfl) rfl ?_ ?_
                            rotate_left 2
                            · go_simp
                              constructor
                              · rfl
                              · rfl
                            clear hcv57
                            refine hK.out _ _ ⟨(blk_cell BK296.out 0).trans rfl, (blk_cell BK296.out 1).trans rfl⟩ (fun hHeld => ?_)
                            clear hK K
                            refine norm_ (a' := ?_) ?_ ?_
                            rotate_left
                            · show Act.put _ (some 93) _ = _
                              simp only [Act.put, List.setIfInBounds_toArray, List.set_cons_zero, List.set_cons_succ, i64_w, i32_w]
                              rfl
                            exact norm_ (by simp only [putAll, Act.put, List.setIfInBounds_toArray, List.set_cons_zero, List.set_cons_succ]) (hCont (v299) _ ⟨hHeld, (by (with_reducible repeat (first | apply Kd.V_alloc | apply Kd.V_drewN | apply Kd.V_drew)); exact Kd.V_mono HO293.out (fun _ hk => ⟨hk.2, ⟨hk.1.1, ⟨hk.1.2.1, hk.1.2.2⟩⟩⟩)), (by (with_reducible repeat (first | apply Kd.R_alloc | apply Kd.R_drewN | apply Kd.R_drew)); exact Kd.R_mono HO300.out (fun _ hk => ⟨hk.1.2, ⟨hk.2, hk.1.1.2⟩⟩)), (by (with_reducible repeat (first | apply Kd.R_alloc | apply Kd.R_drewN | apply Kd.R_drew)); exact Kd.R_mono HO_11.out (fun _ hk => ⟨hk.2, ⟨hk.1.2, hk.1.1⟩⟩)), (by (with_reducible repeat (first | apply Kd.R_alloc | apply Kd.R_drewN | apply Kd.R_drew)); exact Kd.R_mono HO_13.out (fun _ hk => ⟨hk.2, ⟨hk.1.2, hk.1.1⟩⟩)), (by (with_reducible repeat (first | apply Kd.R_alloc | apply Kd.R_drewN | apply Kd.R_drew)); exact Kd.R_mono HO_9.out (fun _ hk => ⟨hk.2, ⟨hk.1.1, hk.1.2⟩⟩)), (bq7 BK296), (bl7 HB)⟩)
                          · skip
                            refine goes_ Try.func37 (by kernel_rfl) rfl #[.slice A0 l0.length c0, .int .u64 (IntKind.u64.wrap (a1)), .int .i64 2] (by rfl) rfl rfl (by (try simp only [List.map_toArray, List.map_cons, List.map_nil]); first | done | rfl | (simp only [List.length_drop, List.length_take]; rfl)) ?_
                            with_reducible refine (cashbookref7_PutLow.calls kj11 _ _ l0 (IntKind.u64.wrap (a1)) 2 t298 _ ?side1 ?side2 A45.out).mono ?_
                            (case side1 => repeat (first | exact (Kd.C_below HR0.out HB.out) | (with_reducible refine Kd.C_alloc ?_ _) | (with_reducible refine Kd.C_drewN ?_ _) | (with_reducible refine Kd.C_drew ?_)))
                            (case side2 => exact HC0.out)
                            rintro e w55 ⟨v299, rfl, ho0, hb⟩
                            refine ⟨_, rfl, ?_⟩
                            have n0_ := Aside0.mk (Kd.R_elder' (rq7 HO_9) (Kd.R_base ho0) hb)
                            have n1_ := Aside0.mk (Kd.R_elder' (rq7 HO_11) (Kd.R_base ho0) hb)
                            have n2_ := Aside0.mk (Kd.R_elder' (rq7 HO_13) (Kd.R_base ho0) hb)
                            have n3_ := Aside0.mk (Kd.V_elder' (vq7 HO293) (Kd.R_base ho0) hb)
                            have n4_ := Aside0.mk (Kd.R_lower (Kd.R_new' (Kd.R_new' (Kd.R_new' ho0 (Kd.R_lt (rq7 HO_9))) (Kd.R_lt (rq7 HO_11))) (Kd.R_lt (rq7 HO_13))) (below_size (bl7 HB)))
                            have n5_ := bk7 BK296 hb
                            have n6_ := Aside0.mk (below_step (bl7 HB) hb)
                            clear HO_9
                            clear HO_11
                            clear HO_13
                            clear HO293
                            clear BK296
                            clear HB
                            have HO_9 := n0_
                            have HO_11 := n1_
                            have HO_13 := n2_
                            have HO293 := n3_
                            have HO300 := n4_
                            have BK296 := n5_
                            have HB := n6_
                            clear n0_ n1_ n2_ n3_ n4_ n5_ n6_
                            (try clear hb)
                            (try clear hb2)
                            (try clear hk)
                            (try clear hi)
                            (try clear ho0)
                            refine hK.out _ _ ⟨(blk_cell BK296.out 0).trans rfl, (blk_cell BK296.out 1).trans rfl⟩ (fun hHeld => ?_)
                            clear hK K
                            refine norm_ (a' := ?_) ?_ ?_
                            rotate_left
                            · show Act.put _ (some 92) _ = _
                              simp only [Act.put, List.setIfInBounds_toArray, List.set_cons_zero, List.set_cons_succ, i64_w, i32_w]
                              rfl
                            refine two_ (i := 14) (j := 19) (Ni := some 88) (Nj := some 93) #[true, true, true, true, true, true, true, true, true, true, true, true, true, true, true, true, true, true, true, false, false, false] #[true, true, true, true, true, true, true, true, true, true, true, true, true, true, false, true, true, true, true, true, false, false] rfl rfl rfl rfl (two_of HT_.out (by kernel_rfl)) (by decide) (by decide) (fun K hK => ?_) (fun K hK => ?_)
                            · skip
                              have hcv56 := own_string (P := Try.prog) Try.underlying44 Try.underlying5 Try.underlying9 (Kd.own_of_R HO_9.out)
                              refine value_ (w1 := ?_) (v := ?_) (by rfl) rfl ?_ ?_
                              rotate_left 2
                              · go_simp
                                constructor
                                · rfl
                                · rfl
                              clear hcv56
                              refine hK.out _ _ ⟨(blk_cell BK296.out 0).trans rfl, (blk_cell BK296.out 1).trans rfl⟩ (fun hHeld => ?_)
                              clear hK K
                              refine norm_ (a' := ?_) ?_ ?_
                              rotate_left
                              · show Act.put _ (some 88) _ = _
                                simp only [Act.put, List.setIfInBounds_toArray, List.set_cons_zero, List.set_cons_succ, i64_w, i32_w]
                                rfl
                              refine one_ (i := 19) (N := some 93) #[true, true, true, true, true, true, true, true, true, true, true, true, true, true, true, true, true, true, true, true, false, false] rfl rfl (one_of HT_.out (by kernel_rfl)) (by decide) (fun K hK => ?_)
                              have hcv57 := own_string (P := Try.prog) Try.underlying44 Try.underlying5 Try.underlying9 (Kd.own_of_R HO300.out)
                              refine value_ (w1 := ?_) (v := ?_) (by rfl) rfl ?_ ?_
                              rotate_left 2
                              · go_simp
                                constructor
                                · rfl
                                · rfl
                              clear hcv57
                              refine hK.out _ _ ⟨(blk_cell BK296.out 0).trans rfl, (blk_cell BK296.out 1).trans rfl⟩ (fun hHeld => ?_)
                              clear hK K
                              refine norm_ (a' := ?_) ?_ ?_
                              rotate_left
                              · show Act.put _ (some 93) _ = _
                                simp only [Act.put, List.setIfInBounds_toArray, List.set_cons_zero, List.set_cons_succ, i64_w, i32_w]
                                rfl
                              exact norm_ (by simp only [putAll, Act.put, List.setIfInBounds_toArray, List.set_cons_zero, List.set_cons_succ]) (hCont (v299) _ ⟨hHeld, (by (with_reducible repeat (first | apply Kd.V_alloc | apply Kd.V_drewN | apply Kd.V_drew)); exact Kd.V_mono HO293.out (fun _ hk => ⟨hk.2, ⟨hk.1.1, ⟨hk.1.2.1, hk.1.2.2⟩⟩⟩)), (by (with_reducible repeat (first | apply Kd.R_alloc | apply Kd.R_drewN | apply Kd.R_drew)); exact Kd.R_mono HO300.out (fun _ hk => ⟨hk.1.2, ⟨hk.2, hk.1.1.2⟩⟩)), (by (with_reducible repeat (first | apply Kd.R_alloc | apply Kd.R_drewN | apply Kd.R_drew)); exact Kd.R_mono HO_11.out (fun _ hk => ⟨hk.2, ⟨hk.1.2, hk.1.1⟩⟩)), (by (with_reducible repeat (first | apply Kd.R_alloc | apply Kd.R_drewN | apply Kd.R_drew)); exact Kd.R_mono HO_13.out (fun _ hk => ⟨hk.2, ⟨hk.1.2, hk.1.1⟩⟩)), (by (with_reducible repeat (first | apply Kd.R_alloc | apply Kd.R_drewN | apply Kd.R_drew)); exact Kd.R_mono HO_9.out (fun _ hk => ⟨hk.2, ⟨hk.1.1, hk.1.2⟩⟩)), (bq7 BK296), (bl7 HB)⟩)
                            · skip
                              have hcv56 := own_string (P := Try.prog) Try.underlying44 Try.underlying5 Try.underlying9 (Kd.own_of_R HO300.out)
                              refine value_ (w1 := ?_) (v := ?_) (by rfl) rfl ?_ ?_
                              rotate_left 2
                              · go_simp
                                constructor
                                · rfl
                                · rfl
                              clear hcv56
                              refine hK.out _ _ ⟨(blk_cell BK296.out 0).trans rfl, (blk_cell BK296.out 1).trans rfl⟩ (fun hHeld => ?_)
                              clear hK K
                              refine norm_ (a' := ?_) ?_ ?_
                              rotate_left
                              · show Act.put _ (some 93) _ = _
                                simp only [Act.put, List.setIfInBounds_toArray, List.set_cons_zero, List.set_cons_succ, i64_w, i32_w]
                                rfl
                              refine one_ (i := 14) (N := some 88) #[true, true, true, true, true, true, true, true, true, true, true, true, true, true, true, true, true, true, true, true, false, false] rfl rfl (one_of HT_.out (by kernel_rfl)) (by decide) (fun K hK => ?_)
                              have hcv57 := own_string (P := Try.prog) Try.underlying44 Try.underlying5 Try.underlying9 (Kd.own_of_R HO_9.out)
                              refine value_ (w1 := ?_) (v := ?_) (by rfl) rfl ?_ ?_
                              rotate_left 2
                              · go_simp
                                constructor
                                · rfl
                                · rfl
                              clear hcv57
                              refine hK.out _ _ ⟨(blk_cell BK296.out 0).trans rfl, (blk_cell BK296.out 1).trans rfl⟩ (fun hHeld => ?_)
                              clear hK K
                              refine norm_ (a' := ?_) ?_ ?_
                              rotate_left
                              · show Act.put _ (some 88) _ = _
                                simp only [Act.put, List.setIfInBounds_toArray, List.set_cons_zero, List.set_cons_succ, i64_w, i32_w]
                                rfl
                              exact norm_ (by simp only [putAll, Act.put, List.setIfInBounds_toArray, List.set_cons_zero, List.set_cons_succ]) (hCont (v299) _ ⟨hHeld, (by (with_reducible repeat (first | apply Kd.V_alloc | apply Kd.V_drewN | apply Kd.V_drew)); exact Kd.V_mono HO293.out (fun _ hk => ⟨hk.2, ⟨hk.1.1, ⟨hk.1.2.1, hk.1.2.2⟩⟩⟩)), (by (with_reducible repeat (first | apply Kd.R_alloc | apply Kd.R_drewN | apply Kd.R_drew)); exact Kd.R_mono HO300.out (fun _ hk => ⟨hk.1.2, ⟨hk.2, hk.1.1.2⟩⟩)), (by (with_reducible repeat (first | apply Kd.R_alloc | apply Kd.R_drewN | apply Kd.R_drew)); exact Kd.R_mono HO_11.out (fun _ hk => ⟨hk.2, ⟨hk.1.2, hk.1.1⟩⟩)), (by (with_reducible repeat (first | apply Kd.R_alloc | apply Kd.R_drewN | apply Kd.R_drew)); exact Kd.R_mono HO_13.out (fun _ hk => ⟨hk.2, ⟨hk.1.2, hk.1.1⟩⟩)), (by (with_reducible repeat (first | apply Kd.R_alloc | apply Kd.R_drewN | apply Kd.R_drew)); exact Kd.R_mono HO_9.out (fun _ hk => ⟨hk.2, ⟨hk.1.1, hk.1.2⟩⟩)), (bq7 BK296), (bl7 HB)⟩)
                        rintro v299 w58 ⟨hS_, h0_, h1_, h2_, h3_, h4_, h5_, h6_⟩
                        have n0_ : Aside0 (Kd.V (Kd.int .u8) 5 w58 w.heap.size (fun k_ => some k_ ≠ (v299 : Value).ownBlock ∧ some k_ ≠ (v285 : Value).ownBlock ∧ some k_ ≠ (v288 : Value).ownBlock ∧ k_ ≠ gb296) (.slice Ao50 t291.length co50) t291) := ⟨h0_⟩
                        have n1_ : Aside0 (Kd.R (Kd.int .u8) 5 w58 w.heap.size (fun k_ => some k_ ≠ (v285 : Value).ownBlock ∧ some k_ ≠ (v288 : Value).ownBlock ∧ some k_ ≠ (.slice Ao47 t279.length co47 : Value).ownBlock) v299 t298) := ⟨h1_⟩
                        have n2_ : Aside0 (Kd.R (Kd.int .u8) 5 w58 w.heap.size (fun k_ => some k_ ≠ (v299 : Value).ownBlock ∧ some k_ ≠ (v288 : Value).ownBlock ∧ some k_ ≠ (.slice Ao47 t279.length co47 : Value).ownBlock) v285 t283) := ⟨h2_⟩
                        have n3_ : Aside0 (Kd.R (Kd.int .u8) 5 w58 w.heap.size (fun k_ => some k_ ≠ (v299 : Value).ownBlock ∧ some k_ ≠ (v285 : Value).ownBlock ∧ some k_ ≠ (.slice Ao47 t279.length co47 : Value).ownBlock) v288 t287) := ⟨h3_⟩
                        have n4_ : Aside0 (Kd.R (Kd.int .u8) 5 w58 w.heap.size (fun k_ => some k_ ≠ (v299 : Value).ownBlock ∧ some k_ ≠ (v285 : Value).ownBlock ∧ some k_ ≠ (v288 : Value).ownBlock) (.slice Ao47 t279.length co47) t279) := ⟨h4_⟩
                        have n5_ : Aside0 (w58.heap[gb296]? = some (.cells #[.slice Ao50 t291.length co50, .int .i64 t294] 46 (0, 0))) := ⟨h5_⟩
                        have n6_ : Aside0 (Below w.heap.size w w58) := ⟨h6_⟩
                        clear HO_9
                        clear HO_11
                        clear HO_13
                        clear HO293
                        clear BK296
                        clear HB
                        clear h0_ h1_ h2_ h3_ h4_ h5_ h6_
                        have HO293 := n0_
                        have HO300 := n1_
                        have HO_11 := n2_
                        have HO_13 := n3_
                        have HO_9 := n4_
                        have BK296 := n5_
                        have HB := n6_
                        clear n0_ n1_ n2_ n3_ n4_ n5_ n6_
                        have hHeld : w58.cell? ⟨gb296, 0, none⟩ = some (.slice Ao50 t291.length co50) ∧ w58.cell? ⟨gb296, 1, none⟩ = some (.int .i64 t294) := hS_
                        refine norm_ (a' := ?_) ?_ ?_
                        rotate_left
                        · simp only [putAll, Act.put, List.setIfInBounds_toArray, List.set_cons_zero, List.set_cons_succ]
                          rfl
                        refine pure_ (i := 20) (N := some 94) (v := ?_) (a' := ?_) #[true, true, true, true, true, true, true, true, true, true, true, true, true, true, true, true, true, true, true, true, true, false] rfl rfl (any_of HT_.out (by kernel_rfl)) (fun _ _ _ h => h) (Or.inl ⟨by rfl, ?_⟩) ?_ ?_
                        rotate_left
                        · intro w'
                          go_simp
                          with_reducible rfl
                        rotate_left
                        · simp only [Act.put, List.setIfInBounds_toArray, List.set_cons_zero, List.set_cons_succ, i64_w, i32_w]
                          rfl
                        refine pure_ (i := 21) (N := some 95) (v := ?_) (a' := ?_) #[true, true, true, true, true, true, true, true, true, true, true, true, true, true, true, true, true, true, true, true, true, true] rfl rfl (any_of HT_.out (by kernel_rfl)) (fun _ _ _ h => h) (Or.inl ⟨by rfl, ?_⟩) ?_ ?_
                        rotate_left
                        · intro w'
                          go_simp
                          with_reducible rfl
                        rotate_left
                        · simp only [Act.put, List.setIfInBounds_toArray, List.set_cons_zero, List.set_cons_succ, i64_w, i32_w]
                          rfl
                        refine done_ (done_of HT_.out (by kernel_rfl)) ?_
                        try go_wp2
                        go_meet
                        case rel => exact ⟨_, H', ⟨by have := HJ11.out; first | omega | exact Nat.le_refl _⟩, ⟨by (with_reducible repeat (first | apply Kd.R_alloc | apply Kd.R_drewN | apply Kd.R_drew)); exact Kd.R_mono HO_11.out (fun _ hk => hk.2.1)⟩, ⟨by (with_reducible repeat (first | apply Kd.R_alloc | apply Kd.R_drewN | apply Kd.R_drew)); exact Kd.R_mono HO_13.out (fun _ hk => hk.2.1)⟩, ⟨bl7 HB⟩⟩
                      · rw [if_neg c46] at H
                        exact absurd H (by simp)
                    · rw [if_neg c44] at H
                      have c44b0 : (t297 == 0) = false := beq_eq_false_iff_ne.mpr c44
                      have c44b1 : (t297 != 0) = true := bne_iff_ne.mpr c44
                      exact absurd H (by simp)
                  · rw [if_neg c42] at H
                    have c42b0 : (t290 == a1) = false := beq_eq_false_iff_ne.mpr c42
                    have c42b1 : (t290 != a1) = true := bne_iff_ne.mpr c42
                    exact absurd H (by simp)
                · rw [if_neg c41] at H
                  have c41b0 : (t295 == 0) = false := beq_eq_false_iff_ne.mpr c41
                  have c41b1 : (t295 != 0) = true := bne_iff_ne.mpr c41
                  exact absurd H (by simp)
              · rw [if_neg c39] at H
                have c39b0 : (t280 == 0) = false := beq_eq_false_iff_ne.mpr c39
                have c39b1 : (t280 != 0) = true := bne_iff_ne.mpr c39
                (first | rw [c39b0] | (simp only [i64_w, i32_w]; rw [c39b0]) | skip)
                by_cases c59 : t280 = 1
                · rw [if_pos c59] at H
                  have c59b0 : (t280 == 1) = true := beq_iff_eq.mpr c59
                  have c59b1 : (t280 != 1) = false := bne_eq_false_iff_eq.mpr c59
                  clear c59
                  by_cases c60 : (strOfNums t279).toList = (strOfNums l0).toList
                  · rw [if_pos c60] at H
                    have c60b0 : ((strOfNums t279).toList == (strOfNums l0).toList) = true := beq_iff_eq.mpr c60
                    have c60b1 : ((strOfNums t279).toList != (strOfNums l0).toList) = false := bne_eq_false_iff_eq.mpr c60
                    clear c60
                    have H' := Aside0.mk H
                    clear H
                    have hcv61 := own_string (P := Try.prog) Try.underlying44 Try.underlying5 Try.underlying9 (Kd.own_of_R HO_9.out)
                    have hcv62 := Kd.C_string (P := Try.prog) (A := A0) (c := c0) Try.underlying44 Try.underlying5 Try.underlying9 (Kd.C_below HR0.out HB.out)
                    go_wp2
                    go_meet
                    case rel => exact ⟨_, H', ⟨by have := HJ11.out; first | omega | exact Nat.le_refl _⟩, ⟨by (with_reducible repeat (first | apply Kd.R_alloc | apply Kd.R_drewN | apply Kd.R_drew)); exact Kd.R_mono HO_11.out (fun _ hk => hk.2)⟩, ⟨by (with_reducible repeat (first | apply Kd.R_alloc | apply Kd.R_drewN | apply Kd.R_drew)); exact Kd.R_mono HO_13.out (fun _ hk => hk.2)⟩, ⟨bl7 HB⟩⟩
                  · rw [if_neg c60] at H
                    exact absurd H (by simp)
                · rw [if_neg c59] at H
                  exact absurd H (by simp)
            case rest =>
              clear HC38
              try clear c1
              try clear c2
              try clear p2
              try clear c3
              try clear c4
              try clear c5
              try clear hcv5
              try clear c6
              try clear hcv6
              try clear c17
              try clear c17b0
              try clear c18
              try clear c18b0
              try clear c18b1
              try clear c19
              try clear c19b0
              try clear c20
              try clear c20b0
              try clear c21
              try clear c21b0
              try clear c21b1
              try clear c22
              try clear c22b0
              try clear c23
              try clear c23b0
              try clear c24
              try clear c24b0
              try clear c24b1
              try clear c25
              try clear c25b0
              try clear c26
              try clear c26b0
              try clear c27
              try clear c27b0
              try clear c27b1
              try clear c28
              try clear c28b0
              try clear c29
              try clear c29b0
              try clear c30
              try clear c30b0
              try clear c30b1
              try clear c31
              try clear c31b0
              try clear c31b1
              try clear c32
              try clear c32b0
              try clear c33
              try clear c33b0
              try clear c33b1
              try clear c34
              try clear c34b0
              try clear c35
              try clear c35b0
              try clear c36
              try clear c36b0
              try clear c36b1
              try clear c37
              try clear c39
              try clear c39b0
              try clear c39b1
              try clear c41
              try clear c41b0
              try clear c41b1
              try clear c42
              try clear c42b0
              try clear c42b1
              try clear c44
              try clear c44b0
              try clear c44b1
              try clear c46
              try clear c46b0
              try clear c46b1
              try clear hcv55
              try clear hcv56
              try clear hcv57
              try clear c59
              try clear c59b0
              try clear c59b1
              try clear c60
              try clear c60b0
              try clear c60b1
              try clear hcv61
              try clear hcv62
              try clear hcz51_0
              try clear hcz51_1
              try clear hfz51_0
              try clear hfz51_1
              obtain ⟨kq, HA, HJ37, HO_11, HO_13, HB⟩ := hcut
              cases kq with
              | zero => exact absurd HA.out (by simp [cashbooklaw3_LeWrites.j1])
              | succ kj37 =>
                have H := HA.out
                clear HA
                simp only [cashbooklaw3_LeWrites.j1] at H
                have HC63 := Aside0.mk H
                clear H
                go_upto_if 106 with (fail)
                go_cut [] (fun wc => ∃ (kq : Nat), Aside0 (cashbooklaw3_LeWrites.j2 kq l0 a3 t287 = some r) ∧ Aside0 (kq ≤ kj37) ∧ Aside0 (Kd.R (Kd.int .u8) 5 wc w.heap.size (fun _ => True) v288 t287) ∧ Aside0 (Below w.heap.size w wc))
                case first =>
                  have H := HC63.out
                  clear HC63
                  by_cases c64 : t284 = 0
                  · rw [if_pos c64] at H
                    have c64b0 : (t284 == 0) = true := beq_iff_eq.mpr c64
                    have c64b1 : (t284 != 0) = false := bne_eq_false_iff_eq.mpr c64
                    clear c64
                    (first | rw [c64b0] | (simp only [i64_w, i32_w]; rw [c64b0]) | skip)
                    replace H := Option.bind_eq_some_iff.mp H
                    obtain ⟨⟨t301, t302, t305, t306⟩, A650, H⟩ := H
                    replace H : (if t306 = 0 then (if t301 = a2 then ((le_End.f kj37 t302 t305).bind fun t308 => (if t308 = 0 then ((cashbookref7_PutLow.f kj37 l0 (IntKind.u64.wrap (a2)) 4).bind fun t309 => (if (strOfNums t283).toList = (strOfNums t309).toList then (cashbooklaw3_LeWrites.j2 kj37 l0 a3 t287) else (none))) else (none))) else (none)) else (none)) = some r := H
                    have A65 := Aside0.mk A650
                    clear A650
                    by_cases c66 : t306 = 0
                    · rw [if_pos c66] at H
                      have c66b0 : (t306 == 0) = true := beq_iff_eq.mpr c66
                      have c66b1 : (t306 != 0) = false := bne_eq_false_iff_eq.mpr c66
                      clear c66
                      by_cases c67 : t301 = a2
                      · rw [if_pos c67] at H
                        have c67b0 : (t301 == a2) = true := beq_iff_eq.mpr c67
                        have c67b1 : (t301 != a2) = false := bne_eq_false_iff_eq.mpr c67
                        clear c67
                        replace H := Option.bind_eq_some_iff.mp H
                        obtain ⟨t308, A680, H⟩ := H
                        replace H : (if t308 = 0 then ((cashbookref7_PutLow.f kj37 l0 (IntKind.u64.wrap (a2)) 4).bind fun t309 => (if (strOfNums t283).toList = (strOfNums t309).toList then (cashbooklaw3_LeWrites.j2 kj37 l0 a3 t287) else (none))) else (none)) = some r := H
                        have A68 := Aside0.mk A680
                        clear A680
                        by_cases c69 : t308 = 0
                        · rw [if_pos c69] at H
                          have c69b0 : (t308 == 0) = true := beq_iff_eq.mpr c69
                          have c69b1 : (t308 != 0) = false := bne_eq_false_iff_eq.mpr c69
                          clear c69
                          replace H := Option.bind_eq_some_iff.mp H
                          obtain ⟨t309, A700, H⟩ := H
                          replace H : (if (strOfNums t283).toList = (strOfNums t309).toList then (cashbooklaw3_LeWrites.j2 kj37 l0 a3 t287) else (none)) = some r := H
                          have A70 := Aside0.mk A700
                          clear A700
                          by_cases c71 : (strOfNums t283).toList = (strOfNums t309).toList
                          · rw [if_pos c71] at H
                            have c71b0 : ((strOfNums t283).toList == (strOfNums t309).toList) = true := beq_iff_eq.mpr c71
                            have c71b1 : ((strOfNums t283).toList != (strOfNums t309).toList) = false := bne_eq_false_iff_eq.mpr c71
                            clear c71
                            have H' := Aside0.mk H
                            clear H
                            obtain ⟨Ao72, co72, eo72⟩ := Kd.R_slice HO_11.out
                            subst eo72
                            try go_wp2_with (first | ((with_reducible refine gate_callee (f := 27) rfl ?_); refine goesL_ (some 112) rfl rfl Try.func27 (by kernel_rfl) rfl #[.agg #[.slice Ao72 t283.length co72, .int .i64 (l0.length : Int)]] rfl (by (try simp only [List.map_toArray, List.map_cons, List.map_nil]); first | done | rfl | (simp only [List.length_drop, List.length_take]; rfl)) ?_; (with_reducible refine (le_U32.calls kj37 (fun k_ => some k_ = (.slice Ao72 t283.length co72 : Value).ownBlock) _ _ t283 (l0.length : Int) t301 t302 t305 t306 _ ?side1 A65.out).mono ?_); (case side1 => exact Kd.R_V (Kd.R_tight rfl (HO_11.out))); rintro e w73 ⟨v303, rfl, ho0, hb⟩; refine ⟨_, rfl, ?_⟩; have n0_ := rb7 HO_11 hb; have n1_ := rb7 HO_13 hb; have n2_ := Aside0.mk (Kd.V_lower (Kd.V_mono (ok' := fun k_ => some k_ ≠ (v288 : Value).ownBlock) ho0 (fun k_ hk_ => Or.elim hk_ (fun hs_ => ((HO_11.out).1 k_ hs_.symm)) (fun hn_ => (Kd.fresh' (Kd.R_lt (rq7 HO_13)) k_ hn_)))) (below_size (bl7 HB))); have n3_ := Aside0.mk (below_step (bl7 HB) hb); clear HO_11; clear HO_13; clear HB; have HO_11 := n0_; have HO_13 := n1_; have HO304 := n2_; have HB := n3_; clear n0_ n1_ n2_ n3_; (try clear hb); (try clear hb2); (try clear hk); (try clear hi); (try clear ho0)) | ((with_reducible refine gate_dst (N := 18) rfl ?_); refine box_event ?hg (N := 18) ?hd (cs := #[.slice none 0 0, .int .i64 0]) (t := 46) ?hr ?_; (case hd => rfl); (case hg => rfl); (case hr => first | (go_simp; done) | (go_simp; rfl)); intro gb307 hg w74 hbox hb; have n0_ := rb7 HO_11 hb; have n1_ := rb7 HO_13 hb; have n2_ := Aside0.mk (Kd.V_below (Kd.V_elderB (vq7 HO304) gb307 (Nat.le_of_eq hg.symm)) hb); have n3_ := Aside0.mk (below_step (bl7 HB) hb); have n4_ := Aside0.mk (hbox); have n5_ := Aside0.mk ((by rw [hg]; exact (below_size (bl7 HB)) : w.heap.size ≤ gb307)); have n6_ := Aside0.mk ((by rw [hg]; exact (below_size (bl7 HB)) : w.heap.size ≤ gb307)); clear HO_11; clear HO_13; clear HO304; clear HB; have HO_11 := n0_; have HO_13 := n1_; have HO304 := n2_; have HB := n3_; have BK307 := n4_; have GW307 := n5_; have GE307 := n6_; clear n0_ n1_ n2_ n3_ n4_ n5_ n6_; clear hb hbox hg; obtain ⟨Ao75, co75, eo75⟩ := Kd.V_slice HO304.out; subst eo75; have hcz76_0 : w74.cell? ⟨gb307, 0, none⟩ = some (.slice none 0 0) := (blk_cell BK307.out 0).trans rfl; have hcz76_1 : w74.cell? ⟨gb307, 1, none⟩ = some (.int .i64 0) := (blk_cell BK307.out 1).trans rfl; have hfz76_0 := blk_frozen BK307.out 0; have hfz76_1 := blk_frozen BK307.out 1))
                            have n0_ : Aside0 (Kd.R (Kd.int .u8) 5 ((w74.setCell ⟨gb307, 0, none⟩ (.slice Ao75 t302.length co75)).setCell ⟨gb307, 1, none⟩ (.int .i64 t305)) w.heap.size (fun k_ => some k_ ≠ (v288 : Value).ownBlock) (.slice Ao72 t283.length co72) t283) := ⟨by (with_reducible repeat (first | apply Kd.R_alloc | apply Kd.R_drewN | apply Kd.R_drew)); exact Kd.R_mono (Kd.R_far (p := ⟨gb307, 1, none⟩) (Kd.R_far (p := ⟨gb307, 0, none⟩) (Kd.R_types HO_11.out BK307.out (by decide)) (fun _ hk => hk.2) (.slice Ao75 t302.length co75)) (fun _ hk => hk.2) (.int .i64 t305)) (fun _ hk => hk.1)⟩
                            have n1_ : Aside0 (Kd.R (Kd.int .u8) 5 ((w74.setCell ⟨gb307, 0, none⟩ (.slice Ao75 t302.length co75)).setCell ⟨gb307, 1, none⟩ (.int .i64 t305)) w.heap.size (fun k_ => some k_ ≠ (.slice Ao72 t283.length co72 : Value).ownBlock) v288 t287) := ⟨by (with_reducible repeat (first | apply Kd.R_alloc | apply Kd.R_drewN | apply Kd.R_drew)); exact Kd.R_mono (Kd.R_far (p := ⟨gb307, 1, none⟩) (Kd.R_far (p := ⟨gb307, 0, none⟩) (Kd.R_types HO_13.out BK307.out (by decide)) (fun _ hk => hk.2) (.slice Ao75 t302.length co75)) (fun _ hk => hk.2) (.int .i64 t305)) (fun _ hk => hk.1)⟩
                            have n2_ : Aside0 (Kd.V (Kd.int .u8) 5 ((w74.setCell ⟨gb307, 0, none⟩ (.slice Ao75 t302.length co75)).setCell ⟨gb307, 1, none⟩ (.int .i64 t305)) w.heap.size (fun k_ => some k_ ≠ (v288 : Value).ownBlock ∧ k_ ≠ gb307) (.slice Ao75 t302.length co75) t302) := ⟨by (with_reducible repeat (first | apply Kd.V_alloc | apply Kd.V_drewN | apply Kd.V_drew)); exact Kd.V_mono (Kd.V_far (p := ⟨gb307, 1, none⟩) (Kd.V_far (p := ⟨gb307, 0, none⟩) (Kd.V_mono HO304.out (fun k_ hk => (⟨hk, hk.2⟩ : _ ∧ k_ ≠ gb307))) (fun _ hk => hk.2) (.slice Ao75 t302.length co75)) (fun _ hk => hk.2) (.int .i64 t305)) (fun _ hk => ⟨hk.1.1, hk.1.2⟩)⟩
                            have n3_ : Aside0 (((w74.setCell ⟨gb307, 0, none⟩ (.slice Ao75 t302.length co75)).setCell ⟨gb307, 1, none⟩ (.int .i64 t305)).heap[gb307]? = some (.cells #[.slice Ao75 t302.length co75, .int .i64 t305] 46 (0, 0))) := ⟨by (with_reducible repeat (first | refine blk_drewN ?_ _ | refine blk_drew ?_ | refine blk_alloc ?_ _)); refine blk_put (cs := #[.slice Ao75 t302.length co75, .int .i64 0]) ?_ 1 _ rfl; (with_reducible repeat (first | refine blk_drewN ?_ _ | refine blk_drew ?_ | refine blk_alloc ?_ _)); refine blk_put (cs := #[.slice none 0 0, .int .i64 0]) ?_ 0 _ rfl; (with_reducible repeat (first | refine blk_drewN ?_ _ | refine blk_drew ?_ | refine blk_alloc ?_ _)); exact BK307.out⟩
                            have n4_ : Aside0 (Below w.heap.size w ((w74.setCell ⟨gb307, 0, none⟩ (.slice Ao75 t302.length co75)).setCell ⟨gb307, 1, none⟩ (.int .i64 t305))) := ⟨bl7 HB⟩
                            (try clear HO_11)
                            (try clear HO_13)
                            (try clear HO304)
                            (try clear BK307)
                            (try clear HB)
                            generalize ((w74.setCell ⟨gb307, 0, none⟩ (.slice Ao75 t302.length co75)).setCell ⟨gb307, 1, none⟩ (.int .i64 t305)) = w77 at n0_ n1_ n2_ n3_ n4_ ⊢
                            have HO_11 := n0_
                            have HO_13 := n1_
                            have HO304 := n2_
                            have BK307 := n3_
                            have HB := n4_
                            clear n0_ n1_ n2_ n3_ n4_
                            have n0_ := Aside0.mk (Kd.R_drew HO_11.out)
                            have n1_ := Aside0.mk (Kd.R_drew HO_13.out)
                            have n2_ := Aside0.mk (Kd.V_drew HO304.out)
                            have n3_ := Aside0.mk (blk_drew BK307.out)
                            have n4_ := Aside0.mk (below_drew1 HB.out)
                            clear HO_11
                            clear HO_13
                            clear HO304
                            clear BK307
                            clear HB
                            have HO_11 := n0_
                            have HO_13 := n1_
                            have HO304 := n2_
                            have BK307 := n3_
                            have HB := n4_
                            clear n0_ n1_ n2_ n3_ n4_
                            refine start_ (n := 22) (S := fun w' => w'.cell? ⟨gb307, 0, none⟩ = some (.slice Ao75 t302.length co75) ∧ w'.cell? ⟨gb307, 1, none⟩ = some (.int .i64 t305)) (ds := []) #[false, false, false, false, false, false, false, false, false, false, false, false, false, false, false, false, false, false, false, false, false, false] (by kernel_rfl) rfl rfl ⟨(blk_cell BK307.out 0).trans rfl, (blk_cell BK307.out 1).trans rfl⟩ (fun hHeld => ?_); refine with_tabW cashbooklaw3_LeWrites.tab18 cashbooklaw3_LeWrites.bits18 (fun HT_ HW_ => ?_)
                            generalize w77.drew = w78 at HO_11 HO_13 HO304 BK307 HB hHeld ⊢
                            refine pure_ (i := 0) (N := some 116) (v := ?_) (a' := ?_) #[true, false, false, false, false, false, false, false, false, false, false, false, false, false, false, false, false, false, false, false, false, false] rfl rfl (any_of HT_.out (by kernel_rfl)) (fun _ _ _ h => h) (Or.inl ⟨by rfl, ?_⟩) ?_ ?_
                            rotate_left
                            · intro w'
                              go_simp
                              with_reducible rfl
                            rotate_left
                            · simp only [Act.put, List.setIfInBounds_toArray, List.set_cons_zero, List.set_cons_succ, i64_w, i32_w]
                              rfl
                            refine pure_ (i := 1) (N := some 117) (v := ?_) (a' := ?_) #[true, true, false, false, false, false, false, false, false, false, false, false, false, false, false, false, false, false, false, false, false, false] rfl rfl (any_of HT_.out (by kernel_rfl)) (fun _ _ _ h => h) (Or.inl ⟨by rfl, ?_⟩) ?_ ?_
                            rotate_left
                            · intro w'
                              go_simp
                              with_reducible rfl
                            rotate_left
                            · simp only [Act.put, List.setIfInBounds_toArray, List.set_cons_zero, List.set_cons_succ, i64_w, i32_w]
                              rfl
                            refine pure_ (i := 2) (N := some 118) (v := ?_) (a' := ?_) #[true, true, true, false, false, false, false, false, false, false, false, false, false, false, false, false, false, false, false, false, false, false] rfl rfl (any_of HT_.out (by kernel_rfl)) (fun _ _ _ h => h) (Or.inl ⟨by rfl, ?_⟩) ?_ ?_
                            rotate_left
                            · intro w'
                              go_simp
                              with_reducible rfl
                            rotate_left
                            · simp only [Act.put, List.setIfInBounds_toArray, List.set_cons_zero, List.set_cons_succ, i64_w, i32_w]
                              rfl
                            refine pure_ (i := 3) (N := some 119) (v := ?_) (a' := ?_) #[true, true, true, true, false, false, false, false, false, false, false, false, false, false, false, false, false, false, false, false, false, false] rfl rfl (any_of HT_.out (by kernel_rfl)) (fun _ _ _ h => h) (Or.inl ⟨by rfl, ?_⟩) ?_ ?_
                            rotate_left
                            · intro w'
                              go_simp
                              with_reducible rfl
                            rotate_left
                            · simp only [Act.put, List.setIfInBounds_toArray, List.set_cons_zero, List.set_cons_succ, i64_w, i32_w]
                              rfl
                            refine pure_ (i := 4) (N := some 120) (v := ?_) (a' := ?_) #[true, true, true, true, true, false, false, false, false, false, false, false, false, false, false, false, false, false, false, false, false, false] rfl rfl (any_of HT_.out (by kernel_rfl)) (fun _ _ _ h => h) (Or.inl ⟨by rfl, ?_⟩) ?_ ?_
                            rotate_left
                            · intro w'
                              go_simp
                              with_reducible rfl
                            rotate_left
                            · simp only [Act.put, List.setIfInBounds_toArray, List.set_cons_zero, List.set_cons_succ, i64_w, i32_w]
                              rfl
                            refine pure_ (i := 5) (N := some 121) (v := ?_) (a' := ?_) #[true, true, true, true, true, true, false, false, false, false, false, false, false, false, false, false, false, false, false, false, false, false] rfl rfl (any_of HT_.out (by kernel_rfl)) (fun _ _ _ h => h) (Or.inl ⟨by rfl, ?_⟩) ?_ ?_
                            rotate_left
                            · intro w'
                              go_simp
                              with_reducible rfl
                            rotate_left
                            · simp only [Act.put, List.setIfInBounds_toArray, List.set_cons_zero, List.set_cons_succ, i64_w, i32_w]
                              rfl
                            refine pure_ (i := 6) (N := some 122) (v := ?_) (a' := ?_) #[true, true, true, true, true, true, true, false, false, false, false, false, false, false, false, false, false, false, false, false, false, false] rfl rfl (any_of HT_.out (by kernel_rfl)) (fun _ _ _ h => h) (Or.inl ⟨by rfl, ?_⟩) ?_ ?_
                            rotate_left
                            · intro w'
                              go_simp
                              with_reducible rfl
                            rotate_left
                            · simp only [Act.put, List.setIfInBounds_toArray, List.set_cons_zero, List.set_cons_succ, i64_w, i32_w]
                              rfl
                            refine pure_ (i := 7) (N := some 123) (v := ?_) (a' := ?_) #[true, true, true, true, true, true, true, true, false, false, false, false, false, false, false, false, false, false, false, false, false, false] rfl rfl (any_of HT_.out (by kernel_rfl)) (fun _ _ _ h => h) (Or.inl ⟨by rfl, ?_⟩) ?_ ?_
                            rotate_left
                            · intro w'
                              go_simp
                              with_reducible rfl
                            rotate_left
                            · simp only [Act.put, List.setIfInBounds_toArray, List.set_cons_zero, List.set_cons_succ, i64_w, i32_w]
                              rfl
                            refine take_ (i := 8) (N := some 124) (v := ?_) (a' := ?_) #[true, true, true, true, true, true, true, true, true, false, false, false, false, false, false, false, false, false, false, false, false, false] rfl rfl (take_ofW HT_.out HW_.out (by kernel_rfl)) (fun _ _ _ h => h) (Or.inl ⟨by rfl, ?_⟩) hHeld ?_ ?_
                            rotate_left
                            · rintro w' ⟨s0, s1⟩
                              go_simp
                              with_reducible rfl
                            rotate_left
                            · simp only [Act.put, List.setIfInBounds_toArray, List.set_cons_zero, List.set_cons_succ, i64_w, i32_w]
                              rfl
                            refine one_ (i := 9) (N := some 125) #[true, true, true, true, true, true, true, true, true, true, false, false, false, false, false, false, false, false, false, false, false, false] rfl rfl (one_of HT_.out (by kernel_rfl)) (by decide) (fun K hK => ?_)
                            refine goes_ Try.func31 (by kernel_rfl) rfl #[.agg #[.slice Ao75 t302.length co75, .int .i64 t305]] (by rfl) rfl rfl (by (try simp only [List.map_toArray, List.map_cons, List.map_nil]); first | done | rfl | (simp only [List.length_drop, List.length_take]; rfl)) ?_
                            with_reducible refine (le_End.calls kj37 _ _ t302 t305 t308 _ ?side1 ?side2 A68.out).mono ?_
                            (case side1 => repeat (first | exact (Kd.V_reads' HO304.out).2.2 | (with_reducible refine Kd.C_alloc ?_ _) | (with_reducible refine Kd.C_drewN ?_ _) | (with_reducible refine Kd.C_drew ?_)))
                            (case side2 => exact (Kd.V_reads' HO304.out).2.1)
                            rintro e w79 ⟨rfl, hb⟩
                            refine ⟨_, rfl, ?_⟩
                            have n0_ := rb7 HO_11 hb
                            have n1_ := rb7 HO_13 hb
                            have n2_ := vb7 HO304 hb
                            have n3_ := bk7 BK307 hb
                            have n4_ := Aside0.mk (below_step (bl7 HB) hb)
                            clear HO_11
                            clear HO_13
                            clear HO304
                            clear BK307
                            clear HB
                            have HO_11 := n0_
                            have HO_13 := n1_
                            have HO304 := n2_
                            have BK307 := n3_
                            have HB := n4_
                            clear n0_ n1_ n2_ n3_ n4_
                            (try clear hb)
                            (try clear hb2)
                            (try clear hk)
                            (try clear hi)
                            refine hK.out _ _ ⟨(blk_cell BK307.out 0).trans rfl, (blk_cell BK307.out 1).trans rfl⟩ (fun hHeld => ?_)
                            clear hK K
                            refine norm_ (a' := ?_) ?_ ?_
                            rotate_left
                            · show Act.put _ (some 125) _ = _
                              simp only [Act.put, List.setIfInBounds_toArray, List.set_cons_zero, List.set_cons_succ, i64_w, i32_w]
                              rfl
                            refine pure_ (i := 10) (N := some 126) (v := ?_) (a' := ?_) #[true, true, true, true, true, true, true, true, true, true, true, false, false, false, false, false, false, false, false, false, false, false] rfl rfl (any_of HT_.out (by kernel_rfl)) (fun _ _ _ h => h) (Or.inl ⟨by rfl, ?_⟩) ?_ ?_
                            rotate_left
                            · intro w'
                              go_simp
                              with_reducible rfl
                            rotate_left
                            · simp only [Act.put, List.setIfInBounds_toArray, List.set_cons_zero, List.set_cons_succ, i64_w, i32_w]
                              rfl
                            refine pure_ (i := 11) (N := some 127) (v := ?_) (a' := ?_) #[true, true, true, true, true, true, true, true, true, true, true, true, false, false, false, false, false, false, false, false, false, false] rfl rfl (any_of HT_.out (by kernel_rfl)) (fun _ _ _ h => h) (Or.inl ⟨by rfl, ?_⟩) ?_ ?_
                            rotate_left
                            · intro w'
                              go_simp
                              with_reducible rfl
                            rotate_left
                            · simp only [Act.put, List.setIfInBounds_toArray, List.set_cons_zero, List.set_cons_succ, i64_w, i32_w]
                              rfl
                            refine pure_ (i := 12) (N := some 128) (v := ?_) (a' := ?_) #[true, true, true, true, true, true, true, true, true, true, true, true, true, false, false, false, false, false, false, false, false, false] rfl rfl (any_of HT_.out (by kernel_rfl)) (fun _ _ _ h => h) (Or.inl ⟨by rfl, ?_⟩) ?_ ?_
                            rotate_left
                            · intro w'
                              go_simp
                              with_reducible rfl
                            rotate_left
                            · simp only [Act.put, List.setIfInBounds_toArray, List.set_cons_zero, List.set_cons_succ, i64_w, i32_w]
                              rfl
                            refine pure_ (i := 13) (N := some 129) (v := ?_) (a' := ?_) #[true, true, true, true, true, true, true, true, true, true, true, true, true, true, false, false, false, false, false, false, false, false] rfl rfl (any_of HT_.out (by kernel_rfl)) (fun _ _ _ h => h) (Or.inl ⟨by rfl, ?_⟩) ?_ ?_
                            rotate_left
                            · intro w'
                              go_simp
                              with_reducible rfl
                            rotate_left
                            · simp only [Act.put, List.setIfInBounds_toArray, List.set_cons_zero, List.set_cons_succ, i64_w, i32_w]
                              rfl
                            refine pure_ (i := 15) (N := some 131) (v := ?_) (a' := ?_) #[true, true, true, true, true, true, true, true, true, true, true, true, true, true, false, true, false, false, false, false, false, false] rfl rfl (any_of HT_.out (by kernel_rfl)) (fun _ _ _ h => h) (Or.inl ⟨by rfl, ?_⟩) ?_ ?_
                            rotate_left
                            · intro w'
                              go_simp
                              with_reducible rfl
                            rotate_left
                            · simp only [Act.put, List.setIfInBounds_toArray, List.set_cons_zero, List.set_cons_succ, i64_w, i32_w]
                              rfl
                            refine pure_ (i := 16) (N := some 132) (v := ?_) (a' := ?_) #[true, true, true, true, true, true, true, true, true, true, true, true, true, true, false, true, true, false, false, false, false, false] rfl rfl (any_of HT_.out (by kernel_rfl)) (fun _ _ _ h => h) (Or.inl ⟨by rfl, ?_⟩) ?_ ?_
                            rotate_left
                            · intro w'
                              go_simp
                              with_reducible rfl
                            rotate_left
                            · simp only [Act.put, List.setIfInBounds_toArray, List.set_cons_zero, List.set_cons_succ, i64_w, i32_w]
                              rfl
                            refine pure_ (i := 17) (N := some 133) (v := ?_) (a' := ?_) #[true, true, true, true, true, true, true, true, true, true, true, true, true, true, false, true, true, true, false, false, false, false] rfl rfl (any_of HT_.out (by kernel_rfl)) (fun _ _ _ h => h) (Or.inl ⟨by rfl, ?_⟩) ?_ ?_
                            rotate_left
                            · intro w'
                              go_simp
                              with_reducible rfl
                            rotate_left
                            · simp only [Act.put, List.setIfInBounds_toArray, List.set_cons_zero, List.set_cons_succ, i64_w, i32_w]
                              rfl
                            refine join_ (σ := Value) 2 #[true, true, true, true, true, true, true, true, true, true, true, true, true, true, true, true, true, true, true, true, false, false] (fun s_ => [(130, .string (strOfNums t283)), (134, s_), (135, .string (strOfNums t309))]) (fun s_ w' => (w'.cell? ⟨gb307, 0, none⟩ = some (.slice Ao75 t302.length co75) ∧ w'.cell? ⟨gb307, 1, none⟩ = some (.int .i64 t305)) ∧ (Kd.V (Kd.int .u8) 5 w' w.heap.size (fun k_ => some k_ ≠ (s_ : Value).ownBlock ∧ some k_ ≠ (v288 : Value).ownBlock ∧ k_ ≠ gb307) (.slice Ao75 t302.length co75) t302) ∧ (Kd.R (Kd.int .u8) 5 w' w.heap.size (fun k_ => some k_ ≠ (.slice Ao72 t283.length co72 : Value).ownBlock ∧ some k_ ≠ (v288 : Value).ownBlock) s_ t309) ∧ (Kd.R (Kd.int .u8) 5 w' w.heap.size (fun k_ => some k_ ≠ (s_ : Value).ownBlock ∧ some k_ ≠ (v288 : Value).ownBlock) (.slice Ao72 t283.length co72) t283) ∧ (Kd.R (Kd.int .u8) 5 w' w.heap.size (fun k_ => some k_ ≠ (s_ : Value).ownBlock ∧ some k_ ≠ (.slice Ao72 t283.length co72 : Value).ownBlock) v288 t287) ∧ (w'.heap[gb307]? = some (.cells #[.slice Ao75 t302.length co75, .int .i64 t305] 46 (0, 0))) ∧ (Below w.heap.size w w')) ?_ ?_
                            rotate_left
                            · intro hCont
                              refine two_ (i := 14) (j := 18) (Ni := some 130) (Nj := some 134) #[true, true, true, true, true, true, true, true, true, true, true, true, true, true, true, true, true, true, false, false, false, false] #[true, true, true, true, true, true, true, true, true, true, true, true, true, true, false, true, true, true, true, false, false, false] rfl rfl rfl rfl (two_of HT_.out (by kernel_rfl)) (by decide) (by decide) (fun K hK => ?_) (fun K hK => ?_)
                              · skip
                                have hcv80 := own_string (P := Try.prog) Try.underlying44 Try.underlying5 Try.underlying9 (Kd.own_of_R HO_11.out)
                                refine value_ (w1 := ?_) (v := ?_) (by rfl) rfl ?_ ?_
                                rotate_left 2
                                · go_simp
                                  constructor
                                  · rfl
                                  · rfl
                                clear hcv80
                                refine hK.out _ _ ⟨(blk_cell BK307.out 0).trans rfl, (blk_cell BK307.out 1).trans rfl⟩ (fun hHeld => ?_)
                                clear hK K
                                refine norm_ (a' := ?_) ?_ ?_
                                rotate_left
                                · show Act.put _ (some 130) _ = _
                                  simp only [Act.put, List.setIfInBounds_toArray, List.set_cons_zero, List.set_cons_succ, i64_w, i32_w]
                                  rfl
                                refine one_ (i := 18) (N := some 134) #[true, true, true, true, true, true, true, true, true, true, true, true, true, true, true, true, true, true, true, false, false, false] rfl rfl (one_of HT_.out (by kernel_rfl)) (by decide) (fun K hK => ?_)
                                refine goes_ Try.func37 (by kernel_rfl) rfl #[.slice A0 l0.length c0, .int .u64 (IntKind.u64.wrap (a2)), .int .i64 4] (by rfl) rfl rfl (by (try simp only [List.map_toArray, List.map_cons, List.map_nil]); first | done | rfl | (simp only [List.length_drop, List.length_take]; rfl)) ?_
                                with_reducible refine (cashbookref7_PutLow.calls kj37 _ _ l0 (IntKind.u64.wrap (a2)) 4 t309 _ ?side1 ?side2 A70.out).mono ?_
                                (case side1 => repeat (first | exact (Kd.C_below HR0.out HB.out) | (with_reducible refine Kd.C_alloc ?_ _) | (with_reducible refine Kd.C_drewN ?_ _) | (with_reducible refine Kd.C_drew ?_)))
                                (case side2 => exact HC0.out)
                                rintro e w81 ⟨v310, rfl, ho0, hb⟩
                                refine ⟨_, rfl, ?_⟩
                                have n0_ := Aside0.mk (Kd.R_elder' (rq7 HO_11) (Kd.R_base ho0) hb)
                                have n1_ := Aside0.mk (Kd.R_elder' (rq7 HO_13) (Kd.R_base ho0) hb)
                                have n2_ := Aside0.mk (Kd.V_elder' (vq7 HO304) (Kd.R_base ho0) hb)
                                have n3_ := Aside0.mk (Kd.R_lower (Kd.R_new' (Kd.R_new' ho0 (Kd.R_lt (rq7 HO_11))) (Kd.R_lt (rq7 HO_13))) (below_size (bl7 HB)))
                                have n4_ := bk7 BK307 hb
                                have n5_ := Aside0.mk (below_step (bl7 HB) hb)
                                clear HO_11
                                clear HO_13
                                clear HO304
                                clear BK307
                                clear HB
                                have HO_11 := n0_
                                have HO_13 := n1_
                                have HO304 := n2_
                                have HO311 := n3_
                                have BK307 := n4_
                                have HB := n5_
                                clear n0_ n1_ n2_ n3_ n4_ n5_
                                (try clear hb)
                                (try clear hb2)
                                (try clear hk)
                                (try clear hi)
                                (try clear ho0)
                                refine hK.out _ _ ⟨(blk_cell BK307.out 0).trans rfl, (blk_cell BK307.out 1).trans rfl⟩ (fun hHeld => ?_)
                                clear hK K
                                refine norm_ (a' := ?_) ?_ ?_
                                rotate_left
                                · show Act.put _ (some 134) _ = _
                                  simp only [Act.put, List.setIfInBounds_toArray, List.set_cons_zero, List.set_cons_succ, i64_w, i32_w]
                                  rfl
                                refine one_ (i := 19) (N := some 135) #[true, true, true, true, true, true, true, true, true, true, true, true, true, true, true, true, true, true, true, true, false, false] rfl rfl (one_of HT_.out (by kernel_rfl)) (by decide) (fun K hK => ?_)
                                have hcv82 := own_string (P := Try.prog) Try.underlying44 Try.underlying5 Try.underlying9 (Kd.own_of_R HO311.out)
                                refine value_ (w1 := ?_) (v := ?_) (by rfl) rfl ?_ ?_
                                rotate_left 2
                                · go_simp
                                  constructor
                                  · rfl
                                  · rfl
                                clear hcv82
                                refine hK.out _ _ ⟨(blk_cell BK307.out 0).trans rfl, (blk_cell BK307.out 1).trans rfl⟩ (fun hHeld => ?_)
                                clear hK K
                                refine norm_ (a' := ?_) ?_ ?_
                                rotate_left
                                · show Act.put _ (some 135) _ = _
                                  simp only [Act.put, List.setIfInBounds_toArray, List.set_cons_zero, List.set_cons_succ, i64_w, i32_w]
                                  rfl
                                exact norm_ (by simp only [putAll, Act.put, List.setIfInBounds_toArray, List.set_cons_zero, List.set_cons_succ]) (hCont (v310) _ ⟨hHeld, (by (with_reducible repeat (first | apply Kd.V_alloc | apply Kd.V_drewN | apply Kd.V_drew)); exact Kd.V_mono HO304.out (fun _ hk => ⟨hk.2, ⟨hk.1.1, hk.1.2⟩⟩)), (by (with_reducible repeat (first | apply Kd.R_alloc | apply Kd.R_drewN | apply Kd.R_drew)); exact Kd.R_mono HO311.out (fun _ hk => ⟨hk.1.2, hk.2⟩)), (by (with_reducible repeat (first | apply Kd.R_alloc | apply Kd.R_drewN | apply Kd.R_drew)); exact Kd.R_mono HO_11.out (fun _ hk => ⟨hk.2, hk.1⟩)), (by (with_reducible repeat (first | apply Kd.R_alloc | apply Kd.R_drewN | apply Kd.R_drew)); exact Kd.R_mono HO_13.out (fun _ hk => ⟨hk.2, hk.1⟩)), (bq7 BK307), (bl7 HB)⟩)
                              · skip
                                refine goes_ Try.func37 (by kernel_rfl) rfl #[.slice A0 l0.length c0, .int .u64 (IntKind.u64.wrap (a2)), .int .i64 4] (by rfl) rfl rfl (by (try simp only [List.map_toArray, List.map_cons, List.map_nil]); first | done | rfl | (simp only [List.length_drop, List.length_take]; rfl)) ?_
                                with_reducible refine (cashbookref7_PutLow.calls kj37 _ _ l0 (IntKind.u64.wrap (a2)) 4 t309 _ ?side1 ?side2 A70.out).mono ?_
                                (case side1 => repeat (first | exact (Kd.C_below HR0.out HB.out) | (with_reducible refine Kd.C_alloc ?_ _) | (with_reducible refine Kd.C_drewN ?_ _) | (with_reducible refine Kd.C_drew ?_)))
                                (case side2 => exact HC0.out)
                                rintro e w80 ⟨v310, rfl, ho0, hb⟩
                                refine ⟨_, rfl, ?_⟩
                                have n0_ := Aside0.mk (Kd.R_elder' (rq7 HO_11) (Kd.R_base ho0) hb)
                                have n1_ := Aside0.mk (Kd.R_elder' (rq7 HO_13) (Kd.R_base ho0) hb)
                                have n2_ := Aside0.mk (Kd.V_elder' (vq7 HO304) (Kd.R_base ho0) hb)
                                have n3_ := Aside0.mk (Kd.R_lower (Kd.R_new' (Kd.R_new' ho0 (Kd.R_lt (rq7 HO_11))) (Kd.R_lt (rq7 HO_13))) (below_size (bl7 HB)))
                                have n4_ := bk7 BK307 hb
                                have n5_ := Aside0.mk (below_step (bl7 HB) hb)
                                clear HO_11
                                clear HO_13
                                clear HO304
                                clear BK307
                                clear HB
                                have HO_11 := n0_
                                have HO_13 := n1_
                                have HO304 := n2_
                                have HO311 := n3_
                                have BK307 := n4_
                                have HB := n5_
                                clear n0_ n1_ n2_ n3_ n4_ n5_
                                (try clear hb)
                                (try clear hb2)
                                (try clear hk)
                                (try clear hi)
                                (try clear ho0)
                                refine hK.out _ _ ⟨(blk_cell BK307.out 0).trans rfl, (blk_cell BK307.out 1).trans rfl⟩ (fun hHeld => ?_)
                                clear hK K
                                refine norm_ (a' := ?_) ?_ ?_
                                rotate_left
                                · show Act.put _ (some 134) _ = _
                                  simp only [Act.put, List.setIfInBounds_toArray, List.set_cons_zero, List.set_cons_succ, i64_w, i32_w]
                                  rfl
                                refine two_ (i := 14) (j := 19) (Ni := some 130) (Nj := some 135) #[true, true, true, true, true, true, true, true, true, true, true, true, true, true, true, true, true, true, true, false, false, false] #[true, true, true, true, true, true, true, true, true, true, true, true, true, true, false, true, true, true, true, true, false, false] rfl rfl rfl rfl (two_of HT_.out (by kernel_rfl)) (by decide) (by decide) (fun K hK => ?_) (fun K hK => ?_)
                                · skip
                                  have hcv81 := own_string (P := Try.prog) Try.underlying44 Try.underlying5 Try.underlying9 (Kd.own_of_R HO_11.out)
                                  refine value_ (w1 := ?_) (v := ?_) (by rfl) rfl ?_ ?_
                                  rotate_left 2
                                  · go_simp
                                    constructor
                                    · rfl
                                    · rfl
                                  clear hcv81
                                  refine hK.out _ _ ⟨(blk_cell BK307.out 0).trans rfl, (blk_cell BK307.out 1).trans rfl⟩ (fun hHeld => ?_)
                                  clear hK K
                                  refine norm_ (a' := ?_) ?_ ?_
                                  rotate_left
                                  · show Act.put _ (some 130) _ = _
                                    simp only [Act.put, List.setIfInBounds_toArray, List.set_cons_zero, List.set_cons_succ, i64_w, i32_w]
                                    rfl
                                  refine one_ (i := 19) (N := some 135) #[true, true, true, true, true, true, true, true, true, true, true, true, true, true, true, true, true, true, true, true, false, false] rfl rfl (one_of HT_.out (by kernel_rfl)) (by decide) (fun K hK => ?_)
                                  have hcv82 := own_string (P := Try.prog) Try.underlying44 Try.underlying5 Try.underlying9 (Kd.own_of_R HO311.out)
                                  refine value_ (w1 := ?_) (v := ?_) (by rfl) rfl ?_ ?_
                                  rotate_left 2
                                  · go_simp
                                    constructor
                                    · rfl
                                    · rfl
                                  clear hcv82
                                  refine hK.out _ _ ⟨(blk_cell BK307.out 0).trans rfl, (blk_cell BK307.out 1).trans rfl⟩ (fun hHeld => ?_)
                                  clear hK K
                                  refine norm_ (a' := ?_) ?_ ?_
                                  rotate_left
                                  · show Act.put _ (some 135) _ = _
                                    simp only [Act.put, List.setIfInBounds_toArray, List.set_cons_zero, List.set_cons_succ, i64_w, i32_w]
                                    rfl
                                  exact norm_ (by simp only [putAll, Act.put, List.setIfInBounds_toArray, List.set_cons_zero, List.set_cons_succ]) (hCont (v310) _ ⟨hHeld, (by (with_reducible repeat (first | apply Kd.V_alloc | apply Kd.V_drewN | apply Kd.V_drew)); exact Kd.V_mono HO304.out (fun _ hk => ⟨hk.2, ⟨hk.1.1, hk.1.2⟩⟩)), (by (with_reducible repeat (first | apply Kd.R_alloc | apply Kd.R_drewN | apply Kd.R_drew)); exact Kd.R_mono HO311.out (fun _ hk => ⟨hk.1.2, hk.2⟩)), (by (with_reducible repeat (first | apply Kd.R_alloc | apply Kd.R_drewN | apply Kd.R_drew)); exact Kd.R_mono HO_11.out (fun _ hk => ⟨hk.2, hk.1⟩)), (by (with_reducible repeat (first | apply Kd.R_alloc | apply Kd.R_drewN | apply Kd.R_drew)); exact Kd.R_mono HO_13.out (fun _ hk => ⟨hk.2, hk.1⟩)), (bq7 BK307), (bl7 HB)⟩)
                                · skip
                                  have hcv81 := own_string (P := Try.prog) Try.underlying44 Try.underlying5 Try.underlying9 (Kd.own_of_R HO311.out)
                                  refine value_ (w1 := ?_) (v := ?_) (by rfl) rfl ?_ ?_
                                  rotate_left 2
                                  · go_simp
                                    constructor
                                    · rfl
                                    · rfl
                                  clear hcv81
                                  refine hK.out _ _ ⟨(blk_cell BK307.out 0).trans rfl, (blk_cell BK307.out 1).trans rfl⟩ (fun hHeld => ?_)
                                  clear hK K
                                  refine norm_ (a' := ?_) ?_ ?_
                                  rotate_left
                                  · show Act.put _ (some 135) _ = _
                                    simp only [Act.put, List.setIfInBounds_toArray, List.set_cons_zero, List.set_cons_succ, i64_w, i32_w]
                                    rfl
                                  refine one_ (i := 14) (N := some 130) #[true, true, true, true, true, true, true, true, true, true, true, true, true, true, true, true, true, true, true, true, false, false] rfl rfl (one_of HT_.out (by kernel_rfl)) (by decide) (fun K hK => ?_)
                                  have hcv82 := own_string (P := Try.prog) Try.underlying44 Try.underlying5 Try.underlying9 (Kd.own_of_R HO_11.out)
                                  refine value_ (w1 := ?_) (v := ?_) (by rfl) rfl ?_ ?_
                                  rotate_left 2
                                  · go_simp
                                    constructor
                                    · rfl
                                    · rfl
                                  clear hcv82
                                  refine hK.out _ _ ⟨(blk_cell BK307.out 0).trans rfl, (blk_cell BK307.out 1).trans rfl⟩ (fun hHeld => ?_)
                                  clear hK K
                                  refine norm_ (a' := ?_) ?_ ?_
                                  rotate_left
                                  · show Act.put _ (some 130) _ = _
                                    simp only [Act.put, List.setIfInBounds_toArray, List.set_cons_zero, List.set_cons_succ, i64_w, i32_w]
                                    rfl
                                  exact norm_ (by simp only [putAll, Act.put, List.setIfInBounds_toArray, List.set_cons_zero, List.set_cons_succ]) (hCont (v310) _ ⟨hHeld, (by (with_reducible repeat (first | apply Kd.V_alloc | apply Kd.V_drewN | apply Kd.V_drew)); exact Kd.V_mono HO304.out (fun _ hk => ⟨hk.2, ⟨hk.1.1, hk.1.2⟩⟩)), (by (with_reducible repeat (first | apply Kd.R_alloc | apply Kd.R_drewN | apply Kd.R_drew)); exact Kd.R_mono HO311.out (fun _ hk => ⟨hk.1.2, hk.2⟩)), (by (with_reducible repeat (first | apply Kd.R_alloc | apply Kd.R_drewN | apply Kd.R_drew)); exact Kd.R_mono HO_11.out (fun _ hk => ⟨hk.2, hk.1⟩)), (by (with_reducible repeat (first | apply Kd.R_alloc | apply Kd.R_drewN | apply Kd.R_drew)); exact Kd.R_mono HO_13.out (fun _ hk => ⟨hk.2, hk.1⟩)), (bq7 BK307), (bl7 HB)⟩)
                            rintro v310 w83 ⟨hS_, h0_, h1_, h2_, h3_, h4_, h5_⟩
                            have n0_ : Aside0 (Kd.V (Kd.int .u8) 5 w83 w.heap.size (fun k_ => some k_ ≠ (v310 : Value).ownBlock ∧ some k_ ≠ (v288 : Value).ownBlock ∧ k_ ≠ gb307) (.slice Ao75 t302.length co75) t302) := ⟨h0_⟩
                            have n1_ : Aside0 (Kd.R (Kd.int .u8) 5 w83 w.heap.size (fun k_ => some k_ ≠ (.slice Ao72 t283.length co72 : Value).ownBlock ∧ some k_ ≠ (v288 : Value).ownBlock) v310 t309) := ⟨h1_⟩
                            have n2_ : Aside0 (Kd.R (Kd.int .u8) 5 w83 w.heap.size (fun k_ => some k_ ≠ (v310 : Value).ownBlock ∧ some k_ ≠ (v288 : Value).ownBlock) (.slice Ao72 t283.length co72) t283) := ⟨h2_⟩
                            have n3_ : Aside0 (Kd.R (Kd.int .u8) 5 w83 w.heap.size (fun k_ => some k_ ≠ (v310 : Value).ownBlock ∧ some k_ ≠ (.slice Ao72 t283.length co72 : Value).ownBlock) v288 t287) := ⟨h3_⟩
                            have n4_ : Aside0 (w83.heap[gb307]? = some (.cells #[.slice Ao75 t302.length co75, .int .i64 t305] 46 (0, 0))) := ⟨h4_⟩
                            have n5_ : Aside0 (Below w.heap.size w w83) := ⟨h5_⟩
                            clear HO_11
                            clear HO_13
                            clear HO304
                            clear BK307
                            clear HB
                            clear h0_ h1_ h2_ h3_ h4_ h5_
                            have HO304 := n0_
                            have HO311 := n1_
                            have HO_11 := n2_
                            have HO_13 := n3_
                            have BK307 := n4_
                            have HB := n5_
                            clear n0_ n1_ n2_ n3_ n4_ n5_
                            have hHeld : w83.cell? ⟨gb307, 0, none⟩ = some (.slice Ao75 t302.length co75) ∧ w83.cell? ⟨gb307, 1, none⟩ = some (.int .i64 t305) := hS_
                            refine norm_ (a' := ?_) ?_ ?_
                            rotate_left
                            · simp only [putAll, Act.put, List.setIfInBounds_toArray, List.set_cons_zero, List.set_cons_succ]
                              rfl
                            refine pure_ (i := 20) (N := some 136) (v := ?_) (a' := ?_) #[true, true, true, true, true, true, true, true, true, true, true, true, true, true, true, true, true, true, true, true, true, false] rfl rfl (any_of HT_.out (by kernel_rfl)) (fun _ _ _ h => h) (Or.inl ⟨by rfl, ?_⟩) ?_ ?_
                            rotate_left
                            · intro w'
                              go_simp
                              with_reducible rfl
                            rotate_left
                            · simp only [Act.put, List.setIfInBounds_toArray, List.set_cons_zero, List.set_cons_succ, i64_w, i32_w]
                              rfl
                            refine pure_ (i := 21) (N := some 137) (v := ?_) (a' := ?_) #[true, true, true, true, true, true, true, true, true, true, true, true, true, true, true, true, true, true, true, true, true, true] rfl rfl (any_of HT_.out (by kernel_rfl)) (fun _ _ _ h => h) (Or.inl ⟨by rfl, ?_⟩) ?_ ?_
                            rotate_left
                            · intro w'
                              go_simp
                              with_reducible rfl
                            rotate_left
                            · simp only [Act.put, List.setIfInBounds_toArray, List.set_cons_zero, List.set_cons_succ, i64_w, i32_w]
                              rfl
                            refine done_ (done_of HT_.out (by kernel_rfl)) ?_
                            try go_wp2
                            go_meet
                            case rel => exact ⟨_, H', ⟨by have := HJ11.out; have := HJ37.out; first | omega | exact Nat.le_refl _⟩, ⟨by (with_reducible repeat (first | apply Kd.R_alloc | apply Kd.R_drewN | apply Kd.R_drew)); exact Kd.R_mono HO_13.out (fun _ hk => trivial)⟩, ⟨bl7 HB⟩⟩
                          · rw [if_neg c71] at H
                            exact absurd H (by simp)
                        · rw [if_neg c69] at H
                          have c69b0 : (t308 == 0) = false := beq_eq_false_iff_ne.mpr c69
                          have c69b1 : (t308 != 0) = true := bne_iff_ne.mpr c69
                          exact absurd H (by simp)
                      · rw [if_neg c67] at H
                        have c67b0 : (t301 == a2) = false := beq_eq_false_iff_ne.mpr c67
                        have c67b1 : (t301 != a2) = true := bne_iff_ne.mpr c67
                        exact absurd H (by simp)
                    · rw [if_neg c66] at H
                      have c66b0 : (t306 == 0) = false := beq_eq_false_iff_ne.mpr c66
                      have c66b1 : (t306 != 0) = true := bne_iff_ne.mpr c66
                      exact absurd H (by simp)
                  · rw [if_neg c64] at H
                    have c64b0 : (t284 == 0) = false := beq_eq_false_iff_ne.mpr c64
                    have c64b1 : (t284 != 0) = true := bne_iff_ne.mpr c64
                    (first | rw [c64b0] | (simp only [i64_w, i32_w]; rw [c64b0]) | skip)
                    by_cases c84 : t284 = 1
                    · rw [if_pos c84] at H
                      have c84b0 : (t284 == 1) = true := beq_iff_eq.mpr c84
                      have c84b1 : (t284 != 1) = false := bne_eq_false_iff_eq.mpr c84
                      clear c84
                      by_cases c85 : (strOfNums t283).toList = (strOfNums l0).toList
                      · rw [if_pos c85] at H
                        have c85b0 : ((strOfNums t283).toList == (strOfNums l0).toList) = true := beq_iff_eq.mpr c85
                        have c85b1 : ((strOfNums t283).toList != (strOfNums l0).toList) = false := bne_eq_false_iff_eq.mpr c85
                        clear c85
                        have H' := Aside0.mk H
                        clear H
                        have hcv86 := own_string (P := Try.prog) Try.underlying44 Try.underlying5 Try.underlying9 (Kd.own_of_R HO_11.out)
                        have hcv87 := Kd.C_string (P := Try.prog) (A := A0) (c := c0) Try.underlying44 Try.underlying5 Try.underlying9 (Kd.C_below HR0.out HB.out)
                        go_wp2
                        go_meet
                        case rel => exact ⟨_, H', ⟨by have := HJ11.out; have := HJ37.out; first | omega | exact Nat.le_refl _⟩, ⟨by (with_reducible repeat (first | apply Kd.R_alloc | apply Kd.R_drewN | apply Kd.R_drew)); exact Kd.R_mono HO_13.out (fun _ hk => trivial)⟩, ⟨bl7 HB⟩⟩
                      · rw [if_neg c85] at H
                        exact absurd H (by simp)
                    · rw [if_neg c84] at H
                      exact absurd H (by simp)
                case rest =>
                  clear HC63
                  try clear c1
                  try clear c2
                  try clear p2
                  try clear c3
                  try clear c4
                  try clear c5
                  try clear hcv5
                  try clear c6
                  try clear hcv6
                  try clear c7
                  try clear c8
                  try clear hcv8
                  try clear c17
                  try clear c17b0
                  try clear c18
                  try clear c18b0
                  try clear c18b1
                  try clear c19
                  try clear c19b0
                  try clear c20
                  try clear c20b0
                  try clear c21
                  try clear c21b0
                  try clear c21b1
                  try clear c22
                  try clear c22b0
                  try clear c23
                  try clear c23b0
                  try clear c24
                  try clear c24b0
                  try clear c24b1
                  try clear c25
                  try clear c25b0
                  try clear c26
                  try clear c26b0
                  try clear c27
                  try clear c27b0
                  try clear c27b1
                  try clear c28
                  try clear c28b0
                  try clear c29
                  try clear c29b0
                  try clear c30
                  try clear c30b0
                  try clear c30b1
                  try clear c31
                  try clear c31b0
                  try clear c31b1
                  try clear c32
                  try clear c32b0
                  try clear c33
                  try clear c33b0
                  try clear c33b1
                  try clear c34
                  try clear c34b0
                  try clear c35
                  try clear c35b0
                  try clear c36
                  try clear c36b0
                  try clear c36b1
                  try clear c37
                  try clear c39
                  try clear c39b0
                  try clear c39b1
                  try clear c41
                  try clear c41b0
                  try clear c41b1
                  try clear c42
                  try clear c42b0
                  try clear c42b1
                  try clear c44
                  try clear c44b0
                  try clear c44b1
                  try clear c46
                  try clear c46b0
                  try clear c46b1
                  try clear hcv55
                  try clear hcv56
                  try clear hcv57
                  try clear c59
                  try clear c59b0
                  try clear c59b1
                  try clear c60
                  try clear c60b0
                  try clear c60b1
                  try clear hcv61
                  try clear hcv62
                  try clear c64
                  try clear c64b0
                  try clear c64b1
                  try clear c66
                  try clear c66b0
                  try clear c66b1
                  try clear c67
                  try clear c67b0
                  try clear c67b1
                  try clear c69
                  try clear c69b0
                  try clear c69b1
                  try clear c71
                  try clear c71b0
                  try clear c71b1
                  try clear hcv80
                  try clear hcv81
                  try clear hcv82
                  try clear c84
                  try clear c84b0
                  try clear c84b1
                  try clear c85
                  try clear c85b0
                  try clear c85b1
                  try clear hcv86
                  try clear hcv87
                  try clear hcz51_0
                  try clear hcz51_1
                  try clear hcz76_0
                  try clear hcz76_1
                  try clear hfz51_0
                  try clear hfz51_1
                  try clear hfz76_0
                  try clear hfz76_1
                  obtain ⟨kq, HA, HJ62, HO_13, HB⟩ := hcut
                  cases kq with
                  | zero => exact absurd HA.out (by simp [cashbooklaw3_LeWrites.j2])
                  | succ kj62 =>
                    have H := HA.out
                    clear HA
                    simp only [cashbooklaw3_LeWrites.j2] at H
                    replace H := Option.bind_eq_some_iff.mp H
                    obtain ⟨⟨t312, t313, t316, t317⟩, A880, H⟩ := H
                    replace H : (if t317 = 0 then (if t312 = a3 then ((le_End.f kj62 t313 t316).bind fun t319 => (if t319 = 0 then ((cashbookref7_PutLow.f kj62 l0 (IntKind.u64.wrap (a3)) 8).bind fun t320 => (some ((strOfNums t287).toList == (strOfNums t320).toList))) else (none))) else (none)) else (none)) = some r := H
                    have A88 := Aside0.mk A880
                    clear A880
                    by_cases c89 : t317 = 0
                    · rw [if_pos c89] at H
                      have c89b0 : (t317 == 0) = true := beq_iff_eq.mpr c89
                      have c89b1 : (t317 != 0) = false := bne_eq_false_iff_eq.mpr c89
                      clear c89
                      by_cases c90 : t312 = a3
                      · rw [if_pos c90] at H
                        have c90b0 : (t312 == a3) = true := beq_iff_eq.mpr c90
                        have c90b1 : (t312 != a3) = false := bne_eq_false_iff_eq.mpr c90
                        clear c90
                        replace H := Option.bind_eq_some_iff.mp H
                        obtain ⟨t319, A910, H⟩ := H
                        replace H : (if t319 = 0 then ((cashbookref7_PutLow.f kj62 l0 (IntKind.u64.wrap (a3)) 8).bind fun t320 => (some ((strOfNums t287).toList == (strOfNums t320).toList))) else (none)) = some r := H
                        have A91 := Aside0.mk A910
                        clear A910
                        by_cases c92 : t319 = 0
                        · rw [if_pos c92] at H
                          have c92b0 : (t319 == 0) = true := beq_iff_eq.mpr c92
                          have c92b1 : (t319 != 0) = false := bne_eq_false_iff_eq.mpr c92
                          clear c92
                          replace H := Option.bind_eq_some_iff.mp H
                          obtain ⟨t320, A930, H⟩ := H
                          replace H : (some ((strOfNums t287).toList == (strOfNums t320).toList)) = some r := H
                          have A93 := Aside0.mk A930
                          clear A930
                          obtain rfl := Option.some.inj H
                          obtain ⟨Ao94, co94, eo94⟩ := Kd.R_slice HO_13.out
                          subst eo94
                          try go_wp2_with (first | ((with_reducible refine gate_callee (f := 28) rfl ?_); refine goesL_ (some 152) rfl rfl Try.func28 (by kernel_rfl) rfl #[.agg #[.slice Ao94 t287.length co94, .int .i64 (l0.length : Int)]] rfl (by (try simp only [List.map_toArray, List.map_cons, List.map_nil]); first | done | rfl | (simp only [List.length_drop, List.length_take]; rfl)) ?_; (with_reducible refine (le_I64.calls kj62 (fun k_ => some k_ = (.slice Ao94 t287.length co94 : Value).ownBlock) _ _ t287 (l0.length : Int) t312 t313 t316 t317 _ ?side1 A88.out).mono ?_); (case side1 => exact Kd.R_V (Kd.R_tight rfl (HO_13.out))); rintro e w95 ⟨v314, rfl, ho0, hb⟩; refine ⟨_, rfl, ?_⟩; have n0_ := rb7 HO_13 hb; have n1_ := Aside0.mk (Kd.V_lower (Kd.V_mono (ok' := fun k_ => True) ho0 (fun k_ hk_ => trivial)) (below_size (bl7 HB))); have n2_ := Aside0.mk (below_step (bl7 HB) hb); clear HO_13; clear HB; have HO_13 := n0_; have HO315 := n1_; have HB := n2_; clear n0_ n1_ n2_; (try clear hb); (try clear hb2); (try clear hk); (try clear hi); (try clear ho0)) | ((with_reducible refine gate_dst (N := 21) rfl ?_); refine box_event ?hg (N := 21) ?hd (cs := #[.slice none 0 0, .int .i64 0]) (t := 46) ?hr ?_; (case hd => rfl); (case hg => rfl); (case hr => first | (go_simp; done) | (go_simp; rfl)); intro gb318 hg w96 hbox hb; have n0_ := rb7 HO_13 hb; have n1_ := Aside0.mk (Kd.V_below (Kd.V_elderB (vq7 HO315) gb318 (Nat.le_of_eq hg.symm)) hb); have n2_ := Aside0.mk (below_step (bl7 HB) hb); have n3_ := Aside0.mk (hbox); have n4_ := Aside0.mk ((by rw [hg]; exact (below_size (bl7 HB)) : w.heap.size ≤ gb318)); have n5_ := Aside0.mk ((by rw [hg]; exact (below_size (bl7 HB)) : w.heap.size ≤ gb318)); clear HO_13; clear HO315; clear HB; have HO_13 := n0_; have HO315 := n1_; have HB := n2_; have BK318 := n3_; have GW318 := n4_; have GE318 := n5_; clear n0_ n1_ n2_ n3_ n4_ n5_; clear hb hbox hg; obtain ⟨Ao97, co97, eo97⟩ := Kd.V_slice HO315.out; subst eo97; have hcz98_0 : w96.cell? ⟨gb318, 0, none⟩ = some (.slice none 0 0) := (blk_cell BK318.out 0).trans rfl; have hcz98_1 : w96.cell? ⟨gb318, 1, none⟩ = some (.int .i64 0) := (blk_cell BK318.out 1).trans rfl; have hfz98_0 := blk_frozen BK318.out 0; have hfz98_1 := blk_frozen BK318.out 1))
                          have n0_ : Aside0 (Kd.R (Kd.int .u8) 5 ((w96.setCell ⟨gb318, 0, none⟩ (.slice Ao97 t313.length co97)).setCell ⟨gb318, 1, none⟩ (.int .i64 t316)) w.heap.size (fun _ => True) (.slice Ao94 t287.length co94) t287) := ⟨by (with_reducible repeat (first | apply Kd.R_alloc | apply Kd.R_drewN | apply Kd.R_drew)); exact Kd.R_mono (Kd.R_far (p := ⟨gb318, 1, none⟩) (Kd.R_far (p := ⟨gb318, 0, none⟩) (Kd.R_types HO_13.out BK318.out (by decide)) (fun _ hk => hk.2) (.slice Ao97 t313.length co97)) (fun _ hk => hk.2) (.int .i64 t316)) (fun _ hk => trivial)⟩
                          have n1_ : Aside0 (Kd.V (Kd.int .u8) 5 ((w96.setCell ⟨gb318, 0, none⟩ (.slice Ao97 t313.length co97)).setCell ⟨gb318, 1, none⟩ (.int .i64 t316)) w.heap.size (fun k_ => k_ ≠ gb318) (.slice Ao97 t313.length co97) t313) := ⟨by (with_reducible repeat (first | apply Kd.V_alloc | apply Kd.V_drewN | apply Kd.V_drew)); exact Kd.V_mono (Kd.V_far (p := ⟨gb318, 1, none⟩) (Kd.V_far (p := ⟨gb318, 0, none⟩) (Kd.V_mono HO315.out (fun k_ hk => (⟨hk, hk.2⟩ : _ ∧ k_ ≠ gb318))) (fun _ hk => hk.2) (.slice Ao97 t313.length co97)) (fun _ hk => hk.2) (.int .i64 t316)) (fun _ hk => hk.1.2)⟩
                          have n2_ : Aside0 (((w96.setCell ⟨gb318, 0, none⟩ (.slice Ao97 t313.length co97)).setCell ⟨gb318, 1, none⟩ (.int .i64 t316)).heap[gb318]? = some (.cells #[.slice Ao97 t313.length co97, .int .i64 t316] 46 (0, 0))) := ⟨by (with_reducible repeat (first | refine blk_drewN ?_ _ | refine blk_drew ?_ | refine blk_alloc ?_ _)); refine blk_put (cs := #[.slice Ao97 t313.length co97, .int .i64 0]) ?_ 1 _ rfl; (with_reducible repeat (first | refine blk_drewN ?_ _ | refine blk_drew ?_ | refine blk_alloc ?_ _)); refine blk_put (cs := #[.slice none 0 0, .int .i64 0]) ?_ 0 _ rfl; (with_reducible repeat (first | refine blk_drewN ?_ _ | refine blk_drew ?_ | refine blk_alloc ?_ _)); exact BK318.out⟩
                          have n3_ : Aside0 (Below w.heap.size w ((w96.setCell ⟨gb318, 0, none⟩ (.slice Ao97 t313.length co97)).setCell ⟨gb318, 1, none⟩ (.int .i64 t316))) := ⟨bl7 HB⟩
                          (try clear HO_13)
                          (try clear HO315)
                          (try clear BK318)
                          (try clear HB)
                          generalize ((w96.setCell ⟨gb318, 0, none⟩ (.slice Ao97 t313.length co97)).setCell ⟨gb318, 1, none⟩ (.int .i64 t316)) = w99 at n0_ n1_ n2_ n3_ ⊢
                          have HO_13 := n0_
                          have HO315 := n1_
                          have BK318 := n2_
                          have HB := n3_
                          clear n0_ n1_ n2_ n3_
                          have n0_ := Aside0.mk (Kd.R_drew HO_13.out)
                          have n1_ := Aside0.mk (Kd.V_drew HO315.out)
                          have n2_ := Aside0.mk (blk_drew BK318.out)
                          have n3_ := Aside0.mk (below_drew1 HB.out)
                          clear HO_13
                          clear HO315
                          clear BK318
                          clear HB
                          have HO_13 := n0_
                          have HO315 := n1_
                          have BK318 := n2_
                          have HB := n3_
                          clear n0_ n1_ n2_ n3_
                          refine start_ (n := 23) (S := fun w' => w'.cell? ⟨gb318, 0, none⟩ = some (.slice Ao97 t313.length co97) ∧ w'.cell? ⟨gb318, 1, none⟩ = some (.int .i64 t316)) (ds := []) #[false, false, false, false, false, false, false, false, false, false, false, false, false, false, false, false, false, false, false, false, false, false, false] (by kernel_rfl) rfl rfl ⟨(blk_cell BK318.out 0).trans rfl, (blk_cell BK318.out 1).trans rfl⟩ (fun hHeld => ?_); refine with_tabW cashbooklaw3_LeWrites.tab23 cashbooklaw3_LeWrites.bits23 (fun HT_ HW_ => ?_)
                          generalize w99.drew = w100 at HO_13 HO315 BK318 HB hHeld ⊢
                          refine pure_ (i := 0) (N := some 156) (v := ?_) (a' := ?_) #[true, false, false, false, false, false, false, false, false, false, false, false, false, false, false, false, false, false, false, false, false, false, false] rfl rfl (any_of HT_.out (by kernel_rfl)) (fun _ _ _ h => h) (Or.inl ⟨by rfl, ?_⟩) ?_ ?_
                          rotate_left
                          · intro w'
                            go_simp
                            with_reducible rfl
                          rotate_left
                          · simp only [Act.put, List.setIfInBounds_toArray, List.set_cons_zero, List.set_cons_succ, i64_w, i32_w]
                            rfl
                          refine pure_ (i := 1) (N := some 157) (v := ?_) (a' := ?_) #[true, true, false, false, false, false, false, false, false, false, false, false, false, false, false, false, false, false, false, false, false, false, false] rfl rfl (any_of HT_.out (by kernel_rfl)) (fun _ _ _ h => h) (Or.inl ⟨by rfl, ?_⟩) ?_ ?_
                          rotate_left
                          · intro w'
                            go_simp
                            with_reducible rfl
                          rotate_left
                          · simp only [Act.put, List.setIfInBounds_toArray, List.set_cons_zero, List.set_cons_succ, i64_w, i32_w]
                            rfl
                          refine pure_ (i := 2) (N := some 158) (v := ?_) (a' := ?_) #[true, true, true, false, false, false, false, false, false, false, false, false, false, false, false, false, false, false, false, false, false, false, false] rfl rfl (any_of HT_.out (by kernel_rfl)) (fun _ _ _ h => h) (Or.inl ⟨by rfl, ?_⟩) ?_ ?_
                          rotate_left
                          · intro w'
                            go_simp
                            with_reducible rfl
                          rotate_left
                          · simp only [Act.put, List.setIfInBounds_toArray, List.set_cons_zero, List.set_cons_succ, i64_w, i32_w]
                            rfl
                          refine pure_ (i := 3) (N := some 159) (v := ?_) (a' := ?_) #[true, true, true, true, false, false, false, false, false, false, false, false, false, false, false, false, false, false, false, false, false, false, false] rfl rfl (any_of HT_.out (by kernel_rfl)) (fun _ _ _ h => h) (Or.inl ⟨by rfl, ?_⟩) ?_ ?_
                          rotate_left
                          · intro w'
                            go_simp
                            with_reducible rfl
                          rotate_left
                          · simp only [Act.put, List.setIfInBounds_toArray, List.set_cons_zero, List.set_cons_succ, i64_w, i32_w]
                            rfl
                          refine pure_ (i := 4) (N := some 160) (v := ?_) (a' := ?_) #[true, true, true, true, true, false, false, false, false, false, false, false, false, false, false, false, false, false, false, false, false, false, false] rfl rfl (any_of HT_.out (by kernel_rfl)) (fun _ _ _ h => h) (Or.inl ⟨by rfl, ?_⟩) ?_ ?_
                          rotate_left
                          · intro w'
                            go_simp
                            with_reducible rfl
                          rotate_left
                          · simp only [Act.put, List.setIfInBounds_toArray, List.set_cons_zero, List.set_cons_succ, i64_w, i32_w]
                            rfl
                          refine pure_ (i := 5) (N := some 161) (v := ?_) (a' := ?_) #[true, true, true, true, true, true, false, false, false, false, false, false, false, false, false, false, false, false, false, false, false, false, false] rfl rfl (any_of HT_.out (by kernel_rfl)) (fun _ _ _ h => h) (Or.inl ⟨by rfl, ?_⟩) ?_ ?_
                          rotate_left
                          · intro w'
                            go_simp
                            with_reducible rfl
                          rotate_left
                          · simp only [Act.put, List.setIfInBounds_toArray, List.set_cons_zero, List.set_cons_succ, i64_w, i32_w]
                            rfl
                          refine pure_ (i := 6) (N := some 162) (v := ?_) (a' := ?_) #[true, true, true, true, true, true, true, false, false, false, false, false, false, false, false, false, false, false, false, false, false, false, false] rfl rfl (any_of HT_.out (by kernel_rfl)) (fun _ _ _ h => h) (Or.inl ⟨by rfl, ?_⟩) ?_ ?_
                          rotate_left
                          · intro w'
                            go_simp
                            with_reducible rfl
                          rotate_left
                          · simp only [Act.put, List.setIfInBounds_toArray, List.set_cons_zero, List.set_cons_succ, i64_w, i32_w]
                            rfl
                          refine pure_ (i := 7) (N := some 163) (v := ?_) (a' := ?_) #[true, true, true, true, true, true, true, true, false, false, false, false, false, false, false, false, false, false, false, false, false, false, false] rfl rfl (any_of HT_.out (by kernel_rfl)) (fun _ _ _ h => h) (Or.inl ⟨by rfl, ?_⟩) ?_ ?_
                          rotate_left
                          · intro w'
                            go_simp
                            with_reducible rfl
                          rotate_left
                          · simp only [Act.put, List.setIfInBounds_toArray, List.set_cons_zero, List.set_cons_succ, i64_w, i32_w]
                            rfl
                          refine take_ (i := 8) (N := some 164) (v := ?_) (a' := ?_) #[true, true, true, true, true, true, true, true, true, false, false, false, false, false, false, false, false, false, false, false, false, false, false] rfl rfl (take_ofW HT_.out HW_.out (by kernel_rfl)) (fun _ _ _ h => h) (Or.inl ⟨by rfl, ?_⟩) hHeld ?_ ?_
                          rotate_left
                          · rintro w' ⟨s0, s1⟩
                            go_simp
                            with_reducible rfl
                          rotate_left
                          · simp only [Act.put, List.setIfInBounds_toArray, List.set_cons_zero, List.set_cons_succ, i64_w, i32_w]
                            rfl
                          refine one_ (i := 9) (N := some 165) #[true, true, true, true, true, true, true, true, true, true, false, false, false, false, false, false, false, false, false, false, false, false, false] rfl rfl (one_of HT_.out (by kernel_rfl)) (by decide) (fun K hK => ?_)
                          refine goes_ Try.func31 (by kernel_rfl) rfl #[.agg #[.slice Ao97 t313.length co97, .int .i64 t316]] (by rfl) rfl rfl (by (try simp only [List.map_toArray, List.map_cons, List.map_nil]); first | done | rfl | (simp only [List.length_drop, List.length_take]; rfl)) ?_
                          with_reducible refine (le_End.calls kj62 _ _ t313 t316 t319 _ ?side1 ?side2 A91.out).mono ?_
                          (case side1 => repeat (first | exact (Kd.V_reads' HO315.out).2.2 | (with_reducible refine Kd.C_alloc ?_ _) | (with_reducible refine Kd.C_drewN ?_ _) | (with_reducible refine Kd.C_drew ?_)))
                          (case side2 => exact (Kd.V_reads' HO315.out).2.1)
                          rintro e w101 ⟨rfl, hb⟩
                          refine ⟨_, rfl, ?_⟩
                          have n0_ := rb7 HO_13 hb
                          have n1_ := vb7 HO315 hb
                          have n2_ := bk7 BK318 hb
                          have n3_ := Aside0.mk (below_step (bl7 HB) hb)
                          clear HO_13
                          clear HO315
                          clear BK318
                          clear HB
                          have HO_13 := n0_
                          have HO315 := n1_
                          have BK318 := n2_
                          have HB := n3_
                          clear n0_ n1_ n2_ n3_
                          (try clear hb)
                          (try clear hb2)
                          (try clear hk)
                          (try clear hi)
                          refine hK.out _ _ ⟨(blk_cell BK318.out 0).trans rfl, (blk_cell BK318.out 1).trans rfl⟩ (fun hHeld => ?_)
                          clear hK K
                          refine norm_ (a' := ?_) ?_ ?_
                          rotate_left
                          · show Act.put _ (some 165) _ = _
                            simp only [Act.put, List.setIfInBounds_toArray, List.set_cons_zero, List.set_cons_succ, i64_w, i32_w]
                            rfl
                          refine pure_ (i := 10) (N := some 166) (v := ?_) (a' := ?_) #[true, true, true, true, true, true, true, true, true, true, true, false, false, false, false, false, false, false, false, false, false, false, false] rfl rfl (any_of HT_.out (by kernel_rfl)) (fun _ _ _ h => h) (Or.inl ⟨by rfl, ?_⟩) ?_ ?_
                          rotate_left
                          · intro w'
                            go_simp
                            with_reducible rfl
                          rotate_left
                          · simp only [Act.put, List.setIfInBounds_toArray, List.set_cons_zero, List.set_cons_succ, i64_w, i32_w]
                            rfl
                          refine pure_ (i := 11) (N := some 167) (v := ?_) (a' := ?_) #[true, true, true, true, true, true, true, true, true, true, true, true, false, false, false, false, false, false, false, false, false, false, false] rfl rfl (any_of HT_.out (by kernel_rfl)) (fun _ _ _ h => h) (Or.inl ⟨by rfl, ?_⟩) ?_ ?_
                          rotate_left
                          · intro w'
                            go_simp
                            with_reducible rfl
                          rotate_left
                          · simp only [Act.put, List.setIfInBounds_toArray, List.set_cons_zero, List.set_cons_succ, i64_w, i32_w]
                            rfl
                          refine pure_ (i := 12) (N := some 168) (v := ?_) (a' := ?_) #[true, true, true, true, true, true, true, true, true, true, true, true, true, false, false, false, false, false, false, false, false, false, false] rfl rfl (any_of HT_.out (by kernel_rfl)) (fun _ _ _ h => h) (Or.inl ⟨by rfl, ?_⟩) ?_ ?_
                          rotate_left
                          · intro w'
                            go_simp
                            with_reducible rfl
                          rotate_left
                          · simp only [Act.put, List.setIfInBounds_toArray, List.set_cons_zero, List.set_cons_succ, i64_w, i32_w]
                            rfl
                          refine pure_ (i := 13) (N := some 169) (v := ?_) (a' := ?_) #[true, true, true, true, true, true, true, true, true, true, true, true, true, true, false, false, false, false, false, false, false, false, false] rfl rfl (any_of HT_.out (by kernel_rfl)) (fun _ _ _ h => h) (Or.inl ⟨by rfl, ?_⟩) ?_ ?_
                          rotate_left
                          · intro w'
                            go_simp
                            with_reducible rfl
                          rotate_left
                          · simp only [Act.put, List.setIfInBounds_toArray, List.set_cons_zero, List.set_cons_succ, i64_w, i32_w]
                            rfl
                          refine pure_ (i := 15) (N := some 171) (v := ?_) (a' := ?_) #[true, true, true, true, true, true, true, true, true, true, true, true, true, true, false, true, false, false, false, false, false, false, false] rfl rfl (any_of HT_.out (by kernel_rfl)) (fun _ _ _ h => h) (Or.inl ⟨by rfl, ?_⟩) ?_ ?_
                          rotate_left
                          · intro w'
                            go_simp
                            with_reducible rfl
                          rotate_left
                          · simp only [Act.put, List.setIfInBounds_toArray, List.set_cons_zero, List.set_cons_succ, i64_w, i32_w]
                            rfl
                          refine pure_ (i := 16) (N := some 172) (v := ?_) (a' := ?_) #[true, true, true, true, true, true, true, true, true, true, true, true, true, true, false, true, true, false, false, false, false, false, false] rfl rfl (any_of HT_.out (by kernel_rfl)) (fun _ _ _ h => h) (Or.inl ⟨by rfl, ?_⟩) ?_ ?_
                          rotate_left
                          · intro w'
                            go_simp
                            with_reducible rfl
                          rotate_left
                          · simp only [Act.put, List.setIfInBounds_toArray, List.set_cons_zero, List.set_cons_succ, i64_w, i32_w]
                            rfl
                          refine pure_ (i := 17) (N := some 173) (v := ?_) (a' := ?_) #[true, true, true, true, true, true, true, true, true, true, true, true, true, true, false, true, true, true, false, false, false, false, false] rfl rfl (any_of HT_.out (by kernel_rfl)) (fun _ _ _ h => h) (Or.inl ⟨by rfl, ?_⟩) ?_ ?_
                          rotate_left
                          · intro w'
                            go_simp
                            with_reducible rfl
                          rotate_left
                          · simp only [Act.put, List.setIfInBounds_toArray, List.set_cons_zero, List.set_cons_succ, i64_w, i32_w]
                            rfl
                          refine join_ (σ := Value) 3 #[true, true, true, true, true, true, true, true, true, true, true, true, true, true, true, true, true, true, true, true, false, false, false] (fun s_ => [(170, .string (strOfNums t287)), (174, s_), (175, .string (strOfNums t320))]) (fun s_ w' => (w'.cell? ⟨gb318, 0, none⟩ = some (.slice Ao97 t313.length co97) ∧ w'.cell? ⟨gb318, 1, none⟩ = some (.int .i64 t316)) ∧ (Kd.V (Kd.int .u8) 5 w' w.heap.size (fun k_ => some k_ ≠ (s_ : Value).ownBlock ∧ k_ ≠ gb318) (.slice Ao97 t313.length co97) t313) ∧ (Kd.R (Kd.int .u8) 5 w' w.heap.size (fun k_ => some k_ ≠ (.slice Ao94 t287.length co94 : Value).ownBlock) s_ t320) ∧ (Kd.R (Kd.int .u8) 5 w' w.heap.size (fun k_ => some k_ ≠ (s_ : Value).ownBlock) (.slice Ao94 t287.length co94) t287) ∧ (w'.heap[gb318]? = some (.cells #[.slice Ao97 t313.length co97, .int .i64 t316] 46 (0, 0))) ∧ (Below w.heap.size w w')) ?_ ?_
                          rotate_left
                          · intro hCont
                            refine two_ (i := 14) (j := 18) (Ni := some 170) (Nj := some 174) #[true, true, true, true, true, true, true, true, true, true, true, true, true, true, true, true, true, true, false, false, false, false, false] #[true, true, true, true, true, true, true, true, true, true, true, true, true, true, false, true, true, true, true, false, false, false, false] rfl rfl rfl rfl (two_of HT_.out (by kernel_rfl)) (by decide) (by decide) (fun K hK => ?_) (fun K hK => ?_)
                            · skip
                              have hcv102 := own_string (P := Try.prog) Try.underlying44 Try.underlying5 Try.underlying9 (Kd.own_of_R HO_13.out)
                              refine value_ (w1 := ?_) (v := ?_) (by rfl) rfl ?_ ?_
                              rotate_left 2
                              · go_simp
                                constructor
                                · rfl
                                · rfl
                              clear hcv102
                              refine hK.out _ _ ⟨(blk_cell BK318.out 0).trans rfl, (blk_cell BK318.out 1).trans rfl⟩ (fun hHeld => ?_)
                              clear hK K
                              refine norm_ (a' := ?_) ?_ ?_
                              rotate_left
                              · show Act.put _ (some 170) _ = _
                                simp only [Act.put, List.setIfInBounds_toArray, List.set_cons_zero, List.set_cons_succ, i64_w, i32_w]
                                rfl
                              refine one_ (i := 18) (N := some 174) #[true, true, true, true, true, true, true, true, true, true, true, true, true, true, true, true, true, true, true, false, false, false, false] rfl rfl (one_of HT_.out (by kernel_rfl)) (by decide) (fun K hK => ?_)
                              refine goes_ Try.func37 (by kernel_rfl) rfl #[.slice A0 l0.length c0, .int .u64 (IntKind.u64.wrap (a3)), .int .i64 8] (by rfl) rfl rfl (by (try simp only [List.map_toArray, List.map_cons, List.map_nil]); first | done | rfl | (simp only [List.length_drop, List.length_take]; rfl)) ?_
                              with_reducible refine (cashbookref7_PutLow.calls kj62 _ _ l0 (IntKind.u64.wrap (a3)) 8 t320 _ ?side1 ?side2 A93.out).mono ?_
                              (case side1 => repeat (first | exact (Kd.C_below HR0.out HB.out) | (with_reducible refine Kd.C_alloc ?_ _) | (with_reducible refine Kd.C_drewN ?_ _) | (with_reducible refine Kd.C_drew ?_)))
                              (case side2 => exact HC0.out)
                              rintro e w103 ⟨v321, rfl, ho0, hb⟩
                              refine ⟨_, rfl, ?_⟩
                              have n0_ := Aside0.mk (Kd.R_elder' (rq7 HO_13) (Kd.R_base ho0) hb)
                              have n1_ := Aside0.mk (Kd.V_elder' (vq7 HO315) (Kd.R_base ho0) hb)
                              have n2_ := Aside0.mk (Kd.R_lower (Kd.R_new' ho0 (Kd.R_lt (rq7 HO_13))) (below_size (bl7 HB)))
                              have n3_ := bk7 BK318 hb
                              have n4_ := Aside0.mk (below_step (bl7 HB) hb)
                              clear HO_13
                              clear HO315
                              clear BK318
                              clear HB
                              have HO_13 := n0_
                              have HO315 := n1_
                              have HO322 := n2_
                              have BK318 := n3_
                              have HB := n4_
                              clear n0_ n1_ n2_ n3_ n4_
                              (try clear hb)
                              (try clear hb2)
                              (try clear hk)
                              (try clear hi)
                              (try clear ho0)
                              refine hK.out _ _ ⟨(blk_cell BK318.out 0).trans rfl, (blk_cell BK318.out 1).trans rfl⟩ (fun hHeld => ?_)
                              clear hK K
                              refine norm_ (a' := ?_) ?_ ?_
                              rotate_left
                              · show Act.put _ (some 174) _ = _
                                simp only [Act.put, List.setIfInBounds_toArray, List.set_cons_zero, List.set_cons_succ, i64_w, i32_w]
                                rfl
                              refine one_ (i := 19) (N := some 175) #[true, true, true, true, true, true, true, true, true, true, true, true, true, true, true, true, true, true, true, true, false, false, false] rfl rfl (one_of HT_.out (by kernel_rfl)) (by decide) (fun K hK => ?_)
                              have hcv104 := own_string (P := Try.prog) Try.underlying44 Try.underlying5 Try.underlying9 (Kd.own_of_R HO322.out)
                              refine value_ (w1 := ?_) (v := ?_) (by rfl) rfl ?_ ?_
                              rotate_left 2
                              · go_simp
                                constructor
                                · rfl
                                · rfl
                              clear hcv104
                              refine hK.out _ _ ⟨(blk_cell BK318.out 0).trans rfl, (blk_cell BK318.out 1).trans rfl⟩ (fun hHeld => ?_)
                              clear hK K
                              refine norm_ (a' := ?_) ?_ ?_
                              rotate_left
                              · show Act.put _ (some 175) _ = _
                                simp only [Act.put, List.setIfInBounds_toArray, List.set_cons_zero, List.set_cons_succ, i64_w, i32_w]
                                rfl
                              exact norm_ (by simp only [putAll, Act.put, List.setIfInBounds_toArray, List.set_cons_zero, List.set_cons_succ]) (hCont (v321) _ ⟨hHeld, (by (with_reducible repeat (first | apply Kd.V_alloc | apply Kd.V_drewN | apply Kd.V_drew)); exact Kd.V_mono HO315.out (fun _ hk => ⟨hk.2, hk.1⟩)), (by (with_reducible repeat (first | apply Kd.R_alloc | apply Kd.R_drewN | apply Kd.R_drew)); exact Kd.R_mono HO322.out (fun _ hk => hk.2)), (by (with_reducible repeat (first | apply Kd.R_alloc | apply Kd.R_drewN | apply Kd.R_drew)); exact Kd.R_mono HO_13.out (fun _ hk => hk.2)), (bq7 BK318), (bl7 HB)⟩)
                            · skip
                              refine goes_ Try.func37 (by kernel_rfl) rfl #[.slice A0 l0.length c0, .int .u64 (IntKind.u64.wrap (a3)), .int .i64 8] (by rfl) rfl rfl (by (try simp only [List.map_toArray, List.map_cons, List.map_nil]); first | done | rfl | (simp only [List.length_drop, List.length_take]; rfl)) ?_
                              with_reducible refine (cashbookref7_PutLow.calls kj62 _ _ l0 (IntKind.u64.wrap (a3)) 8 t320 _ ?side1 ?side2 A93.out).mono ?_
                              (case side1 => repeat (first | exact (Kd.C_below HR0.out HB.out) | (with_reducible refine Kd.C_alloc ?_ _) | (with_reducible refine Kd.C_drewN ?_ _) | (with_reducible refine Kd.C_drew ?_)))
                              (case side2 => exact HC0.out)
                              rintro e w102 ⟨v321, rfl, ho0, hb⟩
                              refine ⟨_, rfl, ?_⟩
                              have n0_ := Aside0.mk (Kd.R_elder' (rq7 HO_13) (Kd.R_base ho0) hb)
                              have n1_ := Aside0.mk (Kd.V_elder' (vq7 HO315) (Kd.R_base ho0) hb)
                              have n2_ := Aside0.mk (Kd.R_lower (Kd.R_new' ho0 (Kd.R_lt (rq7 HO_13))) (below_size (bl7 HB)))
                              have n3_ := bk7 BK318 hb
                              have n4_ := Aside0.mk (below_step (bl7 HB) hb)
                              clear HO_13
                              clear HO315
                              clear BK318
                              clear HB
                              have HO_13 := n0_
                              have HO315 := n1_
                              have HO322 := n2_
                              have BK318 := n3_
                              have HB := n4_
                              clear n0_ n1_ n2_ n3_ n4_
                              (try clear hb)
                              (try clear hb2)
                              (try clear hk)
                              (try clear hi)
                              (try clear ho0)
                              refine hK.out _ _ ⟨(blk_cell BK318.out 0).trans rfl, (blk_cell BK318.out 1).trans rfl⟩ (fun hHeld => ?_)
                              clear hK K
                              refine norm_ (a' := ?_) ?_ ?_
                              rotate_left
                              · show Act.put _ (some 174) _ = _
                                simp only [Act.put, List.setIfInBounds_toArray, List.set_cons_zero, List.set_cons_succ, i64_w, i32_w]
                                rfl
                              refine two_ (i := 14) (j := 19) (Ni := some 170) (Nj := some 175) #[true, true, true, true, true, true, true, true, true, true, true, true, true, true, true, true, true, true, true, false, false, false, false] #[true, true, true, true, true, true, true, true, true, true, true, true, true, true, false, true, true, true, true, true, false, false, false] rfl rfl rfl rfl (two_of HT_.out (by kernel_rfl)) (by decide) (by decide) (fun K hK => ?_) (fun K hK => ?_)
                              · skip
                                have hcv103 := own_string (P := Try.prog) Try.underlying44 Try.underlying5 Try.underlying9 (Kd.own_of_R HO_13.out)
                                refine value_ (w1 := ?_) (v := ?_) (by rfl) rfl ?_ ?_
                                rotate_left 2
                                · go_simp
                                  constructor
                                  · rfl
                                  · rfl
                                clear hcv103
                                refine hK.out _ _ ⟨(blk_cell BK318.out 0).trans rfl, (blk_cell BK318.out 1).trans rfl⟩ (fun hHeld => ?_)
                                clear hK K
                                refine norm_ (a' := ?_) ?_ ?_
                                rotate_left
                                · show Act.put _ (some 170) _ = _
                                  simp only [Act.put, List.setIfInBounds_toArray, List.set_cons_zero, List.set_cons_succ, i64_w, i32_w]
                                  rfl
                                refine one_ (i := 19) (N := some 175) #[true, true, true, true, true, true, true, true, true, true, true, true, true, true, true, true, true, true, true, true, false, false, false] rfl rfl (one_of HT_.out (by kernel_rfl)) (by decide) (fun K hK => ?_)
                                have hcv104 := own_string (P := Try.prog) Try.underlying44 Try.underlying5 Try.underlying9 (Kd.own_of_R HO322.out)
                                refine value_ (w1 := ?_) (v := ?_) (by rfl) rfl ?_ ?_
                                rotate_left 2
                                · go_simp
                                  constructor
                                  · rfl
                                  · rfl
                                clear hcv104
                                refine hK.out _ _ ⟨(blk_cell BK318.out 0).trans rfl, (blk_cell BK318.out 1).trans rfl⟩ (fun hHeld => ?_)
                                clear hK K
                                refine norm_ (a' := ?_) ?_ ?_
                                rotate_left
                                · show Act.put _ (some 175) _ = _
                                  simp only [Act.put, List.setIfInBounds_toArray, List.set_cons_zero, List.set_cons_succ, i64_w, i32_w]
                                  rfl
                                exact norm_ (by simp only [putAll, Act.put, List.setIfInBounds_toArray, List.set_cons_zero, List.set_cons_succ]) (hCont (v321) _ ⟨hHeld, (by (with_reducible repeat (first | apply Kd.V_alloc | apply Kd.V_drewN | apply Kd.V_drew)); exact Kd.V_mono HO315.out (fun _ hk => ⟨hk.2, hk.1⟩)), (by (with_reducible repeat (first | apply Kd.R_alloc | apply Kd.R_drewN | apply Kd.R_drew)); exact Kd.R_mono HO322.out (fun _ hk => hk.2)), (by (with_reducible repeat (first | apply Kd.R_alloc | apply Kd.R_drewN | apply Kd.R_drew)); exact Kd.R_mono HO_13.out (fun _ hk => hk.2)), (bq7 BK318), (bl7 HB)⟩)
                              · skip
                                have hcv103 := own_string (P := Try.prog) Try.underlying44 Try.underlying5 Try.underlying9 (Kd.own_of_R HO322.out)
                                refine value_ (w1 := ?_) (v := ?_) (by rfl) rfl ?_ ?_
                                rotate_left 2
                                · go_simp
                                  constructor
                                  · rfl
                                  · rfl
                                clear hcv103
                                refine hK.out _ _ ⟨(blk_cell BK318.out 0).trans rfl, (blk_cell BK318.out 1).trans rfl⟩ (fun hHeld => ?_)
                                clear hK K
                                refine norm_ (a' := ?_) ?_ ?_
                                rotate_left
                                · show Act.put _ (some 175) _ = _
                                  simp only [Act.put, List.setIfInBounds_toArray, List.set_cons_zero, List.set_cons_succ, i64_w, i32_w]
                                  rfl
                                refine one_ (i := 14) (N := some 170) #[true, true, true, true, true, true, true, true, true, true, true, true, true, true, true, true, true, true, true, true, false, false, false] rfl rfl (one_of HT_.out (by kernel_rfl)) (by decide) (fun K hK => ?_)
                                have hcv104 := own_string (P := Try.prog) Try.underlying44 Try.underlying5 Try.underlying9 (Kd.own_of_R HO_13.out)
                                refine value_ (w1 := ?_) (v := ?_) (by rfl) rfl ?_ ?_
                                rotate_left 2
                                · go_simp
                                  constructor
                                  · rfl
                                  · rfl
                                clear hcv104
                                refine hK.out _ _ ⟨(blk_cell BK318.out 0).trans rfl, (blk_cell BK318.out 1).trans rfl⟩ (fun hHeld => ?_)
                                clear hK K
                                refine norm_ (a' := ?_) ?_ ?_
                                rotate_left
                                · show Act.put _ (some 170) _ = _
                                  simp only [Act.put, List.setIfInBounds_toArray, List.set_cons_zero, List.set_cons_succ, i64_w, i32_w]
                                  rfl
                                exact norm_ (by simp only [putAll, Act.put, List.setIfInBounds_toArray, List.set_cons_zero, List.set_cons_succ]) (hCont (v321) _ ⟨hHeld, (by (with_reducible repeat (first | apply Kd.V_alloc | apply Kd.V_drewN | apply Kd.V_drew)); exact Kd.V_mono HO315.out (fun _ hk => ⟨hk.2, hk.1⟩)), (by (with_reducible repeat (first | apply Kd.R_alloc | apply Kd.R_drewN | apply Kd.R_drew)); exact Kd.R_mono HO322.out (fun _ hk => hk.2)), (by (with_reducible repeat (first | apply Kd.R_alloc | apply Kd.R_drewN | apply Kd.R_drew)); exact Kd.R_mono HO_13.out (fun _ hk => hk.2)), (bq7 BK318), (bl7 HB)⟩)
                          rintro v321 w105 ⟨hS_, h0_, h1_, h2_, h3_, h4_⟩
                          have n0_ : Aside0 (Kd.V (Kd.int .u8) 5 w105 w.heap.size (fun k_ => some k_ ≠ (v321 : Value).ownBlock ∧ k_ ≠ gb318) (.slice Ao97 t313.length co97) t313) := ⟨h0_⟩
                          have n1_ : Aside0 (Kd.R (Kd.int .u8) 5 w105 w.heap.size (fun k_ => some k_ ≠ (.slice Ao94 t287.length co94 : Value).ownBlock) v321 t320) := ⟨h1_⟩
                          have n2_ : Aside0 (Kd.R (Kd.int .u8) 5 w105 w.heap.size (fun k_ => some k_ ≠ (v321 : Value).ownBlock) (.slice Ao94 t287.length co94) t287) := ⟨h2_⟩
                          have n3_ : Aside0 (w105.heap[gb318]? = some (.cells #[.slice Ao97 t313.length co97, .int .i64 t316] 46 (0, 0))) := ⟨h3_⟩
                          have n4_ : Aside0 (Below w.heap.size w w105) := ⟨h4_⟩
                          clear HO_13
                          clear HO315
                          clear BK318
                          clear HB
                          clear h0_ h1_ h2_ h3_ h4_
                          have HO315 := n0_
                          have HO322 := n1_
                          have HO_13 := n2_
                          have BK318 := n3_
                          have HB := n4_
                          clear n0_ n1_ n2_ n3_ n4_
                          have hHeld : w105.cell? ⟨gb318, 0, none⟩ = some (.slice Ao97 t313.length co97) ∧ w105.cell? ⟨gb318, 1, none⟩ = some (.int .i64 t316) := hS_
                          refine norm_ (a' := ?_) ?_ ?_
                          rotate_left
                          · simp only [putAll, Act.put, List.setIfInBounds_toArray, List.set_cons_zero, List.set_cons_succ]
                            rfl
                          refine pure_ (i := 20) (N := some 176) (v := ?_) (a' := ?_) #[true, true, true, true, true, true, true, true, true, true, true, true, true, true, true, true, true, true, true, true, true, false, false] rfl rfl (any_of HT_.out (by kernel_rfl)) (fun _ _ _ h => h) (Or.inl ⟨by rfl, ?_⟩) ?_ ?_
                          rotate_left
                          · intro w'
                            go_simp
                            with_reducible rfl
                          rotate_left
                          · simp only [Act.put, List.setIfInBounds_toArray, List.set_cons_zero, List.set_cons_succ, i64_w, i32_w]
                            rfl
                          refine pure_ (i := 21) (N := some 177) (v := ?_) (a' := ?_) #[true, true, true, true, true, true, true, true, true, true, true, true, true, true, true, true, true, true, true, true, true, true, false] rfl rfl (any_of HT_.out (by kernel_rfl)) (fun _ _ _ h => h) (Or.inl ⟨by rfl, ?_⟩) ?_ ?_
                          rotate_left
                          · intro w'
                            go_simp
                            with_reducible rfl
                          rotate_left
                          · simp only [Act.put, List.setIfInBounds_toArray, List.set_cons_zero, List.set_cons_succ, i64_w, i32_w]
                            rfl
                          refine pure_ (i := 22) (N := some 8) (v := ?_) (a' := ?_) #[true, true, true, true, true, true, true, true, true, true, true, true, true, true, true, true, true, true, true, true, true, true, true] rfl rfl (any_of HT_.out (by kernel_rfl)) (fun _ _ _ h => h) (Or.inl ⟨by rfl, ?_⟩) ?_ ?_
                          rotate_left
                          · intro w'
                            go_simp
                            with_reducible rfl
                          rotate_left
                          · simp only [Act.put, List.setIfInBounds_toArray, List.set_cons_zero, List.set_cons_succ, i64_w, i32_w]
                            rfl
                          refine done_ (done_of HT_.out (by kernel_rfl)) ?_
                          try go_wp2
                          go_ret
                          exact ⟨by first | rfl | (simp [errW_none, errW_some] <;> rfl) | (simp [*, errW_none, errW_some] <;> rfl), bl7 HB⟩
                        · rw [if_neg c92] at H
                          have c92b0 : (t319 == 0) = false := beq_eq_false_iff_ne.mpr c92
                          have c92b1 : (t319 != 0) = true := bne_iff_ne.mpr c92
                          exact absurd H (by simp)
                      · rw [if_neg c90] at H
                        have c90b0 : (t312 == a3) = false := beq_eq_false_iff_ne.mpr c90
                        have c90b1 : (t312 != a3) = true := bne_iff_ne.mpr c90
                        exact absurd H (by simp)
                    · rw [if_neg c89] at H
                      have c89b0 : (t317 == 0) = false := beq_eq_false_iff_ne.mpr c89
                      have c89b1 : (t317 != 0) = true := bne_iff_ne.mpr c89
                      exact absurd H (by simp)
  · replace c6 := Bool.eq_false_iff.mpr c6
    subst c6
    have H1 : (none) = some r := by rw [if_neg (show ¬ (false = true) by decide)] at H; exact H
    clear H
    have H := H1
    clear H1
    exact absurd H (by simp)

/-- THE ONE PURE STATEMENT of cashbooklaw3_LeWrites: yours. -/
def cashbooklaw3_LeWrites.Pure : Prop := ∀ (l0 : List Int) (a1 : Int) (a2 : Int) (a3 : Int), l0.length ≤ maxLen → l0.length * 1 ≤ 140737488351232 → (∀ x ∈ l0, (Lit.int .u8 x).wf = true) → (Lit.int .i64 a1).wf = true → (Lit.int .i64 a2).wf = true → (Lit.int .i64 a3).wf = true → ∃ k, cashbooklaw3_LeWrites.f k l0 a1 a2 a3 = some true
theorem cashbooklaw3_LeWrites.walk (P : cashbooklaw3_LeWrites.Pure) (a0 : Option Addr) (len0 cap0 : Nat) (z0 : List Int) (a1 : Int) (a2 : Int) (a3 : Int) (w : World) (w0 : (a0 = none ∧ len0 = 0 ∧ cap0 = 0 ∧ z0 = []) ∨ ∃ x, a0 = some x ∧ len0 ≤ cap0 ∧ cap0 ≤ maxLen ∧ z0.length = cap0 ∧ (∀ i, i < z0.length → w.cell? (x.add i) = some (.int .u8 (z0.getD i 0))) ∧ ∀ n ∈ z0, (Lit.int .u8 n).wf = true) (y0 : len0 * 1 ≤ 140737488351232) (w1 : (Lit.int .i64 a1).wf = true) (w2 : (Lit.int .i64 a2).wf = true) (w3 : (Lit.int .i64 a3).wf = true) :
    Calls Try.prog 8 #[.slice a0 len0 cap0, .int .i64 a1, .int .i64 a2, .int .i64 a3] w fun e w' => e = .returned (.bool true) ∧ Below w.heap.size w w' := by
  obtain ⟨l0, rfl, hr0, hm0, hw0, hc0⟩ := ReadsInt.ofRowC w0
  obtain ⟨k, h⟩ := P l0 a1 a2 a3 hm0 y0 hw0 w1 w2 w3
  refine (cashbooklaw3_LeWrites.calls k _ _ l0 a1 a2 a3 true w (Kd.C_of_reads (d := (0 : Int)) (h1 := fun _ => rfl) hr0) hc0 h).mono ?_
  rintro e w' ⟨rfl, hd⟩
  exact ⟨rfl, hd⟩

end Go.Proofs.Ytnbllonnfbejgaa.Lw
