/- SubCounts: the law is true for every argument, and leaves all as it was. No further conditions. -/
import Derived.Test.YtcghkmihbfibkaaRows
import Derived.Test.YtcghkmihbfibkaaOpenU
import Derived.WalkKit
import Derived.ProofKit
import Derived.OpenShut
import Derived.ShutString
import Derived.ChangeOld
import Derived.Below
import Derived.SizedLaws
set_option linter.all false
namespace Go.Proofs.Ytcghkmihbfibkaa.subCounts
open Go.ChangeShapes Go.WideShapes Go.ChangeAt Go.RowKit Go.Pv Go.Pv.Cb
set_option linter.unusedVariables false
set_option linter.unusedSimpArgs false
theorem own : ownKnob Try.prog.godebug = none := by kernel_rfl
theorem laidOut : laidOutB Try.prog = true := by kernel_rfl
theorem closed : [5].all (tyOk1 Try.prog [5]) = true := by kernel_rfl
set_option maxRecDepth 100000 in
theorem lifted (os : Os) (started : os.Started) (H : Type) (enc : TypeId × Value → H) :
    ReturnsInHanded {} Try.checked os 5 .any (Rows.subCountsSpec.pre6 enc Try.prog Try.f5 Rows.subCountsRow.domain false) (Rows.subCountsSpec.post enc Try.prog Try.f5 false true false false) := by
  refine returnsInHanded_of_change_sized (C := Try.checked) own started (by kernel_rfl) Try.func5
    (ChangeSpec.witness6 (enc := enc) (C := Try.checked) false ⟨#[], #[.int .u8 0, .int .u8 0], []⟩ 8 (by kernel_rfl) (by kernel_rfl) (by kernel_rfl) (by kernel_rfl)) ?_
  intro W base args ds gs before hval0 hW hcnd hsz0 _
  have hsz : (DataW.weightsEach Try.prog (Try.f5.params.toList ++ Rows.subCountsSpec.plain.varTypes Try.prog) (ds ++ gs)).all (· ≤ reachBytes) = true := hsz0
  have hval : ∀ (j : Nat) t v, Try.f5.params[j]? = some t → args[j]? = some v → Value.okWide Try.prog W .any base t v := hval0
  have hW' := hW
  obtain ⟨p, q, hA0, hV, rfl, hfz, hnd⟩ := hW
  have hA : DataW.TrodAll enc Try.prog W 0 (fun _ => true) true Try.f5.params.toList args.toList ds p := hA0
  rw [Try.params5] at hA hval hsz
  obtain ⟨v0, vs0, d0, ds0, p0, q0, hargs, rfl, rfl, h0, r0⟩ := trodAll_cons hA
  obtain ⟨v1, vs1, d1, ds1, p1, q1, rfl, rfl, rfl, h1, r1⟩ := trodAll_cons r0
  obtain ⟨rfl, rfl, rfl⟩ := trodAll_nil r1
  obtain rfl : args = #[v0, v1] := by cases args; simp_all
  obtain ⟨rfl, rfl⟩ := trodVars_none hV
  have hwt := List.all_eq_true.1 hsz
  obtain ⟨i0, rfl⟩ := okWide_int Try.underlying5 (hval 0 5 v0 rfl rfl)
  have k0 := h0
  have lt0 : ∀ x ∈ p0, x.block < W.heap.size := by obtain ⟨m, hm⟩ := k0; exact DataW.trod_lt m _ _ _ hm
  obtain ⟨m0, hm0⟩ := h0
  obtain ⟨ps0, ty0, rep0, _⟩ := opened closed m0 5 _ _ (by decide) hm0 (fun q hq => of_decide_eq_true (hwt q (by simp [DataW.weightsEach, hq])))
  obtain ⟨x0, hx0, rfl⟩ := ty_n8' ty0
  obtain ⟨i1, rfl⟩ := okWide_int Try.underlying5 (hval 1 5 v1 rfl rfl)
  have k1 := h1
  have lt1 : ∀ x ∈ p1, x.block < W.heap.size := by obtain ⟨m, hm⟩ := k1; exact DataW.trod_lt m _ _ _ hm
  obtain ⟨m1, hm1⟩ := h1
  obtain ⟨ps1, ty1, rep1, _⟩ := opened closed m1 5 _ _ (by decide) hm1 (fun q hq => of_decide_eq_true (hwt q (by simp [DataW.weightsEach, hq])))
  obtain ⟨x1, hx1, rfl⟩ := ty_n8' ty1
  obtain ⟨K, hK⟩ := callF_of_ans (SubCounts_law x0 hx0 x1 hx1)
  refine (law_true envOk hK (vs := [Value.int .u8 i0, Value.int .u8 i1]) ?_).mono fun e W' ⟨he, bel⟩ => ?_
  · exact argsOk_cons (CellsRep.w rep0) (argsOk_cons (CellsRep.w rep1) ((⟨rfl, fun j A v h => by simp at h⟩ : ArgsOk _ _ [] [] _)))
  subst he
  exact ⟨_, rfl, _, _, _, [], _, [], hW', trodAll_mk1 (shut_bool Try.underlying4 _), (trodAll_cons_mk (Below.trod laidOut (by kernel_rfl) (of_decide_eq_true (by kernel_rfl)) k0 bel lt0) (trodAll_cons_mk (Below.trod laidOut (by kernel_rfl) (of_decide_eq_true (by kernel_rfl)) k1 bel lt1) trodAll_mk0)), rfl, bel.frame _, fun h => by cases h⟩
theorem over : Rows.subCountsRow.holds Try.pinned (OpenSpec.ofChange Rows.subCountsSpec) :=
  OpenClaim.holds_of_wide 5 Try.f5 rfl rfl rfl rfl rfl rfl rfl ⟨rfl, rfl, rfl, rfl, rfl⟩ rfl rfl rfl rfl rfl (by kernel_rfl) Try.func5 (by kernel_rfl)
    (of_decide_eq_true (by kernel_rfl)) (by unfold Func.isWrapper; first | (rw [if_pos (by decide +kernel)]; kernel_rfl) | (rw [if_neg (by decide +kernel)]; exact ⟨rfl, rfl⟩))
    (fun os started H enc _ => lifted os started H enc)
theorem proved : Rows.SubCountsSaid := over
#print axioms proved
end Go.Proofs.Ytcghkmihbfibkaa.subCounts
namespace Go.Proofs.Ytcghkmihbfibkaa
/-- The row, under a short name, for the claim. -/
theorem subCounts_holds : Rows.SubCountsSaid := subCounts.proved
end Go.Proofs.Ytcghkmihbfibkaa
