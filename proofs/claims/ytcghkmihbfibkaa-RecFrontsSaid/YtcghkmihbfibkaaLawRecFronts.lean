/- RecFronts: the law is true for every argument, and leaves all as it was. No further conditions. -/
import Derived.Test.YtcghkmihbfibkaaRows
import Derived.Test.YtcghkmihbfibkaaOpenF
import Derived.WalkKit
import Derived.ProofKit
import Derived.OpenShut
import Derived.ShutString
import Derived.ChangeOld
import Derived.Below
import Derived.SizedLaws
set_option linter.all false
namespace Go.Proofs.Ytcghkmihbfibkaa.recFronts
open Go.ChangeShapes Go.WideShapes Go.ChangeAt Go.RowKit Go.Pv Go.Pv.Cb
set_option linter.unusedVariables false
set_option linter.unusedSimpArgs false
theorem own : ownKnob Try.prog.godebug = none := by kernel_rfl
theorem laidOut : laidOutB Try.prog = true := by kernel_rfl
theorem closed : [22, 51, 46, 5, 47, 3, 65].all (tyOk1 Try.prog [22, 51, 46, 5, 47, 3, 65]) = true := by kernel_rfl
set_option maxRecDepth 100000 in
theorem lifted (os : Os) (started : os.Started) (H : Type) (enc : TypeId × Value → H) :
    ReturnsInHanded {} Try.checked os 8 .any (Rows.recFrontsSpec.pre6 enc Try.prog Try.f8 Rows.recFrontsRow.domain false) (Rows.recFrontsSpec.post enc Try.prog Try.f8 false true false false) := by
  refine returnsInHanded_of_change_sized (C := Try.checked) own started (by kernel_rfl) Try.func8
    (ChangeSpec.witness6 (enc := enc) (C := Try.checked) false ⟨#[], #[.slice none 0 0, .int .u16 0], []⟩ 8 (by kernel_rfl) (by kernel_rfl) (by kernel_rfl) (by kernel_rfl)) ?_
  intro W base args ds gs before hval0 hW hcnd hsz0 _
  have hsz : (DataW.weightsEach Try.prog (Try.f8.params.toList ++ Rows.recFrontsSpec.plain.varTypes Try.prog) (ds ++ gs)).all (· ≤ reachBytes) = true := hsz0
  have hval : ∀ (j : Nat) t v, Try.f8.params[j]? = some t → args[j]? = some v → Value.okWide Try.prog W .any base t v := hval0
  have hW' := hW
  obtain ⟨p, q, hA0, hV, rfl, hfz, hnd⟩ := hW
  have hA : DataW.TrodAll enc Try.prog W 0 (fun _ => true) true Try.f8.params.toList args.toList ds p := hA0
  rw [Try.params8] at hA hval hsz
  obtain ⟨v0, vs0, d0, ds0, p0, q0, hargs, rfl, rfl, h0, r0⟩ := trodAll_cons hA
  obtain ⟨v1, vs1, d1, ds1, p1, q1, rfl, rfl, rfl, h1, r1⟩ := trodAll_cons r0
  obtain ⟨rfl, rfl, rfl⟩ := trodAll_nil r1
  obtain rfl : args = #[v0, v1] := by cases args; simp_all
  obtain ⟨rfl, rfl⟩ := trodVars_none hV
  have hwt := List.all_eq_true.1 hsz
  obtain ⟨a0, len0, cap0, rfl⟩ := okWide_slice Try.underlying22 (hval 0 22 v0 rfl rfl)
  have k0 := h0
  have lt0 : ∀ x ∈ p0, x.block < W.heap.size := by obtain ⟨m, hm⟩ := k0; exact DataW.trod_lt m _ _ _ hm
  obtain ⟨m0, hm0⟩ := h0
  obtain ⟨ps0, ty0, rep0, _⟩ := opened closed m0 22 _ _ (by decide) hm0 (fun q hq => of_decide_eq_true (hwt q (by simp [DataW.weightsEach, hq])))
  obtain ⟨x0, rfl⟩ := ty_recs ty0
  obtain ⟨i1, rfl⟩ := okWide_int Try.underlying65 (hval 1 65 v1 rfl rfl)
  have k1 := h1
  have lt1 : ∀ x ∈ p1, x.block < W.heap.size := by obtain ⟨m, hm⟩ := k1; exact DataW.trod_lt m _ _ _ hm
  obtain ⟨m1, hm1⟩ := h1
  obtain ⟨ps1, ty1, rep1, _⟩ := opened closed m1 65 _ _ (by decide) hm1 (fun q hq => of_decide_eq_true (hwt q (by simp [DataW.weightsEach, hq])))
  obtain ⟨x1, hx1, rfl⟩ := ty_n16' ty1
  obtain ⟨K, hK⟩ := callF_of_ans (RecFronts_spec x0 x1 hx1)
  refine (law_true envOk hK (vs := [Value.slice a0 len0 cap0, Value.int .u16 i1]) ?_).mono fun e W' ⟨he, bel⟩ => ?_
  · exact argsOk_cons (CellsRep.w rep0) (argsOk_cons (CellsRep.w rep1) ((⟨rfl, fun j A v h => by simp at h⟩ : ArgsOk _ _ [] [] _)))
  subst he
  exact ⟨_, rfl, _, _, _, [], _, [], hW', trodAll_mk1 (shut_bool Try.underlying4 _), (trodAll_cons_mk (Below.trod laidOut (by kernel_rfl) (of_decide_eq_true (by kernel_rfl)) k0 bel lt0) (trodAll_cons_mk (Below.trod laidOut (by kernel_rfl) (of_decide_eq_true (by kernel_rfl)) k1 bel lt1) trodAll_mk0)), rfl, bel.frame _, fun h => by cases h⟩
theorem over : Rows.recFrontsRow.holds Try.pinned (OpenSpec.ofChange Rows.recFrontsSpec) :=
  OpenClaim.holds_of_wide 8 Try.f8 rfl rfl rfl rfl rfl rfl rfl ⟨rfl, rfl, rfl, rfl, rfl⟩ rfl rfl rfl rfl rfl (by kernel_rfl) Try.func8 (by kernel_rfl)
    (of_decide_eq_true (by kernel_rfl)) (by unfold Func.isWrapper; first | (rw [if_pos (by decide +kernel)]; kernel_rfl) | (rw [if_neg (by decide +kernel)]; exact ⟨rfl, rfl⟩))
    (fun os started H enc _ => lifted os started H enc)
theorem proved : Rows.RecFrontsSaid := over
#print axioms proved
end Go.Proofs.Ytcghkmihbfibkaa.recFronts
namespace Go.Proofs.Ytcghkmihbfibkaa
/-- The row, under a short name, for the claim. -/
theorem recFronts_holds : Rows.RecFrontsSaid := recFronts.proved
end Go.Proofs.Ytcghkmihbfibkaa
