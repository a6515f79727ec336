-- written by a program of this session
import Derived.Test.YtnbllonnfbejgaaRows
import Derived.Test.YtnbllonnfbejgaaRkx6
import Derived.Test.YtnbllonnfbejgaaPureRkPacks
import Derived.Test.YtnbllonnfbejgaaOpen
import Derived.WalkKit
import Derived.ProofKit
import Derived.OpenShut
import Derived.ShutString
import Derived.ChangeOld
import Derived.Below
import Derived.SizedLaws
namespace Go.Proofs.Ytnbllonnfbejgaa.rkPacks
open Go.ChangeShapes Go.WideShapes Go.ChangeAt Go.RowKit Go.Proofs.Ytnbllonnfbejgaa.Rk Go.Proofs.YtnbllonnfbejgaaW.PrintWords Go.Proofs.YtnbllonnfbejgaaW.PrintLast
open Go.ChangeMaps (open_string shut_string)
set_option linter.unusedVariables false
theorem own : ownKnob Try.prog.godebug = none := by kernel_rfl
theorem laidOut : laidOutB Try.prog = true := by kernel_rfl
theorem op23 (m : Nat) : OpensN Try.prog m 23 k23 fine23 :=
  OpensN.imp (OpensN.le (opens_struct (m := m) (fun p => ⟨p.1, p.2⟩) (fun _ => rfl) Try.underlying23 (by kernel_rfl) (opensL_cons rfl (by kernel_rfl) (opens_int (by kernel_rfl)) (opensL_one rfl (by kernel_rfl) (opens_int (by kernel_rfl))))) (Nat.le_succ m)) (fun _ h_ => h_)
set_option maxRecDepth 100000 in
theorem okStruct0 {W : World} {base : Nat} {v : Value} (h : Value.okWide Try.prog W .any base 23 v) : ∃ cs, v = .agg cs := by
  unfold Value.okWide at h
  rw [Try.underlying23] at h
  obtain ⟨cs, h, _⟩ := h
  exact ⟨cs, h⟩
set_option maxRecDepth 100000 in
theorem lifted (os : Os) (started : os.Started) (H : Type) (enc : TypeId × Value → H) :
    ReturnsInHanded {} Try.checked os 3 .any (Rows.rkPacksSpec.pre6 enc Try.prog Try.f3 Rows.rkPacksRow.domain false) (Rows.rkPacksSpec.post enc Try.prog Try.f3 false true false false) := by
  refine returnsInHanded_of_change_sized (C := Try.checked) own started (by kernel_rfl) Try.func3
    (ChangeSpec.witness6 (enc := enc) (C := Try.checked) false ⟨#[], #[.agg #[.int .i64 0, .int .i64 0]], []⟩ 8 (by kernel_rfl) (by kernel_rfl) (by kernel_rfl) (by kernel_rfl)) ?_
  intro W base args ds gs before hval0 hW hcnd hsz0 _
  have hsz : (DataW.weightsEach Try.prog (Try.f3.params.toList ++ Rows.rkPacksSpec.plain.varTypes Try.prog) (ds ++ gs)).all (· ≤ reachBytes) = true := hsz0
  have hval : ∀ (j : Nat) t v, Try.f3.params[j]? = some t → args[j]? = some v → Value.okWide Try.prog W .any base t v := hval0
  have hW' := hW
  obtain ⟨p, q, hA0, hV, rfl, hfz, hnd⟩ := hW
  have hA : DataW.TrodAll enc Try.prog W 0 (fun _ => true) true Try.f3.params.toList args.toList ds p := hA0
  rw [Try.params3] at hA hval hsz
  obtain ⟨v0, vs0, d0, ds0, p0, q0, hargs, rfl, rfl, h0, r0⟩ := trodAll_cons hA
  obtain ⟨rfl, rfl, rfl⟩ := trodAll_nil r0
  obtain rfl : args = #[v0] := by cases args; simp_all
  obtain ⟨rfl, rfl⟩ := trodVars_none hV
  have k0 := h0
  have lt0 : ∀ x ∈ p0, x.block < W.heap.size := by obtain ⟨m, hm⟩ := k0; exact DataW.trod_lt m _ _ _ hm
  have wt0 : ∀ n_ ∈ d0.weights Try.prog 23, n_ ≤ reachBytes := fun n_ hn_ => of_decide_eq_true (List.all_eq_true.1 hsz n_ (DataW.weights_mem_each (j := 0) rfl rfl n_ hn_))
  obtain ⟨fu0, hf0⟩ := h0
  obtain ⟨x0, hK0, hF0⟩ := (op23 _) H enc W true fu0 _ _ (Nat.le_refl _) hf0 wt0
  obtain ⟨cs0, rfl⟩ := okStruct0 (hval 0 23 v0 rfl rfl)
  have hc0 := k23_open hK0
  obtain rfl : cs0 = #[.int .i64 x0.f0, .int .i64 x0.f1] := by apply Array.toList_inj.1; exact hc0
  clear hA0 hval0 hsz0 hsz
  obtain ⟨k, hk_⟩ := Pure.RkPacks x0.f0 x0.f1 hF0.1 hF0.2
  refine (cashbooklaw5_RkPacks.calls k x0.f0 x0.f1 true W  hk_).mono fun e W' ⟨he, bel0⟩ => ?_
  have bel : Below W.heap.size W W' := bel0
  subst he
  exact ⟨_, rfl, _, _, _, [], _, [], hW', trodAll_mk1 (shut_bool Try.underlying4 _), (trodAll_cons_mk (Below.trod laidOut (by kernel_rfl) (of_decide_eq_true (by kernel_rfl)) k0 bel lt0) trodAll_mk0), rfl, bel.frame _, fun h => by cases h⟩
theorem over : Rows.rkPacksRow.holds Try.pinned (OpenSpec.ofChange Rows.rkPacksSpec) :=
  OpenClaim.holds_of_wide 3 Try.f3 rfl rfl rfl rfl rfl rfl rfl ⟨rfl, rfl, rfl, rfl, rfl⟩ rfl rfl rfl rfl rfl (by kernel_rfl) Try.func3 (by kernel_rfl)
    (of_decide_eq_true (by kernel_rfl)) (by unfold Func.isWrapper; first | (rw [if_pos (by decide +kernel)]; kernel_rfl) | (rw [if_neg (by decide +kernel)]; exact ⟨rfl, rfl⟩))
    (fun os started H enc _ => lifted os started H enc)
theorem proved : Rows.RkPacksSaid := over
#print axioms proved
end Go.Proofs.Ytnbllonnfbejgaa.rkPacks
namespace Go.Proofs.Ytnbllonnfbejgaa
/-- The row, under a short name, for the claim. -/
theorem rkPacks_holds : Rows.RkPacksSaid := rkPacks.proved
end Go.Proofs.Ytnbllonnfbejgaa
