/- envTakes: the law is true for every argument, and leaves all as it was, where the tables of unicode/utf8 hold what the text lays: the card ties them. No further conditions. -/
import Derived.Test.YtfckadoadmdgjaaDoorRows
import Derived.Test.YtfckadoadmdgjaaDoorCards
import Derived.Test.YtfckadoadmdgjaaDoorTie
import Derived.Test.YtfckadoadmdgjaaDoorOpenG
import Derived.WalkKit
import Derived.ProofKit
import Derived.OpenShut
import Derived.ShutString
import Derived.ChangeOld
import Derived.Below
import Derived.SizedLaws
import Derived.Handed
import Derived.LaidMore
import Derived.LaidLaws
import Derived.LaidHandle
import Derived.Lib.LaidIn
import Derived.Lib.LaidU8T
import Derived.PinnedBridge
import Derived.SevenTiedAt
set_option linter.all false
namespace Go.Proofs.YtfckadoadmdgjaaDoor.envTakes
open Go.ChangeShapes Go.WideShapes Go.ChangeAt Go.RowKit Go.Pv Go.Pv.Cb
set_option linter.unusedVariables false
set_option linter.unusedSimpArgs false
theorem own : ownKnob Tryd.prog.godebug = none := by kernel_rfl
theorem laidOut : laidOutB Tryd.prog = true := by kernel_rfl
theorem closed : [77, 75, 123, 84, 82, 32, 30, 25, 29, 27, 23, 68, 66, 37, 35, 3, 2, 9, 4].all (tyOk1 Tryd.prog [77, 75, 123, 84, 82, 32, 30, 25, 29, 27, 23, 68, 66, 37, 35, 3, 2, 9, 4]) = true := by kernel_rfl
/-- The witness's world: the listed variables hold what their texts lay. -/
noncomputable def laidWorld (os : Os) : World :=
  let w0 := World.holding Tryd.prog os ⟨#[], #[], []⟩
  let put (h : Array Obj) (g : Nat) (cs : Array Value) : Array Obj := h.modify g fun
    | .cells _ t frozen => .cells cs t frozen
    | o => o
  let h1 := put w0.heap 0 (Lib.firstTab.map fun z => Value.int .u8 z).toArray
  let h2 := put h1 1 ((List.range 16).flatMap fun i => [Value.int .u8 (Lib.accLo i), Value.int .u8 (Lib.accHi i)]).toArray
  { w0 with heap := h2 }
theorem laid_met (os : Os) (args : Array Value) : laidMetH Tryd.prog Rows.envTakesRow.laid ((laidWorld os).forCall (fun _ _ => 0) ⟨#[], args, []⟩).memory := by
  rw [MakeChecks.laidMetH_plain _ _ _ (by kernel_rfl)]
  exact (LaidIn.of_run (l := Rows.envTakesRow.laid) [1, 0] 8 (by kernel_rfl) (by kernel_rfl) (by kernel_rfl) (by kernel_rfl)).met
theorem tabs {W : World} (h : laidMetH Tryd.prog Rows.envTakesRow.laid W) : IG W := by
  rw [MakeChecks.laidMetH_plain _ _ _ (by kernel_rfl)] at h
  have r3 := Lib.laidMet.reads h (n := "unicode/utf8.first") (d := Rows.laid_unicode_utf8_first) (.tail _ (.head _))
  have r4 := Lib.laidMet.reads h (n := "unicode/utf8.acceptRanges") (d := Rows.laid_unicode_utf8_acceptRanges) (.head _)
  have e3 : Rows.laid_unicode_utf8_first = Lib.firstData := by kernel_rfl
  have e4 : Rows.laid_unicode_utf8_acceptRanges (H := Unit) = Lib.acceptData := by kernel_rfl
  rw [e3] at r3
  rw [e4] at r4
  exact utf8Tabs_of_readsT (U8Types.of196 Tryd.laysValid) ⟨by kernel_rfl, by kernel_rfl, by kernel_rfl, by kernel_rfl, by kernel_rfl, by kernel_rfl, by kernel_rfl⟩ r3 r4
set_option maxRecDepth 100000 in
theorem lifted (os : Os) (started : os.Started) (H : Type) (enc : TypeId × Value → H) :
    ReturnsInHanded {} Tryd.checked os 8 .any (fun w args => (Rows.envTakesSpec.pre enc Tryd.prog Tryd.f8 Rows.envTakesRow.domain false w args ∧ laidMetH Tryd.prog Rows.envTakesRow.laid w) ∧ sizedMet enc Tryd.prog Tryd.f8 (OpenSpec.ofChange Rows.envTakesSpec) false w args) (Rows.envTakesSpec.post enc Tryd.prog Tryd.f8 false true false false) := by
  refine returnsInHanded_of_change_and (C := Tryd.checked) (X := fun w _ => laidMetH Tryd.prog Rows.envTakesRow.laid w) (fun _ _ _ hh h => h.of_heap hh) own started (by kernel_rfl) Tryd.func8
    (ChangeSpec.witness_shaped (enc := enc) (C := Tryd.checked) (os := os) (X := fun w _ => laidMetH Tryd.prog Rows.envTakesRow.laid w) false (laidWorld os) #[.agg #[.int .i64 0, .slice none 0 0, .slice none 0 0], .agg #[.int .i64 0, .int .i64 0, .int .i64 0], .agg #[.int .i64 0, .int .i64 0, .int .i64 0, .string ⟨#[]⟩, .bool false, .int .i64 0]] 8 rfl (World.shaped_of_RefB (by kernel_rfl) (by kernel_rfl)) (by kernel_rfl) (by kernel_rfl) (by kernel_rfl) (laid_met os _)) ?_
  intro W base args ds gs before hval0 hW hcnd hsz0 hL _
  have hsz : (DataW.weightsEach Tryd.prog (Tryd.f8.params.toList ++ Rows.envTakesSpec.plain.varTypes Tryd.prog) (ds ++ gs)).all (· ≤ reachBytes) = true := hsz0
  have hI : IG W := tabs hL
  have hval : ∀ (j : Nat) t v, Tryd.f8.params[j]? = some t → args[j]? = some v → Value.okWide Tryd.prog W .any base t v := hval0
  have hW' := hW
  obtain ⟨p, q, hA0, hV, rfl, hfz, hnd⟩ := hW
  have hA : DataW.TrodAll enc Tryd.prog W 0 (fun _ => true) true Tryd.f8.params.toList args.toList ds p := hA0
  rw [Tryd.params8] at hA hval hsz
  obtain ⟨v0, vs0, d0, ds0, p0, q0, hargs, rfl, rfl, h0, r0⟩ := trodAll_cons hA
  obtain ⟨v1, vs1, d1, ds1, p1, q1, rfl, rfl, rfl, h1, r1⟩ := trodAll_cons r0
  obtain ⟨v2, vs2, d2, ds2, p2, q2, rfl, rfl, rfl, h2, r2⟩ := trodAll_cons r1
  obtain ⟨rfl, rfl, rfl⟩ := trodAll_nil r2
  obtain rfl : args = #[v0, v1, v2] := by cases args; simp_all
  obtain ⟨rfl, rfl⟩ := trodVars_none hV
  have hwt := List.all_eq_true.1 hsz
  obtain ⟨c0, rfl, hcs0⟩ := okWide_struct Tryd.underlying77 (hval 0 77 v0 rfl rfl)
  have k0 := h0
  have lt0 : ∀ x ∈ p0, x.block < W.heap.size := by obtain ⟨m, hm⟩ := k0; exact DataW.trod_lt m _ _ _ hm
  obtain ⟨m0, hm0⟩ := h0
  obtain ⟨ps0, ty0, rep0, _⟩ := opened closed m0 77 _ _ (by decide) hm0 (fun q hq => of_decide_eq_true (hwt q (by simp [DataW.weightsEach, hq])))
  obtain ⟨x0, rfl⟩ := ty_env ty0
  have rep0 : CellsRep W c0.toList _ := rep0
  obtain ⟨c1, rfl, hcs1⟩ := okWide_struct Tryd.underlying68 (hval 1 68 v1 rfl rfl)
  have k1 := h1
  have lt1 : ∀ x ∈ p1, x.block < W.heap.size := by obtain ⟨m, hm⟩ := k1; exact DataW.trod_lt m _ _ _ hm
  obtain ⟨m1, hm1⟩ := h1
  obtain ⟨ps1, ty1, rep1, _⟩ := opened closed m1 68 _ _ (by decide) hm1 (fun q hq => of_decide_eq_true (hwt q (by simp [DataW.weightsEach, hq])))
  obtain ⟨x1, rfl⟩ := ty_pl ty1
  have rep1 : CellsRep W c1.toList _ := rep1
  obtain ⟨c2, rfl, hcs2⟩ := okWide_struct Tryd.underlying37 (hval 2 37 v2 rfl rfl)
  have k2 := h2
  have lt2 : ∀ x ∈ p2, x.block < W.heap.size := by obtain ⟨m, hm⟩ := k2; exact DataW.trod_lt m _ _ _ hm
  obtain ⟨m2, hm2⟩ := h2
  obtain ⟨ps2, ty2, rep2, _⟩ := opened closed m2 37 _ _ (by decide) hm2 (fun q hq => of_decide_eq_true (hwt q (by simp [DataW.weightsEach, hq])))
  obtain ⟨x2, rfl⟩ := ty_pval ty2
  have rep2 : CellsRep W c2.toList _ := rep2
  obtain ⟨K, hK⟩ := callF_of_ans (EnvTakes_spec x0 x1 x2)
  refine (law_true envOk hI hK (vs := [Value.agg c0, Value.agg c1, Value.agg c2]) ?_).mono fun e W' ⟨he, bel⟩ => ?_
  · exact argsOk_cons (CellsRep.agg rep0) (argsOk_cons (CellsRep.agg rep1) (argsOk_cons (CellsRep.agg rep2) ((⟨rfl, fun j A v h => by simp at h⟩ : ArgsOk _ _ [] [] _))))
  subst he
  exact ⟨_, rfl, _, _, _, [], _, [], hW', trodAll_mk1 (shut_bool Tryd.underlying4 _), (trodAll_cons_mk (Below.trod laidOut (by kernel_rfl) (of_decide_eq_true (by kernel_rfl)) k0 bel lt0) (trodAll_cons_mk (Below.trod laidOut (by kernel_rfl) (of_decide_eq_true (by kernel_rfl)) k1 bel lt1) (trodAll_cons_mk (Below.trod laidOut (by kernel_rfl) (of_decide_eq_true (by kernel_rfl)) k2 bel lt2) trodAll_mk0))), rfl, bel.frame _, fun h => by cases h⟩
theorem over : Rows.envTakesRow.holds Tryd.pinned (OpenSpec.ofChange Rows.envTakesSpec) :=
  OpenClaim.holds_of_wide 8 Tryd.f8 rfl rfl rfl rfl rfl rfl rfl ⟨rfl, rfl, rfl, rfl, rfl⟩ rfl rfl rfl rfl rfl (by kernel_rfl) Tryd.func8 (by kernel_rfl)
    (of_decide_eq_true (by kernel_rfl)) (by unfold Func.isWrapper; first | (rw [if_pos (by decide +kernel)]; kernel_rfl) | (rw [if_neg (by decide +kernel)]; exact ⟨rfl, rfl⟩))
    (fun os started H enc _ => lifted os started H enc)
theorem proved : Rows.EnvTakesCardSaid :=
  Claim7.holds_tied_plain_at .later [] [.data, .pinned] true (true, "a1f63ad35188d8204539f3346dc29020ccba4195b1b3c10c9b6d872e1c4dee03") false
    over (fun _ h => by cases h) (by kernel_rfl) (fun _ h => by cases h) envTakes_row_tie rfl ⟨rfl, rfl⟩ (by kernel_rfl) rfl
    (fun f fn hf hfn => by
      obtain rfl : f = 8 := Option.some.inj ((show Tryd.prog.funcNamed "cashbook/cashbooklaw14.EnvTakes" = some 8 by kernel_rfl).symm.trans hf) |>.symm
      obtain rfl : fn = Tryd.f8 := (Option.some.inj (Tryd.func8.symm.trans hfn)).symm
      exact ⟨by kernel_rfl, fun j t ht => by
        rw [Tryd.params8] at ht
        have hm : t ∈ [77, 68, 37] := by simpa using Array.mem_of_getElem? ht
        have hall : ([77, 68, 37].all fun u => !Tryd.prog.wantsStandIn u) = true := by kernel_rfl
        exact (show Tryd.prog.wantsStandIn t = false by simpa using List.all_eq_true.1 hall t hm)⟩)
    (by kernel_rfl)
#print axioms proved
end Go.Proofs.YtfckadoadmdgjaaDoor.envTakes
namespace Go.Proofs.YtfckadoadmdgjaaDoor
/-- The card, under a short name, for the claim. -/
theorem envTakes_holds : Rows.EnvTakesCardSaid := envTakes.proved
end Go.Proofs.YtfckadoadmdgjaaDoor
