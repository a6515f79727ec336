/- What the functions that EnvTakes reaches compute: a part. -/
import Derived.Test.YtfckadoadmdgjaaDoorED
set_option linter.all false
namespace Go.Pv.Cb
set_option linter.unusedSimpArgs false
open Go.Pv
set_option maxRecDepth 10000
set_option maxHeartbeats 4000000
theorem lP_spec (a b c : Int) : ansOf E F_law14_P [.w (.p (.int .i64 a)), .w (.p (.int .i64 b)), .w (.p (.int .i64 c))] = some ([(true, [.p (.int .i64 a), .p (.int .i64 b), .p (.int .i64 c)])], []) := by
  refine law14_P_ans rfl rfl ?_
  repeat' (first | (simp -implicitDefEqProofs +contextual (maxSteps := 10000000) (disch := first | with_unfolding_all exact id rfl | assumption | ((fail_if_success (with_reducible refine isB ?_)); (first | omega | decide))) only [go_sem, v_n]) | refine vIte_i (fun hb => ?_) fun hb => ?_ | refine vAp_i (by kernel_rfl) ?_ | refine vIf_i (fun hb => ?_) fun hb => ?_ | refine oT_Gi (fun hb => ?_) fun hb => ?_)
theorem vS_spec (s : List UInt8) : ansOf E F_law9_S [.w (.p (.str s))] = some ([(true, [.p (.int .i64 2), .p (.int .i64 0), .p (.int .i64 0), .p (.str s), .p (.bool false), .p (.int .i64 0)])], []) := by
  refine law9_S_ans rfl rfl ?_
  repeat' (first | (simp -implicitDefEqProofs +contextual (maxSteps := 10000000) (disch := first | with_unfolding_all exact id rfl | assumption | ((fail_if_success (with_reducible refine isB ?_)); (first | omega | decide))) only [go_sem, v_n]) | refine vIte_i (fun hb => ?_) fun hb => ?_ | refine vAp_i (by kernel_rfl) ?_ | refine vIf_i (fun hb => ?_) fun hb => ?_ | refine oT_Gi (fun hb => ?_) fun hb => ?_)
theorem enc1_pos (v : Nat) : 0 < (enc1 v).length := by unfold enc1; (repeat' split) <;> simp
theorem u16_le (v : Nat) : (u16 v).length ≤ 2 := by unfold u16; split <;> simp
theorem units_le : ∀ l : List Nat, (units l).length ≤ 2 * (encs l).length
  | [] => by simp [units, encs]
  | v :: l => by
    have h1 := enc1_pos v
    have h2 := u16_le v
    have h3 := units_le l
    unfold units encs at *
    rw [List.flatMap_cons, List.flatMap_cons, List.length_append, List.length_append]; omega
theorem uC_short (s : List UInt8) (hs : s.length ≤ 500) (hv : Go.Lib.validD s = true) : uC s = 0 := by
  unfold uC
  rcases uL_cases s with ⟨l, h1, h2, h3⟩ | ⟨h1, h2⟩
  · have := units_le l
    rw [← h3] at this
    rw [h1]; simp only; rw [if_neg (by omega)]
  · rw [h2] at hv; simp at hv
abbrev vN5 : Vl := ⟨1, 5, 0, [], false, 0⟩
abbrev vSx : Vl := ⟨2, 0, 0, [120], false, 0⟩
abbrev kA : Sl := ⟨⟨1, 2, 3⟩, vN5⟩
abbrev kB : Sl := ⟨⟨0, 9, 9⟩, vSx⟩
theorem k_put1 : putF [] ⟨1, 2, 3⟩ vN5 = [kA] := by decide +kernel
theorem k_put2 : putF [kA] ⟨0, 9, 9⟩ vSx = [kB, kA] := by decide +kernel
theorem k_put3 : putF [kB, kA] ⟨1, 2, 3⟩ zv = [kB] := by decide +kernel
theorem vC_5 : vC vN5 = 0 := by simp [vC, dC]
theorem vC_x : vC vSx = 0 := by
  simp [vC]
  exact uC_short [120] (by decide) (by decide +kernel)
theorem k_chk : chkE 2 [kB, kA] [] = 0 := by
  have p1 : gdP 2 kB.p := by decide
  have p2 : gdP 2 kA.p := by decide
  have p3 : plt kB.p kA.p := by decide
  have e1 : badS 2 none kB = 0 := by unfold badS; rw [if_neg (fun q => q p1), if_neg (fun q => q vC_x), if_neg (by decide)]
  have e2 : badS 2 (some kB.p) kA = 0 := by unfold badS; rw [if_neg (fun q => q p2), if_neg (fun q => q vC_5), if_neg (by decide)]; simp only; rw [if_pos p3]
  unfold chkE
  rw [if_neg (by decide), if_neg (by decide), chkS, if_pos e1, chkS, if_pos e2, chkS, if_pos rfl, chkN]
theorem k_chk0 : chkE 0 [] [] = 1 := by unfold chkE; rw [if_pos (by decide)]
theorem srt2 : Srt [kB, kA] := by unfold Srt; decide
theorem lknown_spec : ansOf E F_law14_known [] = some ([(false, [.p (.bool true)])], []) := by
  obtain ⟨L1, h1⟩ : ∃ L, L = [kA] := ⟨_, rfl⟩
  obtain ⟨L2, h2⟩ : ∃ L, L = [kB, kA] := ⟨_, rfl⟩
  obtain ⟨L3, h3⟩ : ∃ L, L = [kB] := ⟨_, rfl⟩
  have p1 := Put_spec 2 [] [] ⟨1, 2, 3⟩ vN5 List.Pairwise.nil (by decide)
  have p2 := Put_spec 2 L1 [] ⟨0, 9, 9⟩ vSx (by rw [h1]; unfold Srt; decide) (by rw [h1]; decide)
  have p3 := Put_spec 2 L2 [] ⟨1, 2, 3⟩ zv (by rw [h2]; exact srt2) (by rw [h2]; decide)
  have e1 : putF [] ⟨1, 2, 3⟩ vN5 = L1 := by rw [h1]; exact k_put1
  have e2 : putF L1 ⟨0, 9, 9⟩ vSx = L2 := by rw [h1, h2]; exact k_put2
  have e3 : putF L2 ⟨1, 2, 3⟩ zv = L3 := by rw [h2, h3]; exact k_put3
  rw [e1] at p1
  rw [e2] at p2
  rw [e3] at p3
  have n1 : L1.length = 1 := by rw [h1]; rfl
  have n2 : L2.length = 2 := by rw [h2]; rfl
  have n3 : L3.length = 1 := by rw [h3]; rfl
  have x0 : L2[0]? = some kB := by rw [h2]; rfl
  have g1 := Get_spec 2 L2 (.sl 18 []) ⟨1, 2, 3⟩ (by rw [h2]; exact srt2) (by rw [h2]; decide)
  have g2 := Get_spec 2 L3 (.sl 18 []) ⟨1, 2, 3⟩ (by rw [h3]; unfold Srt; decide) (by rw [h3]; decide)
  have g3 := Get_spec 2 L2 (.sl 18 []) ⟨2, 0, 0⟩ (by rw [h2]; exact srt2) (by rw [h2]; decide)
  rw [show getF 2 L2 ⟨1, 2, 3⟩ = vN5 by rw [h2]; decide +kernel] at g1
  rw [show getF 2 L3 ⟨1, 2, 3⟩ = zv by rw [h3]; decide +kernel] at g2
  rw [show getF 2 L2 ⟨2, 0, 0⟩ = fV 23 by rw [h2]; decide +kernel] at g3
  have l1 := Less_spec ⟨0, 9, 9⟩ ⟨1, 0, 0⟩
  have l2 := Less_spec ⟨0, 1, 9⟩ ⟨0, 2, 0⟩
  have l3 := Less_spec ⟨0, 1, 1⟩ ⟨0, 1, 1⟩
  rw [show decide (plt ⟨0, 9, 9⟩ ⟨1, 0, 0⟩) = true by decide] at l1
  rw [show decide (plt ⟨0, 1, 9⟩ ⟨0, 2, 0⟩) = true by decide] at l2
  rw [show decide (plt ⟨0, 1, 1⟩ ⟨0, 1, 1⟩) = false by decide] at l3
  have c1 := ECheck_spec 2 L2 [] (by rw [h2]; decide) (by simp) (by simp)
  rw [show chkE 2 L2 [] = 0 by rw [h2]; exact k_chk] at c1
  have c2 := ECheck_spec 0 [] [] (by simp) (by simp) (by simp)
  rw [k_chk0] at c2
  have s1 := ESame_spec 2 2 L2 L2 [] [] (by omega) (by simp) (by simp) (by simp)
  have s2 := ESame_spec 2 2 L1 L2 [] [] (by omega) (by simp) (by simp) (by simp)
  rw [show sameB 2 2 L2 L2 [] [] = true from same_iff.2 ⟨rfl, rfl, rfl⟩] at s1
  rw [show sameB 2 2 L1 L2 [] [] = false by
    rw [← Bool.not_eq_true, same_iff]
    rintro ⟨_, e, _⟩
    have := congrArg List.length e
    omega] at s2
  simp only [List.map_nil, zv, fV] at p1 p2 p3 g1 g2 g3 c1 c2 s1 s2
  clear h1 h2 h3 e1 e2 e3
  refine law14_known_ans rfl rfl ?_
  repeat' (first | (simp -implicitDefEqProofs +contextual (maxSteps := 10000000) (disch := first | with_unfolding_all exact id rfl | assumption | ((fail_if_success (with_reducible refine isB ?_)); (first | omega | decide))) only [go_sem, v_n, lP_spec, vN_spec, vS_spec, p1, p2, p3, n1, n2, n3, x0, g1, g2, g3, fault_spec, l1, l2, l3, c1, c2, s1, s2]) | refine vIte_i (fun hb => ?_) fun hb => ?_ | refine vAp_i (by kernel_rfl) ?_ | refine vIf_i (fun hb => ?_) fun hb => ?_ | refine oT_Gi (fun hb => ?_) fun hb => ?_)
end Go.Pv.Cb
