/- What the functions that ExprAny reaches compute: a part. -/
import Derived.Test.YtfckadoadmdgjaaDoorXM
set_option linter.all false
namespace Go.Pv.Cb
set_option linter.unusedSimpArgs false
open Go.Pv
set_option maxRecDepth 10000
set_option maxHeartbeats 4000000
mutual
theorem rf_mem : ∀ (t x : Tr), x ∈ rfT t → x.n ≤ t.n ∧ (t.st → x.st) ∧ 2 ≤ x.k ∧ x.k ≤ 6
  | .mk k v a sh op ks, x, h => by
    rw [rfT] at h
    split at h
    · rename_i hk
      rw [List.mem_singleton] at h; subst h
      exact ⟨Nat.le_refl _, id, hk.1, hk.2⟩
    · obtain ⟨h1, h2, h3⟩ := rfs_mem ks x h
      rw [Tr.n, Tr.st]
      exact ⟨by omega, fun q => h2 q.2, h3⟩
theorem rfs_mem : ∀ (l : List Tr) (x : Tr), x ∈ rfTs l → x.n ≤ Tr.ns l ∧ (Tr.sts l → x.st) ∧ 2 ≤ x.k ∧ x.k ≤ 6
  | [], x, h => by simp [rfTs] at h
  | t :: ts, x, h => by
    rw [rfTs, List.mem_append] at h
    rw [Tr.ns, Tr.sts]
    rcases h with h | h
    · obtain ⟨h1, h2, h3⟩ := rf_mem t x h
      exact ⟨by omega, fun q => h2 q.1, h3⟩
    · obtain ⟨h1, h2, h3⟩ := rfs_mem ts x h
      exact ⟨by omega, fun q => h2 q.2, h3⟩
end
theorem ExprAny_spec (a b : Tr) : ansOf E F_law10_ExprAny [.a ((cT a).map OV.p), .a ((cT b).map OV.p)] = some ([(false, [.p (.bool true)])], []) := by
  obtain ⟨b1, f1, q1⟩ := Few_spec a 1500 (by omega)
  obtain ⟨b2, f2, q2⟩ := Few_spec b 1500 (by omega)
  have c15 : ((1500 : Nat) : Int) = 1500 := rfl
  rw [c15] at f1 f2
  cases b1 with
  | false =>
    refine law10_ExprAny_ans rfl rfl ?_
    repeat' (first | (simp -implicitDefEqProofs +contextual (maxSteps := 10000000) (disch := first | with_unfolding_all exact id rfl | assumption | ((fail_if_success (with_reducible refine isB ?_)); (first | omega | decide))) only [go_sem, v_n, known_spec, f1]) | refine vIte_i (fun hb => ?_) fun hb => ?_ | refine vAp_i (by kernel_rfl) ?_ | refine vIf_i (fun hb => ?_) fun hb => ?_ | refine oT_Gi (fun hb => ?_) fun hb => ?_)
  | true =>
  cases b2 with
  | false =>
    refine law10_ExprAny_ans rfl rfl ?_
    repeat' (first | (simp -implicitDefEqProofs +contextual (maxSteps := 10000000) (disch := first | with_unfolding_all exact id rfl | assumption | ((fail_if_success (with_reducible refine isB ?_)); (first | omega | decide))) only [go_sem, v_n, known_spec, f1, f2]) | refine vIte_i (fun hb => ?_) fun hb => ?_ | refine vAp_i (by kernel_rfl) ?_ | refine vIf_i (fun hb => ?_) fun hb => ?_ | refine oT_Gi (fun hb => ?_) fun hb => ?_)
  | true =>
  obtain ⟨ha, hsa⟩ := q1 rfl
  obtain ⟨hb, hsb⟩ := q2 rfl
  have t1 := lTo a (by omega)
  have t2 := lTo b (by omega)
  have g1 := pRefs a (by omega)
  have g2 := rRefs a (by omega)
  have g3 := pCheck a (by omega) hsa
  have g4 := rCheck a (by omega) hsa
  have g5 := pDepth a (by omega)
  have g6 := rDepth a (by omega)
  have g7 := Count_spec a (by omega)
  have g8 := rCount a (by omega)
  have g9 := pSame a b (by omega) (by omega)
  have g10 := rSame a b (by omega)
  have g11 := pSame a a (by omega) (by omega)
  rw [sT_self] at g11
  have hl := rfT_len a
  refine law10_ExprAny_ans rfl rfl ?_
  repeat' (first | (simp -implicitDefEqProofs +contextual (maxSteps := 10000000) (disch := first | with_unfolding_all exact id rfl | assumption | ((fail_if_success (with_reducible refine isB ?_)); (first | omega | decide))) only [go_sem, v_n, known_spec, f1, f2, t1, t2, g1, g2, g3, g4, g5, g6, g7, g8, g9, g10]) | refine vIte_i (fun hb => ?_) fun hb => ?_ | refine vAp_i (by kernel_rfl) ?_ | refine vIf_i (fun hb => ?_) fun hb => ?_ | refine oT_Gi (fun hb => ?_) fun hb => ?_)
  refine v_inv (fun i : Nat => [(2, .box ((cT a).map OV.p)), (5, .box ((cT a).map OV.p)), (7, .w (.own 18 ((rfT a).map oC))), (8, .w (.own 18 ((rfT a).map oC))), (9, .w (.p (.int .i64 i)))]) (fun i => i ≤ (rfT a).length) (fun i => (rfT a).length - i) 0 rfl (by omega) ?_
  intro i hi hih
  by_cases hlt : i < (rfT a).length
  · obtain ⟨t, hx⟩ := get_lt hlt
    have c1 : (i : Int) < (rfT a).length := by omega
    have hm := rf_mem a t (mem_get hx)
    have o1 := lOf t (by omega)
    have o2 := rSame t t (by omega)
    rw [sT_self] at o2
    repeat' (first | (simp -implicitDefEqProofs +contextual (maxSteps := 10000000) (disch := first | with_unfolding_all exact id rfl | assumption | ((fail_if_success (with_reducible refine isB ?_)); (first | omega | decide))) only [go_sem, v_n, hx, c1, o1, o2]) | refine vIte_i (fun hb => ?_) fun hb => ?_ | refine vAp_i (by kernel_rfl) ?_ | refine vIf_i (fun hb => ?_) fun hb => ?_ | refine oT_Gi (fun hb => ?_) fun hb => ?_)
    exact hih (i + 1) (by omega) (by omega)
  · obtain rfl : i = (rfT a).length := by omega
    have c1 : ¬ ((rfT a).length : Int) < (rfT a).length := by omega
    repeat' (first | (simp -implicitDefEqProofs +contextual (maxSteps := 10000000) (disch := first | with_unfolding_all exact id rfl | assumption | ((fail_if_success (with_reducible refine isB ?_)); (first | omega | decide))) only [go_sem, v_n, c1, t1, g11]) | refine vIte_i (fun hb => ?_) fun hb => ?_ | refine vAp_i (by kernel_rfl) ?_ | refine vIf_i (fun hb => ?_) fun hb => ?_ | refine oT_Gi (fun hb => ?_) fun hb => ?_)
end Go.Pv.Cb
