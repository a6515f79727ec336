/- What the functions that ExprBrackets reaches compute: a part. -/
import Derived.Test.YtfckadoadmdgjaaDoorXO
set_option linter.all false
namespace Go.Pv.Cb
set_option linter.unusedSimpArgs false
open Go.Pv
set_option maxRecDepth 10000
set_option maxHeartbeats 8000000
theorem chk_pars (e : Tr) (h : e.n ≤ 200) (hc : chk e = 0) (k : Nat) (hk : k ≤ 20) : chk (pars e k) = if 16 < dep e + k then 11 else 0 := by
  unfold chk at hc ⊢
  rw [dep_pars, n_pars, ff_pars]
  split at hc
  · omega
  · split at hc
    · omega
    · rw [hc]; split <;> (try split) <;> omega
theorem rf_pars (t : Tr) : ∀ n, rfT (pars t n) = rfT t
  | 0 => rfl
  | n + 1 => by rw [pars, rfT, if_neg (by omega), rfTs, rfTs, List.append_nil, rf_pars t n]
theorem sT_pars (t : Tr) (n : Nat) (h : 0 < n) : sT t (pars t n) = false := by
  rw [← Bool.not_eq_true, sT_iff]
  intro e
  have := congrArg dep e
  rw [dep_pars] at this; omega
theorem chk_16 (e : Tr) (hc : chk e = 0) : dep e ≤ 16 := by
  unfold chk at hc; split at hc <;> omega
theorem ExprBrackets_spec (e : Tr) (a : Nat) (ha : a ≤ 255) : ansOf E F_law10_ExprBrackets [.a ((cT e).map OV.p), .w (.p (.int .u8 a))] = some ([(false, [.p (.bool true)])], []) := by
  obtain ⟨b1, f1, q1⟩ := Few_spec e 200 (by omega)
  have c15 : ((200 : Nat) : Int) = 200 := rfl
  rw [c15] at f1
  cases b1 with
  | false =>
    refine law10_ExprBrackets_ans rfl rfl ?_
    repeat' (first | (simp -implicitDefEqProofs +contextual (maxSteps := 10000000) (disch := first | with_unfolding_all exact id rfl | assumption | ((fail_if_success (with_reducible refine isB ?_)); (first | omega | decide))) only [go_sem, v_n, known_spec, f1]) | refine vIte_i (fun hb => ?_) fun hb => ?_ | refine vAp_i (by kernel_rfl) ?_ | refine vIf_i (fun hb => ?_) fun hb => ?_ | refine oT_Gi (fun hb => ?_) fun hb => ?_)
  | true =>
  obtain ⟨he, hs⟩ := q1 rfl
  have t1 := lTo e (by omega)
  have g1 := pCheck e (by omega) hs
  by_cases hc : ¬ chk e = 0
  · refine law10_ExprBrackets_ans rfl rfl ?_
    repeat' (first | (simp -implicitDefEqProofs +contextual (maxSteps := 10000000) (disch := first | with_unfolding_all exact id rfl | assumption | ((fail_if_success (with_reducible refine isB ?_)); (first | omega | decide))) only [go_sem, v_n, known_spec, f1, t1, g1, hc]) | refine vIte_i (fun hb => ?_) fun hb => ?_ | refine vAp_i (by kernel_rfl) ?_ | refine vIf_i (fun hb => ?_) fun hb => ?_ | refine oT_Gi (fun hb => ?_) fun hb => ?_)
  have hc : chk e = 0 := Decidable.not_not.1 hc
  rw [hc] at g1
  obtain ⟨m, hm⟩ : ∃ m, a % 20 = m := ⟨_, rfl⟩
  have hm20 : m < 20 := by omega
  have c2 : (a : Int).tmod 20 = (m : Int) := by rw [← hm]; exact Int.ofNat_tmod a 20
  have r1 := pRefs e (by omega)
  have d1 := pDepth e (by omega)
  have n1 := Count_spec e (by omega)
  have g2 := pCheck (pars e m) (by rw [n_pars]; omega) (st_pars e hs m)
  have r2 := pRefs (pars e m) (by rw [n_pars]; omega)
  have d2 := pDepth (pars e m) (by rw [n_pars]; omega)
  have n2 := Count_spec (pars e m) (by rw [n_pars]; omega)
  have s2 := pSame e (pars e m) (by omega) (by rw [n_pars]; omega)
  rw [rf_pars] at r2
  rw [dep_pars] at d2
  rw [n_pars] at n2
  rw [chk_pars e he hc m (by omega)] at g2
  have hl := rfT_len e
  have hd := dep_le e
  refine law10_ExprBrackets_ans rfl rfl ?_
  repeat' (first | (simp -implicitDefEqProofs +contextual (maxSteps := 10000000) (disch := first | with_unfolding_all exact id rfl | assumption | ((fail_if_success (with_reducible refine isB ?_)); (first | omega | decide))) only [go_sem, v_n, known_spec, f1, t1, g1, c2]) | refine vIte_i (fun hb => ?_) fun hb => ?_ | refine vAp_i (by kernel_rfl) ?_ | refine vIf_i (fun hb => ?_) fun hb => ?_ | refine oT_Gi (fun hb => ?_) fun hb => ?_)
  refine v_inv (fun i : Nat => [(5, .box ((cT e).map OV.p)), (6, .w (.p (.int .i64 m))), (7, .box (if i = 0 then (cT e).map OV.p else oNode 10 0 (.own 18 [(cT (pars e (i - 1))).map OV.p]))), (8, .w (.p (.int .i64 i)))]) (fun i => i ≤ m) (fun i => m - i) 0 rfl (by omega) ?_
  intro i hi hih
  by_cases hlt : i < m
  · have h1 : (i : Int) < m := by omega
    have := hih (i + 1) (by omega) (by omega)
    rw [if_neg (by omega), Nat.add_sub_cancel] at this
    cases i with
    | zero =>
      rw [if_pos rfl]
      have h1 : (0 : Int) < m := by omega
      repeat' (first | (simp -implicitDefEqProofs +contextual (maxSteps := 10000000) (disch := first | with_unfolding_all exact id rfl | assumption | ((fail_if_success (with_reducible refine isB ?_)); (first | omega | decide))) only [go_sem, v_n, h1, cT_putL]) | refine vIte_i (fun hb => ?_) fun hb => ?_ | refine vAp_i (by kernel_rfl) ?_ | refine vIf_i (fun hb => ?_) fun hb => ?_ | refine oT_Gi (fun hb => ?_) fun hb => ?_)
      exact this
    | succ i =>
      rw [if_neg (by omega), Nat.add_sub_cancel]
      repeat' (first | (simp -implicitDefEqProofs +contextual (maxSteps := 10000000) (disch := first | with_unfolding_all exact id rfl | assumption | ((fail_if_success (with_reducible refine isB ?_)); (first | omega | decide))) only [go_sem, v_n, h1, fold1, cT_putL]) | refine vIte_i (fun hb => ?_) fun hb => ?_ | refine vAp_i (by kernel_rfl) ?_ | refine vIf_i (fun hb => ?_) fun hb => ?_ | refine oT_Gi (fun hb => ?_) fun hb => ?_)
      exact this
  · obtain rfl : i = m := by omega
    clear hih
    cases i with
    | zero =>
      rw [if_pos rfl]
      have h1 : ¬ (0 : Int) < 0 := by omega
      have s2 : ansOf E F_expr_Same [.a ((cT e).map OV.p), .a ((cT e).map OV.p)] = some ([(false, [.p (.bool true)])], []) := by rw [pars, sT_self] at s2; exact s2
      repeat' (first | (simp -implicitDefEqProofs +contextual (maxSteps := 10000000) (disch := first | with_unfolding_all exact id rfl | assumption | ((fail_if_success (with_reducible refine isB ?_)); (first | omega | decide))) only [go_sem, v_n, r1, d1, n1, s2, Int.add_zero]) | refine vIte_i (fun hb => ?_) fun hb => ?_ | refine vAp_i (by kernel_rfl) ?_ | refine vIf_i (fun hb => ?_) fun hb => ?_ | refine oT_Gi (fun hb => ?_) fun hb => ?_)
      refine v_inv (fun j : Nat => [(7, .box ((cT e).map OV.p)), (9, .w (.own 18 ((rfT e).map oC))), (10, .w (.own 18 ((rfT e).map oC))), (11, .w (.p (.int .i64 j)))]) (fun j => j ≤ (rfT e).length) (fun j => (rfT e).length - j) 0 rfl (by omega) ?_
      intro j hj hjh
      by_cases hlt : j < (rfT e).length
      · obtain ⟨t, hx⟩ := get_lt hlt
        have c1 : (j : Int) < (rfT e).length := by omega
        have hm := rf_mem e t (mem_get hx)
        have o2 := pSame t t (by omega) (by omega)
        rw [sT_self] at o2
        repeat' (first | (simp -implicitDefEqProofs +contextual (maxSteps := 10000000) (disch := first | with_unfolding_all exact id rfl | assumption | ((fail_if_success (with_reducible refine isB ?_)); (first | omega | decide))) only [go_sem, v_n, hx, c1, o2]) | refine vIte_i (fun hb => ?_) fun hb => ?_ | refine vAp_i (by kernel_rfl) ?_ | refine vIf_i (fun hb => ?_) fun hb => ?_ | refine oT_Gi (fun hb => ?_) fun hb => ?_)
        exact hjh (j + 1) (by omega) (by omega)
      · obtain rfl : j = (rfT e).length := by omega
        have c1 : ¬ ((rfT e).length : Int) < (rfT e).length := by omega
        have h16 := chk_16 e hc
        repeat' (first | (simp -implicitDefEqProofs +contextual (maxSteps := 10000000) (disch := first | with_unfolding_all exact id rfl | assumption | ((fail_if_success (with_reducible refine isB ?_)); (first | omega | decide))) only [go_sem, v_n, c1, g1, d1, h16]) | refine vIte_i (fun hb => ?_) fun hb => ?_ | refine vAp_i (by kernel_rfl) ?_ | refine vIf_i (fun hb => ?_) fun hb => ?_ | refine oT_Gi (fun hb => ?_) fun hb => ?_)
    | succ i =>
      have s2' := s2
      rw [sT_pars e _ (by omega)] at s2'
      rw [if_neg (by omega), Nat.add_sub_cancel]
      have h1 : ¬ ((i + 1 : Nat) : Int) < (i + 1 : Nat) := by omega
      have h2 : ¬ ((i + 1 : Nat) : Int) = 0 := by omega
      change ansOf E F_expr_Refs [.a ((cT (tNode 10 0 [pars e i])).map OV.p)] = _ at r2
      change ansOf E F_expr_Depth [.a ((cT (tNode 10 0 [pars e i])).map OV.p)] = _ at d2
      change ansOf E F_expr_Count [.a ((cT (tNode 10 0 [pars e i])).map OV.p)] = _ at n2
      change ansOf E F_expr_Same [.a ((cT e).map OV.p), .a ((cT (tNode 10 0 [pars e i])).map OV.p)] = _ at s2'
      repeat' (first | (simp -implicitDefEqProofs +contextual (maxSteps := 10000000) (disch := first | with_unfolding_all exact id rfl | assumption | ((fail_if_success (with_reducible refine isB ?_)); (first | omega | decide))) only [go_sem, v_n, h1, h2, r1, d1, n1, fold1, r2, d2, n2, s2']) | refine vIte_i (fun hb => ?_) fun hb => ?_ | refine vAp_i (by kernel_rfl) ?_ | refine vIf_i (fun hb => ?_) fun hb => ?_ | refine oT_Gi (fun hb => ?_) fun hb => ?_)
      refine v_inv (fun j : Nat => [(7, .box ((cT (tNode 10 0 [pars e i])).map OV.p)), (9, .w (.own 18 ((rfT e).map oC))), (10, .w (.own 18 ((rfT e).map oC))), (11, .w (.p (.int .i64 j)))]) (fun j => j ≤ (rfT e).length) (fun j => (rfT e).length - j) 0 rfl (by omega) ?_
      intro j hj hjh
      by_cases hlt : j < (rfT e).length
      · obtain ⟨t, hx⟩ := get_lt hlt
        have c1 : (j : Int) < (rfT e).length := by omega
        have hm := rf_mem e t (mem_get hx)
        have o2 := pSame t t (by omega) (by omega)
        rw [sT_self] at o2
        repeat' (first | (simp -implicitDefEqProofs +contextual (maxSteps := 10000000) (disch := first | with_unfolding_all exact id rfl | assumption | ((fail_if_success (with_reducible refine isB ?_)); (first | omega | decide))) only [go_sem, v_n, hx, c1, o2]) | refine vIte_i (fun hb => ?_) fun hb => ?_ | refine vAp_i (by kernel_rfl) ?_ | refine vIf_i (fun hb => ?_) fun hb => ?_ | refine oT_Gi (fun hb => ?_) fun hb => ?_)
        exact hjh (j + 1) (by omega) (by omega)
      · obtain rfl : j = (rfT e).length := by omega
        have c1 : ¬ ((rfT e).length : Int) < (rfT e).length := by omega
        change ansOf E F_expr_Check [.a ((cT (tNode 10 0 [pars e i])).map OV.p)] = _ at g2
        by_cases h16 : 16 < dep e + ((i + 1 : Nat) : Int)
        · rw [if_pos h16] at g2
          have h16' : ¬ dep e + ((i + 1 : Nat) : Int) ≤ 16 := by omega
          repeat' (first | (simp -implicitDefEqProofs +contextual (maxSteps := 10000000) (disch := first | with_unfolding_all exact id rfl | assumption | ((fail_if_success (with_reducible refine isB ?_)); (first | omega | decide))) only [go_sem, v_n, c1, g2, d2, h16']) | refine vIte_i (fun hb => ?_) fun hb => ?_ | refine vAp_i (by kernel_rfl) ?_ | refine vIf_i (fun hb => ?_) fun hb => ?_ | refine oT_Gi (fun hb => ?_) fun hb => ?_)
        · rw [if_neg h16] at g2
          have h16' : dep e + ((i + 1 : Nat) : Int) ≤ 16 := by omega
          repeat' (first | (simp -implicitDefEqProofs +contextual (maxSteps := 10000000) (disch := first | with_unfolding_all exact id rfl | assumption | ((fail_if_success (with_reducible refine isB ?_)); (first | omega | decide))) only [go_sem, v_n, c1, g2, d2, h16']) | refine vIte_i (fun hb => ?_) fun hb => ?_ | refine vAp_i (by kernel_rfl) ?_ | refine vIf_i (fun hb => ?_) fun hb => ?_ | refine oT_Gi (fun hb => ?_) fun hb => ?_)
end Go.Pv.Cb
