/- What the functions that EnvTakes reaches compute: a part. -/
import Derived.Test.YtfckadoadmdgjaaDoorEF
set_option linter.all false
namespace Go.Pv.Cb
set_option linter.unusedSimpArgs false
open Go.Pv
set_option maxRecDepth 10000
set_option maxHeartbeats 4000000
theorem rCheckE_spec (n : Int) (l : List Sl) (nm : List Tr) (hv : ∀ x ∈ l, x.v.s.length ≤ 1000000) (hn : ∀ t ∈ nm, t.n ≤ 100000) (hst : ∀ t ∈ nm, t.st) :
    ansOf E F_ref18_CheckEnv [.a [.p (.int .i64 n), .p (.sl 9 (l.map cS)), .p (.sl 18 (nm.map cT))]] = some ([(false, [.p (.int .i64 (chkE n l nm))])], []) := by
  unfold chkE
  by_cases a1 : n < 1
  · rw [if_pos (.inl a1)]
    refine ref18_CheckEnv_ans rfl rfl ?_
    repeat' (first | (simp -implicitDefEqProofs +contextual (maxSteps := 10000000) (disch := first | with_unfolding_all exact id rfl | assumption | ((fail_if_success (with_reducible refine isB ?_)); (first | omega | decide))) only [go_sem, v_n, a1]) | refine vIte_i (fun hb => ?_) fun hb => ?_ | refine vAp_i (by kernel_rfl) ?_ | refine vIf_i (fun hb => ?_) fun hb => ?_ | refine oT_Gi (fun hb => ?_) fun hb => ?_)
  by_cases a2 : 8 < n
  · rw [if_pos (.inr a2)]
    refine ref18_CheckEnv_ans rfl rfl ?_
    repeat' (first | (simp -implicitDefEqProofs +contextual (maxSteps := 10000000) (disch := first | with_unfolding_all exact id rfl | assumption | ((fail_if_success (with_reducible refine isB ?_)); (first | omega | decide))) only [go_sem, v_n, a1, a2]) | refine vIte_i (fun hb => ?_) fun hb => ?_ | refine vAp_i (by kernel_rfl) ?_ | refine vIf_i (fun hb => ?_) fun hb => ?_ | refine oT_Gi (fun hb => ?_) fun hb => ?_)
  rw [if_neg (by omega)]
  by_cases a3 : 4096 < (l.length : Int)
  · rw [if_pos (.inl (by omega))]
    refine ref18_CheckEnv_ans rfl rfl ?_
    repeat' (first | (simp -implicitDefEqProofs +contextual (maxSteps := 10000000) (disch := first | with_unfolding_all exact id rfl | assumption | ((fail_if_success (with_reducible refine isB ?_)); (first | omega | decide))) only [go_sem, v_n, a1, a2, a3]) | refine vIte_i (fun hb => ?_) fun hb => ?_ | refine vAp_i (by kernel_rfl) ?_ | refine vIf_i (fun hb => ?_) fun hb => ?_ | refine oT_Gi (fun hb => ?_) fun hb => ?_)
  by_cases a4 : 1024 < (nm.length : Int)
  · rw [if_pos (.inr (by omega))]
    refine ref18_CheckEnv_ans rfl rfl ?_
    repeat' (first | (simp -implicitDefEqProofs +contextual (maxSteps := 10000000) (disch := first | with_unfolding_all exact id rfl | assumption | ((fail_if_success (with_reducible refine isB ?_)); (first | omega | decide))) only [go_sem, v_n, a1, a2, a3, a4]) | refine vIte_i (fun hb => ?_) fun hb => ?_ | refine vAp_i (by kernel_rfl) ?_ | refine vIf_i (fun hb => ?_) fun hb => ?_ | refine oT_Gi (fun hb => ?_) fun hb => ?_)
  rw [if_neg (by omega)]
  refine ref18_CheckEnv_ans rfl rfl ?_
  repeat' (first | (simp -implicitDefEqProofs +contextual (maxSteps := 10000000) (disch := first | with_unfolding_all exact id rfl | assumption | ((fail_if_success (with_reducible refine isB ?_)); (first | omega | decide))) only [go_sem, v_n, a1, a2, a3, a4]) | refine vIte_i (fun hb => ?_) fun hb => ?_ | refine vAp_i (by kernel_rfl) ?_ | refine vIf_i (fun hb => ?_) fun hb => ?_ | refine oT_Gi (fun hb => ?_) fun hb => ?_)
  refine v_inv (fun i : Nat => [(1, .box [.p (.int .i64 n), .p (.sl 9 (l.map cS)), .p (.sl 18 (nm.map cT))]), (3, .w (.p (.int .i64 i)))]) (fun i => i ≤ l.length ∧ chkS n (prevP l i) (l.drop i) = chkS n none l) (fun i => l.length - i) 0 rfl ⟨by omega, rfl⟩ ?_
  rintro i ⟨hi, hm⟩ hih
  by_cases hlt : i < l.length
  · obtain ⟨x, hx⟩ := get_lt hlt
    have c1 : (i : Int) < l.length := by omega
    have hg := rGoodP_spec n x.p
    have hc := rvcheckT x.v (hv x (mem_get hx))
    rw [drop_get hx, chkS] at hm
    by_cases b1 : gdP n x.p
    · rw [decide_eq_true b1] at hg
      by_cases b2 : vC x.v = 0
      · rw [b2] at hc
        by_cases b3 : x.v.k = 0
        · have e : badS n (prevP l i) x = 1 := by unfold badS; rw [if_neg (by simpa using b1), if_neg (by simpa using b2), if_pos b3]
          rw [e, if_neg (by decide)] at hm
          rw [← hm]
          clear hih
          simp only [b3] at hc
          repeat' (first | (simp -implicitDefEqProofs +contextual (maxSteps := 10000000) (disch := first | with_unfolding_all exact id rfl | assumption | ((fail_if_success (with_reducible refine isB ?_)); (first | omega | decide))) only [go_sem, v_n, hx, c1, hg, hc, b3]) | refine vIte_i (fun hb => ?_) fun hb => ?_ | refine vAp_i (by kernel_rfl) ?_ | refine vIf_i (fun hb => ?_) fun hb => ?_ | refine oT_Gi (fun hb => ?_) fun hb => ?_)
        · cases i with
          | zero =>
            have e : badS n (prevP l 0) x = 0 := by unfold badS; rw [if_neg (by simpa using b1), if_neg (by simpa using b2), if_neg b3]; rfl
            rw [e, if_pos rfl] at hm
            have := hih 1 (by omega) ⟨by omega, by rw [prev_succ hx]; exact hm⟩
            clear hih
            have c1 : (0 : Int) < l.length := by omega
            repeat' (first | (simp -implicitDefEqProofs +contextual (maxSteps := 10000000) (disch := first | with_unfolding_all exact id rfl | assumption | ((fail_if_success (with_reducible refine isB ?_)); (first | omega | decide))) only [go_sem, v_n, hx, c1, hg, hc, b3]) | refine vIte_i (fun hb => ?_) fun hb => ?_ | refine vAp_i (by kernel_rfl) ?_ | refine vIf_i (fun hb => ?_) fun hb => ?_ | refine oT_Gi (fun hb => ?_) fun hb => ?_)
            exact this
          | succ i =>
            obtain ⟨y, hy⟩ := get_lt (l := l) (i := i) (by omega)
            have hL := rLess_spec y.p x.p
            have c2 : (0 : Int) < ((i + 1 : Nat) : Int) := by omega
            have c3 : ((i + 1 : Nat) : Int) - 1 = (i : Int) := by omega
            have e : badS n (prevP l (i + 1)) x = if plt y.p x.p then 0 else 6 := by unfold badS; rw [if_neg (by simpa using b1), if_neg (by simpa using b2), if_neg b3, prev_succ hy]
            rw [e] at hm
            by_cases b4 : plt y.p x.p
            · rw [decide_eq_true b4] at hL
              rw [if_pos b4, if_pos rfl] at hm
              have := hih (i + 2) (by omega) ⟨by omega, by rw [prev_succ hx]; exact hm⟩
              clear hih
              repeat' (first | (simp -implicitDefEqProofs +contextual (maxSteps := 10000000) (disch := first | with_unfolding_all exact id rfl | assumption | ((fail_if_success (with_reducible refine isB ?_)); (first | omega | decide))) only [go_sem, v_n, hx, hy, c1, c2, c3, hg, hc, b3, hL]) | refine vIte_i (fun hb => ?_) fun hb => ?_ | refine vAp_i (by kernel_rfl) ?_ | refine vIf_i (fun hb => ?_) fun hb => ?_ | refine oT_Gi (fun hb => ?_) fun hb => ?_)
              exact this
            · rw [decide_eq_false b4] at hL
              rw [if_neg b4, if_neg (by decide)] at hm
              rw [← hm]
              clear hih
              repeat' (first | (simp -implicitDefEqProofs +contextual (maxSteps := 10000000) (disch := first | with_unfolding_all exact id rfl | assumption | ((fail_if_success (with_reducible refine isB ?_)); (first | omega | decide))) only [go_sem, v_n, hx, hy, c1, c2, c3, hg, hc, b3, hL]) | refine vIte_i (fun hb => ?_) fun hb => ?_ | refine vAp_i (by kernel_rfl) ?_ | refine vIf_i (fun hb => ?_) fun hb => ?_ | refine oT_Gi (fun hb => ?_) fun hb => ?_)
      · have e : badS n (prevP l i) x = vC x.v := by unfold badS; rw [if_neg (by simpa using b1), if_pos b2]
        rw [e, if_neg b2] at hm
        rw [← hm, if_neg b2]
        clear hih
        repeat' (first | (simp -implicitDefEqProofs +contextual (maxSteps := 10000000) (disch := first | with_unfolding_all exact id rfl | assumption | ((fail_if_success (with_reducible refine isB ?_)); (first | omega | decide))) only [go_sem, v_n, hx, c1, hg, hc, b2]) | refine vIte_i (fun hb => ?_) fun hb => ?_ | refine vAp_i (by kernel_rfl) ?_ | refine vIf_i (fun hb => ?_) fun hb => ?_ | refine oT_Gi (fun hb => ?_) fun hb => ?_)
    · rw [decide_eq_false b1] at hg
      have e : badS n (prevP l i) x = 12 := by unfold badS; rw [if_pos b1]
      rw [e, if_neg (by decide)] at hm
      rw [← hm]
      clear hih
      repeat' (first | (simp -implicitDefEqProofs +contextual (maxSteps := 10000000) (disch := first | with_unfolding_all exact id rfl | assumption | ((fail_if_success (with_reducible refine isB ?_)); (first | omega | decide))) only [go_sem, v_n, hx, c1, hg]) | refine vIte_i (fun hb => ?_) fun hb => ?_ | refine vAp_i (by kernel_rfl) ?_ | refine vIf_i (fun hb => ?_) fun hb => ?_ | refine oT_Gi (fun hb => ?_) fun hb => ?_)
  · obtain rfl : i = l.length := by omega
    have c1 : ¬ (l.length : Int) < l.length := by omega
    rw [List.drop_length, chkS] at hm
    rw [← hm, if_pos rfl]
    clear hih
    repeat' (first | (simp -implicitDefEqProofs +contextual (maxSteps := 10000000) (disch := first | with_unfolding_all exact id rfl | assumption | ((fail_if_success (with_reducible refine isB ?_)); (first | omega | decide))) only [go_sem, v_n, c1]) | refine vIte_i (fun hb => ?_) fun hb => ?_ | refine vAp_i (by kernel_rfl) ?_ | refine vIf_i (fun hb => ?_) fun hb => ?_ | refine oT_Gi (fun hb => ?_) fun hb => ?_)
    refine v_inv (fun i : Nat => [(1, .box [.p (.int .i64 n), .p (.sl 9 (l.map cS)), .p (.sl 18 (nm.map cT))]), (6, .w (.p (.int .i64 i)))]) (fun i => i ≤ nm.length ∧ chkN (nm.drop i) = chkN nm) (fun i => nm.length - i) 0 rfl ⟨by omega, rfl⟩ ?_
    rintro i ⟨hi, hm⟩ hih
    by_cases hlt : i < nm.length
    · obtain ⟨t, hx⟩ := get_lt hlt
      have c1 : (i : Int) < nm.length := by omega
      have hc := rCheck t (hn t (mem_get hx)) (hst t (mem_get hx))
      have hct := named_spec t (hn t (mem_get hx))
      rw [drop_get hx, chkN] at hm
      by_cases b1 : chk t = 0
      · rw [b1] at hc
        cases b2 : ((rfT t).any fun x => decide (x.k = 6)) with
        | true =>
          rw [b2] at hct
          have e : badN t = 3 := by unfold badN; rw [if_neg (by simpa using b1), if_pos b2]
          rw [e, if_neg (by decide)] at hm
          rw [← hm]
          clear hih
          repeat' (first | (simp -implicitDefEqProofs +contextual (maxSteps := 10000000) (disch := first | with_unfolding_all exact id rfl | assumption | ((fail_if_success (with_reducible refine isB ?_)); (first | omega | decide))) only [go_sem, v_n, hx, c1, hc, hct]) | refine vIte_i (fun hb => ?_) fun hb => ?_ | refine vAp_i (by kernel_rfl) ?_ | refine vIf_i (fun hb => ?_) fun hb => ?_ | refine oT_Gi (fun hb => ?_) fun hb => ?_)
        | false =>
          rw [b2] at hct
          have e : badN t = 0 := by unfold badN; rw [if_neg (by simpa using b1), if_neg (by rw [b2]; decide)]
          rw [e, if_pos rfl] at hm
          have := hih (i + 1) (by omega) ⟨by omega, hm⟩
          clear hih
          repeat' (first | (simp -implicitDefEqProofs +contextual (maxSteps := 10000000) (disch := first | with_unfolding_all exact id rfl | assumption | ((fail_if_success (with_reducible refine isB ?_)); (first | omega | decide))) only [go_sem, v_n, hx, c1, hc, hct]) | refine vIte_i (fun hb => ?_) fun hb => ?_ | refine vAp_i (by kernel_rfl) ?_ | refine vIf_i (fun hb => ?_) fun hb => ?_ | refine oT_Gi (fun hb => ?_) fun hb => ?_)
          exact this
      · have e : badN t = chk t := by unfold badN; rw [if_pos b1]
        rw [e, if_neg b1] at hm
        rw [← hm]
        clear hih
        repeat' (first | (simp -implicitDefEqProofs +contextual (maxSteps := 10000000) (disch := first | with_unfolding_all exact id rfl | assumption | ((fail_if_success (with_reducible refine isB ?_)); (first | omega | decide))) only [go_sem, v_n, hx, c1, hc, b1]) | refine vIte_i (fun hb => ?_) fun hb => ?_ | refine vAp_i (by kernel_rfl) ?_ | refine vIf_i (fun hb => ?_) fun hb => ?_ | refine oT_Gi (fun hb => ?_) fun hb => ?_)
    · obtain rfl : i = nm.length := by omega
      have c1 : ¬ (nm.length : Int) < nm.length := by omega
      rw [List.drop_length, chkN] at hm
      rw [← hm]
      clear hih
      repeat' (first | (simp -implicitDefEqProofs +contextual (maxSteps := 10000000) (disch := first | with_unfolding_all exact id rfl | assumption | ((fail_if_success (with_reducible refine isB ?_)); (first | omega | decide))) only [go_sem, v_n, c1]) | refine vIte_i (fun hb => ?_) fun hb => ?_ | refine vAp_i (by kernel_rfl) ?_ | refine vIf_i (fun hb => ?_) fun hb => ?_ | refine oT_Gi (fun hb => ?_) fun hb => ?_)
end Go.Pv.Cb
