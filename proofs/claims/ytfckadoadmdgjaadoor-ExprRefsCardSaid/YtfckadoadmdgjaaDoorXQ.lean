/- What the functions that ExprRefs reaches compute: a part. -/
import Derived.Test.YtfckadoadmdgjaaDoorXN
set_option linter.all false
namespace Go.Pv.Cb
set_option linter.unusedSimpArgs false
open Go.Pv
set_option maxRecDepth 10000
set_option maxHeartbeats 8000000
theorem ns_small : ∀ (l : List Tr), (∀ t ∈ l, t.n ≤ 60) → Tr.ns l ≤ 60 * l.length
  | [], _ => Nat.le_refl _
  | t :: ts, h => by
    have h1 := h t (by simp)
    have h2 := ns_small ts fun u hu => h u (by simp [hu])
    rw [Tr.ns, List.length_cons]; omega
theorem ExprRefs_spec (l : List Tr) (a : Nat) (ha : a ≤ 255) : ansOf E F_law10_ExprRefs [.w (.p (.sl 18 (l.map cT))), .w (.p (.int .u8 a))] = some ([(false, [.p (.bool true)])], []) := by
  by_cases hl : 10 < l.length
  · have c1 : 10 < (l.length : Int) := by omega
    refine law10_ExprRefs_ans rfl rfl ?_
    repeat' (first | (simp -implicitDefEqProofs +contextual (maxSteps := 10000000) (disch := first | with_unfolding_all exact id rfl | assumption | ((fail_if_success (with_reducible refine isB ?_)); (first | omega | decide))) only [go_sem, v_n, known_spec, c1]) | refine vIte_i (fun hb => ?_) fun hb => ?_ | refine vAp_i (by kernel_rfl) ?_ | refine vIf_i (fun hb => ?_) fun hb => ?_ | refine oT_Gi (fun hb => ?_) fun hb => ?_)
  have c1 : ¬ 10 < (l.length : Int) := by omega
  refine law10_ExprRefs_ans rfl rfl ?_
  repeat' (first | (simp -implicitDefEqProofs +contextual (maxSteps := 10000000) (disch := first | with_unfolding_all exact id rfl | assumption | ((fail_if_success (with_reducible refine isB ?_)); (first | omega | decide))) only [go_sem, v_n, known_spec, c1]) | refine vIte_i (fun hb => ?_) fun hb => ?_ | refine vAp_i (by kernel_rfl) ?_ | refine vIf_i (fun hb => ?_) fun hb => ?_ | refine oT_Gi (fun hb => ?_) fun hb => ?_)
  refine v_inv (fun i : Nat => [(0, .w (.p (.sl 18 (l.map cT)))), (1, .w (.p (.int .u8 a))), (5, .w (.own 18 ((l.take i).map oC))), (6, .w (.own 18 ((rfTs (l.take i)).map oC))), (7, .w (.p (.int .i64 i)))]) (fun i => i ≤ l.length ∧ ∀ t ∈ l.take i, t.n ≤ 60) (fun i => l.length - i) 0 rfl ⟨by omega, by simp⟩ ?_
  rintro i ⟨hi, hall⟩ hih
  have hns := ns_small _ hall
  have hrl := rfTs_len (l.take i)
  rw [List.length_take] at hns
  by_cases hlt : i < l.length
  · obtain ⟨t, hx⟩ := get_lt hlt
    have c2 : (i : Int) < l.length := by omega
    obtain ⟨b1, f1, q1⟩ := Few_spec t 60 (by omega)
    have c6 : ((60 : Nat) : Int) = 60 := rfl
    rw [c6] at f1
    cases b1 with
    | false => repeat' (first | (simp -implicitDefEqProofs +contextual (maxSteps := 10000000) (disch := first | with_unfolding_all exact id rfl | assumption | ((fail_if_success (with_reducible refine isB ?_)); (first | omega | decide))) only [go_sem, v_n, hx, c2, f1]) | refine vIte_i (fun hb => ?_) fun hb => ?_ | refine vAp_i (by kernel_rfl) ?_ | refine vIf_i (fun hb => ?_) fun hb => ?_ | refine oT_Gi (fun hb => ?_) fun hb => ?_)
    | true =>
      obtain ⟨hn, hs⟩ := q1 rfl
      have t1 := lTo t (by omega)
      have r1 := pRefs t (by omega)
      have hl2 := rfT_len t
      repeat' (first | (simp -implicitDefEqProofs +contextual (maxSteps := 10000000) (disch := first | with_unfolding_all exact id rfl | assumption | ((fail_if_success (with_reducible refine isB ?_)); (first | omega | decide))) only [go_sem, v_n, hx, c2, f1, t1, r1]) | refine vIte_i (fun hb => ?_) fun hb => ?_ | refine vAp_i (by kernel_rfl) ?_ | refine vIf_i (fun hb => ?_) fun hb => ?_ | refine oT_Gi (fun hb => ?_) fun hb => ?_)
      have e1 : (l.take (i + 1)).map oC = (l.take i).map oC ++ [(cT t).map OV.p] := by rw [take_snoc hx, List.map_append]; rfl
      have e2 : (rfTs (l.take (i + 1))).map oC = (rfTs (l.take i)).map oC ++ (rfT t).map oC := by rw [take_snoc hx, rfTs_app, List.map_append, rfTs, rfTs, List.append_nil]
      have := hih (i + 1) (by omega) ⟨by omega, fun u hu => by
        rw [take_snoc hx, List.mem_append, List.mem_singleton] at hu
        rcases hu with hu | rfl
        · exact hall u hu
        · exact hn⟩
      rw [e1, e2] at this
      exact this
  · obtain rfl : i = l.length := by omega
    clear hih
    rw [List.take_length] at hall hrl hns ⊢
    have c2 : ¬ (l.length : Int) < l.length := by omega
    obtain ⟨m, hm⟩ : ∃ m, a % 30 = m := ⟨_, rfl⟩
    have c3 : (a : Int).tmod 30 = (m : Int) := by rw [← hm]; exact Int.ofNat_tmod a 30
    have hm30 : m < 30 := by omega
    have r1 := pRefs (tNode 9 m l) (by rw [Tr.n]; omega)
    rw [rfT, if_neg (by omega)] at r1
    repeat' (first | (simp -implicitDefEqProofs +contextual (maxSteps := 10000000) (disch := first | with_unfolding_all exact id rfl | assumption | ((fail_if_success (with_reducible refine isB ?_)); (first | omega | decide))) only [go_sem, v_n, c2, c3, foldL, r1]) | refine vIte_i (fun hb => ?_) fun hb => ?_ | refine vAp_i (by kernel_rfl) ?_ | refine vIf_i (fun hb => ?_) fun hb => ?_ | refine oT_Gi (fun hb => ?_) fun hb => ?_)
    refine v_inv (fun j : Nat => [(6, .w (.own 18 ((rfTs l).map oC))), (9, .w (.own 18 ((rfTs l).map oC))), (10, .w (.p (.int .i64 j)))]) (fun j => j ≤ (rfTs l).length) (fun j => (rfTs l).length - j) 0 rfl (by omega) ?_
    intro j hj hjh
    by_cases hlt : j < (rfTs l).length
    · obtain ⟨t, hx⟩ := get_lt hlt
      have c4 : (j : Int) < (rfTs l).length := by omega
      have hm := rfs_mem l t (mem_get hx)
      have o2 := pSame t t (by omega) (by omega)
      rw [sT_self] at o2
      have k1 : ¬ t.k < 2 := by omega
      have k2 : ¬ 6 < t.k := by omega
      repeat' (first | (simp -implicitDefEqProofs +contextual (maxSteps := 10000000) (disch := first | with_unfolding_all exact id rfl | assumption | ((fail_if_success (with_reducible refine isB ?_)); (first | omega | decide))) only [go_sem, v_n, hx, c4, o2, k1, k2]) | refine vIte_i (fun hb => ?_) fun hb => ?_ | refine vAp_i (by kernel_rfl) ?_ | refine vIf_i (fun hb => ?_) fun hb => ?_ | refine oT_Gi (fun hb => ?_) fun hb => ?_)
      exact hjh (j + 1) (by omega) (by omega)
    · obtain rfl : j = (rfTs l).length := by omega
      have c4 : ¬ ((rfTs l).length : Int) < (rfTs l).length := by omega
      repeat' (first | (simp -implicitDefEqProofs +contextual (maxSteps := 10000000) (disch := first | with_unfolding_all exact id rfl | assumption | ((fail_if_success (with_reducible refine isB ?_)); (first | omega | decide))) only [go_sem, v_n, c4]) | refine vIte_i (fun hb => ?_) fun hb => ?_ | refine vAp_i (by kernel_rfl) ?_ | refine vIf_i (fun hb => ?_) fun hb => ?_ | refine oT_Gi (fun hb => ?_) fun hb => ?_)
end Go.Pv.Cb
