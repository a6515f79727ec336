/- What the functions that EnvTakes reaches compute: a part. -/
import Derived.Test.YtfckadoadmdgjaaDoorXH
set_option linter.all false
namespace Go.Pv.Cb
set_option linter.unusedSimpArgs false
open Go.Pv
set_option maxRecDepth 10000
set_option maxHeartbeats 4000000
def mxs : List (Tr × Int) → Int → Int
  | [], n => n
  | x :: l, n => mxs l (if n < x.2 then x.2 else n)
def ixF (p : Tr × Int → Bool) : List (Tr × Int) → Nat → Int
  | [], _ => -1
  | x :: l, n => if p x = true then n else ixF p l (n + 1)
theorem ixF_any (p : Tr × Int → Bool) : ∀ (l : List (Tr × Int)) (n : Nat), 0 ≤ ixF p l n ↔ l.any p = true
  | [], n => by simp [ixF]
  | x :: l, n => by
    rw [ixF, List.any_cons]
    by_cases h : p x = true
    · simp [h]
    · rw [if_neg h, ixF_any p l (n + 1)]; simp [h]
theorem IndexN_spec (f : Nat) (p : Tr × Int → Bool) (l : List (Tr × Int)) (hl : l.length ≤ 100000) (hf : ∀ t d, ansOf E f [.a ((cN (t, d)).map OV.p)] = some ([(false, [.p (.bool (p (t, d)))])], [])) :
    ansOf E F_slices_IndexFunc_expr_node_expr_node [.w (.p (.sl 19 (l.map cN))), .clo f []] = some ([(false, [.p (.int .i64 (ixF p l 0))])], []) := by
  refine slices_IndexFunc_expr_node_expr_node_ans rfl rfl ?_
  repeat' (first | (simp -implicitDefEqProofs +contextual (maxSteps := 10000000) (disch := first | with_unfolding_all exact id rfl | assumption | ((fail_if_success (with_reducible refine isB ?_)); (first | omega | decide))) only [go_sem, v_n]) | refine vIte_i (fun hb => ?_) fun hb => ?_ | refine vAp_i (by kernel_rfl) ?_ | refine vIf_i (fun hb => ?_) fun hb => ?_ | refine oT_Gi (fun hb => ?_) fun hb => ?_)
  refine v_inv (fun i : Nat => [(0, .w (.p (.sl 19 (l.map cN)))), (1, .clo f []), (7, .w (.p (.int .i64 l.length))), (8, .w (.p (.int .i64 i)))]) (fun i => i ≤ l.length ∧ ixF p (l.drop i) i = ixF p l 0) (fun i => l.length - i) 0 rfl ⟨by omega, rfl⟩ ?_
  rintro i ⟨hi, hm⟩ hih
  by_cases hlt : i < l.length
  · obtain ⟨⟨t, d⟩, hx⟩ := get_lt hlt
    have c1 : (i : Int) < l.length := by omega
    have hf := hf t d
    rw [drop_get hx, ixF] at hm
    cases hp : p (t, d) with
    | true =>
      rw [hp] at hf hm
      simp only [if_true] at hm
      repeat' (first | (simp -implicitDefEqProofs +contextual (maxSteps := 10000000) (disch := first | with_unfolding_all exact id rfl | assumption | ((fail_if_success (with_reducible refine isB ?_)); (first | omega | decide))) only [go_sem, v_n, hx, c1, hf, ← hm]) | refine vIte_i (fun hb => ?_) fun hb => ?_ | refine vAp_i (by kernel_rfl) ?_ | refine vIf_i (fun hb => ?_) fun hb => ?_ | refine oT_Gi (fun hb => ?_) fun hb => ?_)
    | false =>
      rw [hp] at hf hm
      simp only [Bool.false_eq_true, if_false] at hm
      repeat' (first | (simp -implicitDefEqProofs +contextual (maxSteps := 10000000) (disch := first | with_unfolding_all exact id rfl | assumption | ((fail_if_success (with_reducible refine isB ?_)); (first | omega | decide))) only [go_sem, v_n, hx, c1, hf]) | refine vIte_i (fun hb => ?_) fun hb => ?_ | refine vAp_i (by kernel_rfl) ?_ | refine vIf_i (fun hb => ?_) fun hb => ?_ | refine oT_Gi (fun hb => ?_) fun hb => ?_)
      exact hih (i + 1) (by omega) ⟨by omega, hm⟩
  · obtain rfl : i = l.length := by omega
    have c1 : ¬ (l.length : Int) < l.length := by omega
    rw [List.drop_length, ixF] at hm
    repeat' (first | (simp -implicitDefEqProofs +contextual (maxSteps := 10000000) (disch := first | with_unfolding_all exact id rfl | assumption | ((fail_if_success (with_reducible refine isB ?_)); (first | omega | decide))) only [go_sem, v_n, c1, ← hm]) | refine vIte_i (fun hb => ?_) fun hb => ?_ | refine vAp_i (by kernel_rfl) ?_ | refine vIf_i (fun hb => ?_) fun hb => ?_ | refine oT_Gi (fun hb => ?_) fun hb => ?_)
theorem ContainsN_spec (f : Nat) (p : Tr × Int → Bool) (l : List (Tr × Int)) (hl : l.length ≤ 100000) (hf : ∀ t d, ansOf E f [.a ((cN (t, d)).map OV.p)] = some ([(false, [.p (.bool (p (t, d)))])], [])) :
    ansOf E F_slices_ContainsFunc_expr_node_expr_node [.w (.p (.sl 19 (l.map cN))), .clo f []] = some ([(false, [.p (.bool (l.any p))])], []) := by
  have h := IndexN_spec f p l hl hf
  have h2 := ixF_any p l 0
  refine slices_ContainsFunc_expr_node_expr_node_ans rfl rfl ?_
  repeat' (first | (simp -implicitDefEqProofs +contextual (maxSteps := 10000000) (disch := first | with_unfolding_all exact id rfl | assumption | ((fail_if_success (with_reducible refine isB ?_)); (first | omega | decide))) only [go_sem, v_n, h]) | refine vIte_i (fun hb => ?_) fun hb => ?_ | refine vAp_i (by kernel_rfl) ?_ | refine vIf_i (fun hb => ?_) fun hb => ?_ | refine oT_Gi (fun hb => ?_) fun hb => ?_)
  refine congrArg (fun b => OV.p (PV.bool b)) ?_
  rw [Bool.eq_iff_iff, decide_eq_true_eq]; exact h2
theorem Check1_spec (t : Tr) (d : Int) : ansOf E F_expr_Check_1 [.a ((cN (t, d)).map OV.p)] = some ([(false, [.p (.bool (decide (16 < d)))])], []) := by
  refine expr_Check_1_ans rfl rfl ?_
  repeat' (first | (simp -implicitDefEqProofs +contextual (maxSteps := 10000000) (disch := first | with_unfolding_all exact id rfl | assumption | ((fail_if_success (with_reducible refine isB ?_)); (first | omega | decide))) only [go_sem, v_n]) | refine vIte_i (fun hb => ?_) fun hb => ?_ | refine vAp_i (by kernel_rfl) ?_ | refine vIf_i (fun hb => ?_) fun hb => ?_ | refine oT_Gi (fun hb => ?_) fun hb => ?_)
noncomputable def ffs : List (Tr × Int) → Int
  | [] => 0
  | x :: l => if partF x.1 = 0 then ffs l else partF x.1
noncomputable def chkF (e : Tr) : Int := if ((nds 1 e).any fun x => decide (16 < x.2)) = true then 11 else if 1024 < (e.n : Int) then 4 else ffs (nds 1 e)
theorem Check_spec (e : Tr) (he : e.n ≤ 100000) (hs : ∀ x ∈ nds 1 e, x.1.v.s.length ≤ 1000000) : ansOf E F_expr_Check [.a ((cT e).map OV.p)] = some ([(false, [.p (.int .i64 (chkF e))])], []) := by
  have hw := walk_spec e he
  have hn := nds_len 1 e
  unfold chkF
  generalize nds 1 e = l at *
  have hc := ContainsN_spec F_expr_Check_1 (fun x => decide (16 < x.2)) l (by omega) (fun t d => Check1_spec t d)
  by_cases h1 : (l.any fun x => decide (16 < x.2)) = true
  · rw [h1] at hc ⊢
    refine expr_Check_ans rfl rfl ?_
    repeat' (first | (simp -implicitDefEqProofs +contextual (maxSteps := 10000000) (disch := first | with_unfolding_all exact id rfl | assumption | ((fail_if_success (with_reducible refine isB ?_)); (first | omega | decide))) only [go_sem, v_n, hw, hc]) | refine vIte_i (fun hb => ?_) fun hb => ?_ | refine vAp_i (by kernel_rfl) ?_ | refine vIf_i (fun hb => ?_) fun hb => ?_ | refine oT_Gi (fun hb => ?_) fun hb => ?_)
  by_cases h2 : 1024 < (e.n : Int)
  · simp only [Bool.not_eq_true] at h1
    rw [h1] at hc ⊢
    refine expr_Check_ans rfl rfl ?_
    repeat' (first | (simp -implicitDefEqProofs +contextual (maxSteps := 10000000) (disch := first | with_unfolding_all exact id rfl | assumption | ((fail_if_success (with_reducible refine isB ?_)); (first | omega | decide))) only [go_sem, v_n, hw, hc, hn, h2]) | refine vIte_i (fun hb => ?_) fun hb => ?_ | refine vAp_i (by kernel_rfl) ?_ | refine vIf_i (fun hb => ?_) fun hb => ?_ | refine oT_Gi (fun hb => ?_) fun hb => ?_)
  · simp only [Bool.not_eq_true] at h1
    rw [h1] at hc ⊢
    rw [if_neg h2]
    refine expr_Check_ans rfl rfl ?_
    repeat' (first | (simp -implicitDefEqProofs +contextual (maxSteps := 10000000) (disch := first | with_unfolding_all exact id rfl | assumption | ((fail_if_success (with_reducible refine isB ?_)); (first | omega | decide))) only [go_sem, v_n, hw, hc, hn, h2]) | refine vIte_i (fun hb => ?_) fun hb => ?_ | refine vAp_i (by kernel_rfl) ?_ | refine vIf_i (fun hb => ?_) fun hb => ?_ | refine oT_Gi (fun hb => ?_) fun hb => ?_)
    refine v_inv (fun i : Nat => [(3, .w (.p (.sl 19 (l.map cN)))), (14, .w (.p (.sl 19 (l.map cN)))), (15, .w (.p (.int .i64 l.length))), (16, .w (.p (.int .i64 i)))]) (fun i => i ≤ l.length ∧ ffs (l.drop i) = ffs l) (fun i => l.length - i) 0 (by rw [hn]; rfl) ⟨by omega, rfl⟩ ?_
    rintro i ⟨hi, hm⟩ hih
    by_cases hlt : i < l.length
    · obtain ⟨⟨t, d⟩, hx⟩ := get_lt hlt
      have c1 : (i : Int) < l.length := by omega
      have hp := part_spec t (hs _ (mem_get hx))
      rw [drop_get hx, ffs] at hm
      by_cases hz : partF t = 0
      · rw [if_pos hz] at hm
        rw [hz] at hp
        repeat' (first | (simp -implicitDefEqProofs +contextual (maxSteps := 10000000) (disch := first | with_unfolding_all exact id rfl | assumption | ((fail_if_success (with_reducible refine isB ?_)); (first | omega | decide))) only [go_sem, v_n, hx, c1, hp]) | refine vIte_i (fun hb => ?_) fun hb => ?_ | refine vAp_i (by kernel_rfl) ?_ | refine vIf_i (fun hb => ?_) fun hb => ?_ | refine oT_Gi (fun hb => ?_) fun hb => ?_)
        exact hih (i + 1) (by omega) ⟨by omega, hm⟩
      · rw [if_neg hz] at hm
        repeat' (first | (simp -implicitDefEqProofs +contextual (maxSteps := 10000000) (disch := first | with_unfolding_all exact id rfl | assumption | ((fail_if_success (with_reducible refine isB ?_)); (first | omega | decide))) only [go_sem, v_n, hx, c1, hp, hz, ← hm]) | refine vIte_i (fun hb => ?_) fun hb => ?_ | refine vAp_i (by kernel_rfl) ?_ | refine vIf_i (fun hb => ?_) fun hb => ?_ | refine oT_Gi (fun hb => ?_) fun hb => ?_)
    · obtain rfl : i = l.length := by omega
      have c1 : ¬ (l.length : Int) < l.length := by omega
      rw [List.drop_length, ffs] at hm
      repeat' (first | (simp -implicitDefEqProofs +contextual (maxSteps := 10000000) (disch := first | with_unfolding_all exact id rfl | assumption | ((fail_if_success (with_reducible refine isB ?_)); (first | omega | decide))) only [go_sem, v_n, c1, ← hm]) | refine vIte_i (fun hb => ?_) fun hb => ?_ | refine vAp_i (by kernel_rfl) ?_ | refine vIf_i (fun hb => ?_) fun hb => ?_ | refine oT_Gi (fun hb => ?_) fun hb => ?_)
end Go.Pv.Cb
