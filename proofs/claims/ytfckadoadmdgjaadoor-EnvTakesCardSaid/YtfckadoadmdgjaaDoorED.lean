/- What the functions that EnvTakes reaches compute: a part. -/
import Derived.Test.YtfckadoadmdgjaaDoorEC
set_option linter.all false
namespace Go.Pv.Cb
set_option linter.unusedSimpArgs false
open Go.Pv
set_option maxRecDepth 10000
set_option maxHeartbeats 4000000
noncomputable def badS (n : Int) (pr : Option Pl) (x : Sl) : Int := if ¬ gdP n x.p then 12 else if ¬ vC x.v = 0 then vC x.v else if x.v.k = 0 then 1 else match pr with
  | some q => if plt q x.p then 0 else 6
  | none => 0
noncomputable def chkS (n : Int) : Option Pl → List Sl → Int
  | _, [] => 0
  | pr, x :: l => if badS n pr x = 0 then chkS n (some x.p) l else badS n pr x
noncomputable def badN (t : Tr) : Int := if ¬ chk t = 0 then chk t else if ((rfT t).any fun x => decide (x.k = 6)) = true then 3 else 0
noncomputable def chkN : List Tr → Int
  | [] => 0
  | t :: l => if badN t = 0 then chkN l else badN t
noncomputable def chkE (n : Int) (l : List Sl) (nm : List Tr) : Int := if n < 1 ∨ 8 < n then 1 else if 4096 < l.length ∨ 1024 < nm.length then 4 else if chkS n none l = 0 then chkN nm else chkS n none l
def prevP (l : List Sl) (i : Nat) : Option Pl := if i = 0 then none else (l[i - 1]?).map (·.p)
theorem ECheck1_spec (t : Tr) : ansOf E F_env_Check_1 [.a ((cT t).map OV.p)] = some ([(false, [.p (.bool (decide (t.k = 6)))])], []) := by
  refine env_Check_1_ans rfl rfl ?_
  repeat' (first | (simp -implicitDefEqProofs +contextual (maxSteps := 10000000) (disch := first | with_unfolding_all exact id rfl | assumption | ((fail_if_success (with_reducible refine isB ?_)); (first | omega | decide))) only [go_sem, v_n]) | refine vIte_i (fun hb => ?_) fun hb => ?_ | refine vAp_i (by kernel_rfl) ?_ | refine vIf_i (fun hb => ?_) fun hb => ?_ | refine oT_Gi (fun hb => ?_) fun hb => ?_)
def ixT (p : Tr → Bool) : List Tr → Nat → Int
  | [], _ => -1
  | x :: l, n => if p x = true then n else ixT p l (n + 1)
theorem ixT_any (p : Tr → Bool) : ∀ (l : List Tr) (n : Nat), 0 ≤ ixT p l n ↔ l.any p = true
  | [], n => by simp [ixT]
  | x :: l, n => by
    rw [ixT, List.any_cons]
    by_cases h : p x = true
    · simp [h]
    · rw [if_neg h, ixT_any p l (n + 1)]; simp [h]
theorem IndexT_spec (f : Nat) (p : Tr → Bool) (l : List Tr) (hl : l.length ≤ 100000) (hf : ∀ t, ansOf E f [.a ((cT t).map OV.p)] = some ([(false, [.p (.bool (p t))])], [])) :
    ansOf E F_slices_IndexFunc_expr_Expr_expr_Expr [.w (.p (.sl 18 (l.map cT))), .clo f []] = some ([(false, [.p (.int .i64 (ixT p l 0))])], []) := by
  refine slices_IndexFunc_expr_Expr_expr_Expr_ans rfl rfl ?_
  repeat' (first | (simp -implicitDefEqProofs +contextual (maxSteps := 10000000) (disch := first | with_unfolding_all exact id rfl | assumption | ((fail_if_success (with_reducible refine isB ?_)); (first | omega | decide))) only [go_sem, v_n]) | refine vIte_i (fun hb => ?_) fun hb => ?_ | refine vAp_i (by kernel_rfl) ?_ | refine vIf_i (fun hb => ?_) fun hb => ?_ | refine oT_Gi (fun hb => ?_) fun hb => ?_)
  refine v_inv (fun i : Nat => [(0, .w (.p (.sl 18 (l.map cT)))), (1, .clo f []), (7, .w (.p (.int .i64 l.length))), (8, .w (.p (.int .i64 i)))]) (fun i => i ≤ l.length ∧ ixT p (l.drop i) i = ixT p l 0) (fun i => l.length - i) 0 rfl ⟨by omega, rfl⟩ ?_
  rintro i ⟨hi, hm⟩ hih
  by_cases hlt : i < l.length
  · obtain ⟨t, hx⟩ := get_lt hlt
    have c1 : (i : Int) < l.length := by omega
    have hf := hf t
    rw [drop_get hx, ixT] at hm
    cases hp : p t with
    | true =>
      rw [hp] at hf hm
      simp only [if_true] at hm
      repeat' (first | (simp -implicitDefEqProofs +contextual (maxSteps := 10000000) (disch := first | with_unfolding_all exact id rfl | assumption | ((fail_if_success (with_reducible refine isB ?_)); (first | omega | decide))) only [go_sem, v_n, hx, c1, hf, ← hm]) | refine vIte_i (fun hb => ?_) fun hb => ?_ | refine vAp_i (by kernel_rfl) ?_ | refine vIf_i (fun hb => ?_) fun hb => ?_ | refine oT_Gi (fun hb => ?_) fun hb => ?_)
    | false =>
      rw [hp] at hf hm
      simp only [Bool.false_eq_true, if_false] at hm
      repeat' (first | (simp -implicitDefEqProofs +contextual (maxSteps := 10000000) (disch := first | with_unfolding_all exact id rfl | assumption | ((fail_if_success (with_reducible refine isB ?_)); (first | omega | decide))) only [go_sem, v_n, hx, c1, hf]) | refine vIte_i (fun hb => ?_) fun hb => ?_ | refine vAp_i (by kernel_rfl) ?_ | refine vIf_i (fun hb => ?_) fun hb => ?_ | refine oT_Gi (fun hb => ?_) fun hb => ?_)
      exact hih (i + 1) (by omega) ⟨by omega, hm⟩
  · obtain rfl : i = l.length := by omega
    have c1 : ¬ (l.length : Int) < l.length := by omega
    rw [List.drop_length, ixT] at hm
    repeat' (first | (simp -implicitDefEqProofs +contextual (maxSteps := 10000000) (disch := first | with_unfolding_all exact id rfl | assumption | ((fail_if_success (with_reducible refine isB ?_)); (first | omega | decide))) only [go_sem, v_n, c1, ← hm]) | refine vIte_i (fun hb => ?_) fun hb => ?_ | refine vAp_i (by kernel_rfl) ?_ | refine vIf_i (fun hb => ?_) fun hb => ?_ | refine oT_Gi (fun hb => ?_) fun hb => ?_)
theorem ContainsT_spec (f : Nat) (p : Tr → Bool) (l : List Tr) (hl : l.length ≤ 100000) (hf : ∀ t, ansOf E f [.a ((cT t).map OV.p)] = some ([(false, [.p (.bool (p t))])], [])) :
    ansOf E F_slices_ContainsFunc_expr_Expr_expr_Expr [.w (.p (.sl 18 (l.map cT))), .clo f []] = some ([(false, [.p (.bool (l.any p))])], []) := by
  have h := IndexT_spec f p l hl hf
  have h2 := ixT_any p l 0
  refine slices_ContainsFunc_expr_Expr_expr_Expr_ans rfl rfl ?_
  repeat' (first | (simp -implicitDefEqProofs +contextual (maxSteps := 10000000) (disch := first | with_unfolding_all exact id rfl | assumption | ((fail_if_success (with_reducible refine isB ?_)); (first | omega | decide))) only [go_sem, v_n, h]) | refine vIte_i (fun hb => ?_) fun hb => ?_ | refine vAp_i (by kernel_rfl) ?_ | refine vIf_i (fun hb => ?_) fun hb => ?_ | refine oT_Gi (fun hb => ?_) fun hb => ?_)
  refine congrArg (fun b => OV.p (PV.bool b)) ?_
  rw [Bool.eq_iff_iff, decide_eq_true_eq]; exact h2
theorem prev_succ {l : List Sl} {i : Nat} {x : Sl} (h : l[i]? = some x) : prevP l (i + 1) = some x.p := by
  unfold prevP; rw [if_neg (by omega), Nat.add_sub_cancel, h]; rfl
theorem ECheck_spec (n : Int) (l : List Sl) (nm : List Tr) (hv : ∀ x ∈ l, x.v.s.length ≤ 1000000) (hn : ∀ t ∈ nm, t.n ≤ 100000) (hst : ∀ t ∈ nm, t.st) :
    ansOf E F_env_Check [.a [.p (.int .i64 n), .p (.sl 9 (l.map cS)), .p (.sl 18 (nm.map cT))]] = some ([(false, [.p (.int .i64 (chkE n l nm))])], []) := by
  unfold chkE
  by_cases a1 : n < 1
  · rw [if_pos (.inl a1)]
    refine env_Check_ans rfl rfl ?_
    repeat' (first | (simp -implicitDefEqProofs +contextual (maxSteps := 10000000) (disch := first | with_unfolding_all exact id rfl | assumption | ((fail_if_success (with_reducible refine isB ?_)); (first | omega | decide))) only [go_sem, v_n, a1]) | refine vIte_i (fun hb => ?_) fun hb => ?_ | refine vAp_i (by kernel_rfl) ?_ | refine vIf_i (fun hb => ?_) fun hb => ?_ | refine oT_Gi (fun hb => ?_) fun hb => ?_)
  by_cases a2 : 8 < n
  · rw [if_pos (.inr a2)]
    refine env_Check_ans rfl rfl ?_
    repeat' (first | (simp -implicitDefEqProofs +contextual (maxSteps := 10000000) (disch := first | with_unfolding_all exact id rfl | assumption | ((fail_if_success (with_reducible refine isB ?_)); (first | omega | decide))) only [go_sem, v_n, a1, a2]) | refine vIte_i (fun hb => ?_) fun hb => ?_ | refine vAp_i (by kernel_rfl) ?_ | refine vIf_i (fun hb => ?_) fun hb => ?_ | refine oT_Gi (fun hb => ?_) fun hb => ?_)
  rw [if_neg (by omega)]
  by_cases a3 : 4096 < (l.length : Int)
  · rw [if_pos (.inl (by omega))]
    refine env_Check_ans rfl rfl ?_
    repeat' (first | (simp -implicitDefEqProofs +contextual (maxSteps := 10000000) (disch := first | with_unfolding_all exact id rfl | assumption | ((fail_if_success (with_reducible refine isB ?_)); (first | omega | decide))) only [go_sem, v_n, a1, a2, a3]) | refine vIte_i (fun hb => ?_) fun hb => ?_ | refine vAp_i (by kernel_rfl) ?_ | refine vIf_i (fun hb => ?_) fun hb => ?_ | refine oT_Gi (fun hb => ?_) fun hb => ?_)
  by_cases a4 : 1024 < (nm.length : Int)
  · rw [if_pos (.inr (by omega))]
    refine env_Check_ans rfl rfl ?_
    repeat' (first | (simp -implicitDefEqProofs +contextual (maxSteps := 10000000) (disch := first | with_unfolding_all exact id rfl | assumption | ((fail_if_success (with_reducible refine isB ?_)); (first | omega | decide))) only [go_sem, v_n, a1, a2, a3, a4]) | refine vIte_i (fun hb => ?_) fun hb => ?_ | refine vAp_i (by kernel_rfl) ?_ | refine vIf_i (fun hb => ?_) fun hb => ?_ | refine oT_Gi (fun hb => ?_) fun hb => ?_)
  rw [if_neg (by omega)]
  refine env_Check_ans rfl rfl ?_
  repeat' (first | (simp -implicitDefEqProofs +contextual (maxSteps := 10000000) (disch := first | with_unfolding_all exact id rfl | assumption | ((fail_if_success (with_reducible refine isB ?_)); (first | omega | decide))) only [go_sem, v_n, a1, a2, a3, a4]) | refine vIte_i (fun hb => ?_) fun hb => ?_ | refine vAp_i (by kernel_rfl) ?_ | refine vIf_i (fun hb => ?_) fun hb => ?_ | refine oT_Gi (fun hb => ?_) fun hb => ?_)
  refine v_inv (fun i : Nat => [(1, .box [.p (.int .i64 n), .p (.sl 9 (l.map cS)), .p (.sl 18 (nm.map cT))]), (25, .ptr (.b 1 1)), (26, .w (.p (.sl 9 (l.map cS)))), (27, .w (.p (.int .i64 l.length))), (28, .w (.p (.int .i64 i)))]) (fun i => i ≤ l.length ∧ chkS n (prevP l i) (l.drop i) = chkS n none l) (fun i => l.length - i) 0 rfl ⟨by omega, rfl⟩ ?_
  rintro i ⟨hi, hm⟩ hih
  by_cases hlt : i < l.length
  · obtain ⟨x, hx⟩ := get_lt hlt
    have c1 : (i : Int) < l.length := by omega
    have hg := egood_spec n (.sl 9 (l.map cS)) (.sl 18 (nm.map cT)) x.p
    have hc := vcheckT x.v (hv x (mem_get hx))
    rw [drop_get hx, chkS] at hm
    by_cases b1 : gdP n x.p
    · rw [decide_eq_true b1] at hg
      by_cases b2 : vC x.v = 0
      · rw [b2] at hc
        by_cases b3 : x.v.k = 0
        · have e : badS n (prevP l i) x = 1 := by unfold badS; rw [if_neg (by simpa using b1), if_neg (by simpa using b2), if_pos b3]
          rw [e, if_neg (by decide)] at hm
          rw [← hm]
          clear hih
          simp only [b3] at hc
          repeat' (first | (simp -implicitDefEqProofs +contextual (maxSteps := 10000000) (disch := first | with_unfolding_all exact id rfl | assumption | ((fail_if_success (with_reducible refine isB ?_)); (first | omega | decide))) only [go_sem, v_n, hx, c1, hg, hc, b3]) | refine vIte_i (fun hb => ?_) fun hb => ?_ | refine vAp_i (by kernel_rfl) ?_ | refine vIf_i (fun hb => ?_) fun hb => ?_ | refine oT_Gi (fun hb => ?_) fun hb => ?_)
        · cases i with
          | zero =>
            have e : badS n (prevP l 0) x = 0 := by unfold badS; rw [if_neg (by simpa using b1), if_neg (by simpa using b2), if_neg b3]; rfl
            rw [e, if_pos rfl] at hm
            have := hih 1 (by omega) ⟨by omega, by rw [prev_succ hx]; exact hm⟩
            clear hih
            have c1 : (0 : Int) < l.length := by omega
            repeat' (first | (simp -implicitDefEqProofs +contextual (maxSteps := 10000000) (disch := first | with_unfolding_all exact id rfl | assumption | ((fail_if_success (with_reducible refine isB ?_)); (first | omega | decide))) only [go_sem, v_n, hx, c1, hg, hc, b3]) | refine vIte_i (fun hb => ?_) fun hb => ?_ | refine vAp_i (by kernel_rfl) ?_ | refine vIf_i (fun hb => ?_) fun hb => ?_ | refine oT_Gi (fun hb => ?_) fun hb => ?_)
            exact this
          | succ i =>
            obtain ⟨y, hy⟩ := get_lt (l := l) (i := i) (by omega)
            have hL := Less_spec y.p x.p
            have c2 : (0 : Int) < ((i + 1 : Nat) : Int) := by omega
            have c3 : ((i + 1 : Nat) : Int) - 1 = (i : Int) := by omega
            have e : badS n (prevP l (i + 1)) x = if plt y.p x.p then 0 else 6 := by unfold badS; rw [if_neg (by simpa using b1), if_neg (by simpa using b2), if_neg b3, prev_succ hy]
            rw [e] at hm
            by_cases b4 : plt y.p x.p
            · rw [decide_eq_true b4] at hL
              rw [if_pos b4, if_pos rfl] at hm
              have := hih (i + 2) (by omega) ⟨by omega, by rw [prev_succ hx]; exact hm⟩
              clear hih
              repeat' (first | (simp -implicitDefEqProofs +contextual (maxSteps := 10000000) (disch := first | with_unfolding_all exact id rfl | assumption | ((fail_if_success (with_reducible refine isB ?_)); (first | omega | decide))) only [go_sem, v_n, hx, hy, c1, c2, c3, hg, hc, b3, hL]) | refine vIte_i (fun hb => ?_) fun hb => ?_ | refine vAp_i (by kernel_rfl) ?_ | refine vIf_i (fun hb => ?_) fun hb => ?_ | refine oT_Gi (fun hb => ?_) fun hb => ?_)
              exact this
            · rw [decide_eq_false b4] at hL
              rw [if_neg b4, if_neg (by decide)] at hm
              rw [← hm]
              clear hih
              repeat' (first | (simp -implicitDefEqProofs +contextual (maxSteps := 10000000) (disch := first | with_unfolding_all exact id rfl | assumption | ((fail_if_success (with_reducible refine isB ?_)); (first | omega | decide))) only [go_sem, v_n, hx, hy, c1, c2, c3, hg, hc, b3, hL]) | refine vIte_i (fun hb => ?_) fun hb => ?_ | refine vAp_i (by kernel_rfl) ?_ | refine vIf_i (fun hb => ?_) fun hb => ?_ | refine oT_Gi (fun hb => ?_) fun hb => ?_)
      · have e : badS n (prevP l i) x = vC x.v := by unfold badS; rw [if_neg (by simpa using b1), if_pos b2]
        rw [e, if_neg b2] at hm
        rw [← hm, if_neg b2]
        clear hih
        repeat' (first | (simp -implicitDefEqProofs +contextual (maxSteps := 10000000) (disch := first | with_unfolding_all exact id rfl | assumption | ((fail_if_success (with_reducible refine isB ?_)); (first | omega | decide))) only [go_sem, v_n, hx, c1, hg, hc, b2]) | refine vIte_i (fun hb => ?_) fun hb => ?_ | refine vAp_i (by kernel_rfl) ?_ | refine vIf_i (fun hb => ?_) fun hb => ?_ | refine oT_Gi (fun hb => ?_) fun hb => ?_)
    · rw [decide_eq_false b1] at hg
      have e : badS n (prevP l i) x = 12 := by unfold badS; rw [if_pos b1]
      rw [e, if_neg (by decide)] at hm
      rw [← hm]
      clear hih
      repeat' (first | (simp -implicitDefEqProofs +contextual (maxSteps := 10000000) (disch := first | with_unfolding_all exact id rfl | assumption | ((fail_if_success (with_reducible refine isB ?_)); (first | omega | decide))) only [go_sem, v_n, hx, c1, hg]) | refine vIte_i (fun hb => ?_) fun hb => ?_ | refine vAp_i (by kernel_rfl) ?_ | refine vIf_i (fun hb => ?_) fun hb => ?_ | refine oT_Gi (fun hb => ?_) fun hb => ?_)
  · obtain rfl : i = l.length := by omega
    have c1 : ¬ (l.length : Int) < l.length := by omega
    rw [List.drop_length, chkS] at hm
    rw [← hm, if_pos rfl]
    clear hih
    repeat' (first | (simp -implicitDefEqProofs +contextual (maxSteps := 10000000) (disch := first | with_unfolding_all exact id rfl | assumption | ((fail_if_success (with_reducible refine isB ?_)); (first | omega | decide))) only [go_sem, v_n, c1]) | refine vIte_i (fun hb => ?_) fun hb => ?_ | refine vAp_i (by kernel_rfl) ?_ | refine vIf_i (fun hb => ?_) fun hb => ?_ | refine oT_Gi (fun hb => ?_) fun hb => ?_)
    refine v_inv (fun i : Nat => [(1, .box [.p (.int .i64 n), .p (.sl 9 (l.map cS)), .p (.sl 18 (nm.map cT))]), (64, .ptr (.b 1 2)), (65, .w (.p (.sl 18 (nm.map cT)))), (66, .w (.p (.int .i64 nm.length))), (67, .w (.p (.int .i64 i)))]) (fun i => i ≤ nm.length ∧ chkN (nm.drop i) = chkN nm) (fun i => nm.length - i) 0 rfl ⟨by omega, rfl⟩ ?_
    rintro i ⟨hi, hm⟩ hih
    by_cases hlt : i < nm.length
    · obtain ⟨t, hx⟩ := get_lt hlt
      have c1 : (i : Int) < nm.length := by omega
      have hc := pCheck t (hn t (mem_get hx)) (hst t (mem_get hx))
      have hr := pRefs t (hn t (mem_get hx))
      have hl := rfT_len t
      have hct := ContainsT_spec F_env_Check_1 (fun x => decide (x.k = 6)) (rfT t) (by have := hn t (mem_get hx); omega) ECheck1_spec
      rw [drop_get hx, chkN] at hm
      by_cases b1 : chk t = 0
      · rw [b1] at hc
        cases b2 : ((rfT t).any fun x => decide (x.k = 6)) with
        | true =>
          rw [b2] at hct
          have e : badN t = 3 := by unfold badN; rw [if_neg (by simpa using b1), if_pos b2]
          rw [e, if_neg (by decide)] at hm
          rw [← hm]
          clear hih
          repeat' (first | (simp -implicitDefEqProofs +contextual (maxSteps := 10000000) (disch := first | with_unfolding_all exact id rfl | assumption | ((fail_if_success (with_reducible refine isB ?_)); (first | omega | decide))) only [go_sem, v_n, hx, c1, hc, hr, hct]) | refine vIte_i (fun hb => ?_) fun hb => ?_ | refine vAp_i (by kernel_rfl) ?_ | refine vIf_i (fun hb => ?_) fun hb => ?_ | refine oT_Gi (fun hb => ?_) fun hb => ?_)
        | false =>
          rw [b2] at hct
          have e : badN t = 0 := by unfold badN; rw [if_neg (by simpa using b1), if_neg (by rw [b2]; decide)]
          rw [e, if_pos rfl] at hm
          have := hih (i + 1) (by omega) ⟨by omega, hm⟩
          clear hih
          repeat' (first | (simp -implicitDefEqProofs +contextual (maxSteps := 10000000) (disch := first | with_unfolding_all exact id rfl | assumption | ((fail_if_success (with_reducible refine isB ?_)); (first | omega | decide))) only [go_sem, v_n, hx, c1, hc, hr, hct]) | refine vIte_i (fun hb => ?_) fun hb => ?_ | refine vAp_i (by kernel_rfl) ?_ | refine vIf_i (fun hb => ?_) fun hb => ?_ | refine oT_Gi (fun hb => ?_) fun hb => ?_)
          exact this
      · have e : badN t = chk t := by unfold badN; rw [if_pos b1]
        rw [e, if_neg b1] at hm
        rw [← hm]
        clear hih
        repeat' (first | (simp -implicitDefEqProofs +contextual (maxSteps := 10000000) (disch := first | with_unfolding_all exact id rfl | assumption | ((fail_if_success (with_reducible refine isB ?_)); (first | omega | decide))) only [go_sem, v_n, hx, c1, hc, b1]) | refine vIte_i (fun hb => ?_) fun hb => ?_ | refine vAp_i (by kernel_rfl) ?_ | refine vIf_i (fun hb => ?_) fun hb => ?_ | refine oT_Gi (fun hb => ?_) fun hb => ?_)
    · obtain rfl : i = nm.length := by omega
      have c1 : ¬ (nm.length : Int) < nm.length := by omega
      rw [List.drop_length, chkN] at hm
      rw [← hm]
      clear hih
      repeat' (first | (simp -implicitDefEqProofs +contextual (maxSteps := 10000000) (disch := first | with_unfolding_all exact id rfl | assumption | ((fail_if_success (with_reducible refine isB ?_)); (first | omega | decide))) only [go_sem, v_n, c1]) | refine vIte_i (fun hb => ?_) fun hb => ?_ | refine vAp_i (by kernel_rfl) ?_ | refine vIf_i (fun hb => ?_) fun hb => ?_ | refine oT_Gi (fun hb => ?_) fun hb => ?_)
end Go.Pv.Cb
