/- What the functions that EnvTakes reaches compute: a part. -/
import Derived.Test.YtfckadoadmdgjaaDoorEE
set_option linter.all false
namespace Go.Pv.Cb
set_option linter.unusedSimpArgs false
open Go.Pv
set_option maxRecDepth 10000
set_option maxHeartbeats 4000000
theorem toCell_spec (r c : Int) : ansOf E F_law8_ToCell [.a [.p (.int .i64 r), .p (.int .i64 c)]] = some ([(true, [.p (.int .i64 r), .p (.int .i64 c)])], []) := by
  refine law8_ToCell_ans rfl rfl ?_
  repeat' (first | (simp -implicitDefEqProofs +contextual (maxSteps := 10000000) (disch := first | with_unfolding_all exact id rfl | assumption | ((fail_if_success (with_reducible refine isB ?_)); (first | omega | decide))) only [go_sem, v_n]) | refine vIte_i (fun hb => ?_) fun hb => ?_ | refine vAp_i (by kernel_rfl) ?_ | refine vIf_i (fun hb => ?_) fun hb => ?_ | refine oT_Gi (fun hb => ?_) fun hb => ?_)
theorem ofCell_spec (r c : Int) : ansOf E F_law8_OfCell [.a [.p (.int .i64 r), .p (.int .i64 c)]] = some ([(true, [.p (.int .i64 r), .p (.int .i64 c)])], []) := by
  refine law8_OfCell_ans rfl rfl ?_
  repeat' (first | (simp -implicitDefEqProofs +contextual (maxSteps := 10000000) (disch := first | with_unfolding_all exact id rfl | assumption | ((fail_if_success (with_reducible refine isB ?_)); (first | omega | decide))) only [go_sem, v_n]) | refine vIte_i (fun hb => ?_) fun hb => ?_ | refine vAp_i (by kernel_rfl) ?_ | refine vIf_i (fun hb => ?_) fun hb => ?_ | refine oT_Gi (fun hb => ?_) fun hb => ?_)
theorem toPl_spec (p : Pl) : ansOf E F_law14_ToPlace [.a (pP p)] = some ([(true, pP p)], []) := by
  refine law14_ToPlace_ans rfl rfl ?_
  repeat' (first | (simp -implicitDefEqProofs +contextual (maxSteps := 10000000) (disch := first | with_unfolding_all exact id rfl | assumption | ((fail_if_success (with_reducible refine isB ?_)); (first | omega | decide))) only [go_sem, v_n, toCell_spec]) | refine vIte_i (fun hb => ?_) fun hb => ?_ | refine vAp_i (by kernel_rfl) ?_ | refine vIf_i (fun hb => ?_) fun hb => ?_ | refine oT_Gi (fun hb => ?_) fun hb => ?_)
theorem ofPl_spec (p : Pl) : ansOf E F_law14_OfPlace [.a (pP p)] = some ([(true, pP p)], []) := by
  refine law14_OfPlace_ans rfl rfl ?_
  repeat' (first | (simp -implicitDefEqProofs +contextual (maxSteps := 10000000) (disch := first | with_unfolding_all exact id rfl | assumption | ((fail_if_success (with_reducible refine isB ?_)); (first | omega | decide))) only [go_sem, v_n, ofCell_spec]) | refine vIte_i (fun hb => ?_) fun hb => ?_ | refine vAp_i (by kernel_rfl) ?_ | refine vIf_i (fun hb => ?_) fun hb => ?_ | refine oT_Gi (fun hb => ?_) fun hb => ?_)
theorem ToAll_spec (l : List Tr) (hl : l.length ≤ 100000) (hn : ∀ t ∈ l, t.n ≤ 100000) : ansOf E F_law10_ToAll [.w (.p (.sl 18 (l.map cT)))] = some ([(false, [.own 18 (l.map wT)])], []) := by
  refine law10_ToAll_ans rfl rfl ?_
  repeat' (first | (simp -implicitDefEqProofs +contextual (maxSteps := 10000000) (disch := first | with_unfolding_all exact id rfl | assumption | ((fail_if_success (with_reducible refine isB ?_)); (first | omega | decide))) only [go_sem, v_n]) | refine vIte_i (fun hb => ?_) fun hb => ?_ | refine vAp_i (by kernel_rfl) ?_ | refine vIf_i (fun hb => ?_) fun hb => ?_ | refine oT_Gi (fun hb => ?_) fun hb => ?_)
  refine v_inv (fun i : Nat => [(0, .w (.p (.sl 18 (l.map cT)))), (3, .w (.own 18 ((l.take i).map wT))), (4, .w (.p (.int .i64 i)))]) (fun i => i ≤ l.length) (fun i => l.length - i) 0 rfl (by omega) ?_
  intro i hi hih
  by_cases hlt : i < l.length
  · obtain ⟨t, hx⟩ := get_lt hlt
    have c1 : (i : Int) < l.length := by omega
    have ht := lTo t (hn t (mem_get hx))
    have e1 : (l.take (i + 1)).map wT = (l.take i).map wT ++ [wT t] := by rw [List.take_add_one, hx]; simp
    have := hih (i + 1) (by omega) (by omega)
    rw [e1] at this
    clear hih
    repeat' (first | (simp -implicitDefEqProofs +contextual (maxSteps := 10000000) (disch := first | with_unfolding_all exact id rfl | assumption | ((fail_if_success (with_reducible refine isB ?_)); (first | omega | decide))) only [go_sem, v_n, hx, c1, ht]) | refine vIte_i (fun hb => ?_) fun hb => ?_ | refine vAp_i (by kernel_rfl) ?_ | refine vIf_i (fun hb => ?_) fun hb => ?_ | refine oT_Gi (fun hb => ?_) fun hb => ?_)
    exact this
  · obtain rfl : i = l.length := by omega
    have c1 : ¬ (l.length : Int) < l.length := by omega
    rw [List.take_length]
    clear hih
    repeat' (first | (simp -implicitDefEqProofs +contextual (maxSteps := 10000000) (disch := first | with_unfolding_all exact id rfl | assumption | ((fail_if_success (with_reducible refine isB ?_)); (first | omega | decide))) only [go_sem, v_n, c1]) | refine vIte_i (fun hb => ?_) fun hb => ?_ | refine vAp_i (by kernel_rfl) ?_ | refine vIf_i (fun hb => ?_) fun hb => ?_ | refine oT_Gi (fun hb => ?_) fun hb => ?_)
theorem ETo_spec (n : Int) (l : List Sl) (nm : List Tr) (hl : l.length ≤ 100000) (hl' : nm.length ≤ 100000) (hn : ∀ t ∈ nm, t.n ≤ 100000) :
    ansOf E F_law14_To [.a [.p (.int .i64 n), .p (.sl 9 (l.map cS)), .p (.sl 18 (nm.map cT))]] = some ([(true, [.p (.int .i64 n), .own 9 (l.map oS), .own 18 (nm.map wT)])], []) := by
  have h1 := ToAll_spec nm hl' hn
  refine law14_To_ans rfl rfl ?_
  repeat' (first | (simp -implicitDefEqProofs +contextual (maxSteps := 10000000) (disch := first | with_unfolding_all exact id rfl | assumption | ((fail_if_success (with_reducible refine isB ?_)); (first | omega | decide))) only [go_sem, v_n, h1]) | refine vIte_i (fun hb => ?_) fun hb => ?_ | refine vAp_i (by kernel_rfl) ?_ | refine vIf_i (fun hb => ?_) fun hb => ?_ | refine oT_Gi (fun hb => ?_) fun hb => ?_)
  refine v_inv (fun i : Nat => [(1, .box [.p (.int .i64 n), .p (.sl 9 (l.map cS)), .p (.sl 18 (nm.map cT))]), (2, .box [.p (.int .i64 0), .own 9 [], .own 18 []]), (3, .box [.p (.int .i64 n), .own 9 ((l.take i).map oS), .own 18 (nm.map wT)]), (4, .w (.p (.int .i64 i)))]) (fun i => i ≤ l.length) (fun i => l.length - i) 0 rfl (by omega) ?_
  intro i hi hih
  by_cases hlt : i < l.length
  · obtain ⟨x, hx⟩ := get_lt hlt
    have c1 : (i : Int) < l.length := by omega
    have t1 := toPl_spec x.p
    have t2 := v9To_spec x.v.k x.v.m x.v.c x.v.s x.v.b x.v.e
    have e1 : (l.take (i + 1)).map oS = (l.take i).map oS ++ [oS x] := by rw [List.take_add_one, hx]; simp
    have := hih (i + 1) (by omega) (by omega)
    rw [e1, oS_eq x] at this
    clear hih
    repeat' (first | (simp -implicitDefEqProofs +contextual (maxSteps := 10000000) (disch := first | with_unfolding_all exact id rfl | assumption | ((fail_if_success (with_reducible refine isB ?_)); (first | omega | decide))) only [go_sem, v_n, hx, c1, t1, t2]) | refine vIte_i (fun hb => ?_) fun hb => ?_ | refine vAp_i (by kernel_rfl) ?_ | refine vIf_i (fun hb => ?_) fun hb => ?_ | refine oT_Gi (fun hb => ?_) fun hb => ?_)
    exact this
  · obtain rfl : i = l.length := by omega
    have c1 : ¬ (l.length : Int) < l.length := by omega
    rw [List.take_length]
    clear hih
    repeat' (first | (simp -implicitDefEqProofs +contextual (maxSteps := 10000000) (disch := first | with_unfolding_all exact id rfl | assumption | ((fail_if_success (with_reducible refine isB ?_)); (first | omega | decide))) only [go_sem, v_n, c1]) | refine vIte_i (fun hb => ?_) fun hb => ?_ | refine vAp_i (by kernel_rfl) ?_ | refine vIf_i (fun hb => ?_) fun hb => ?_ | refine oT_Gi (fun hb => ?_) fun hb => ?_)
noncomputable def fwT (t : Tr) : Bool := Classical.choose (Few_spec t 200 (by omega))
theorem fwT_spec (t : Tr) : ansOf E F_law10_Few [.a ((cT t).map OV.p), .w (.p (.int .i64 200))] = some ([(false, [.p (.bool (fwT t))])], []) ∧ (fwT t = true → t.n ≤ 200 ∧ t.st) := Classical.choose_spec (Few_spec t 200 (by omega))
noncomputable def fewE (l : List Sl) (nm : List Tr) : Bool := decide (l.length ≤ 60 ∧ nm.length ≤ 20) && ((l.all fun x => decide (x.v.s.length ≤ 3000)) && nm.all fwT)
theorem EFew_spec (n : Int) (l : List Sl) (nm : List Tr) : ansOf E F_law14_Few [.a [.p (.int .i64 n), .p (.sl 9 (l.map cS)), .p (.sl 18 (nm.map cT))]] = some ([(false, [.p (.bool (fewE l nm))])], []) := by
  unfold fewE
  by_cases a1 : 60 < (l.length : Int)
  · rw [decide_eq_false (by omega), Bool.false_and]
    refine law14_Few_ans rfl rfl ?_
    repeat' (first | (simp -implicitDefEqProofs +contextual (maxSteps := 10000000) (disch := first | with_unfolding_all exact id rfl | assumption | ((fail_if_success (with_reducible refine isB ?_)); (first | omega | decide))) only [go_sem, v_n, a1]) | refine vIte_i (fun hb => ?_) fun hb => ?_ | refine vAp_i (by kernel_rfl) ?_ | refine vIf_i (fun hb => ?_) fun hb => ?_ | refine oT_Gi (fun hb => ?_) fun hb => ?_)
  by_cases a2 : 20 < (nm.length : Int)
  · rw [decide_eq_false (by omega), Bool.false_and]
    refine law14_Few_ans rfl rfl ?_
    repeat' (first | (simp -implicitDefEqProofs +contextual (maxSteps := 10000000) (disch := first | with_unfolding_all exact id rfl | assumption | ((fail_if_success (with_reducible refine isB ?_)); (first | omega | decide))) only [go_sem, v_n, a1, a2]) | refine vIte_i (fun hb => ?_) fun hb => ?_ | refine vAp_i (by kernel_rfl) ?_ | refine vIf_i (fun hb => ?_) fun hb => ?_ | refine oT_Gi (fun hb => ?_) fun hb => ?_)
  rw [decide_eq_true (by omega), Bool.true_and]
  refine law14_Few_ans rfl rfl ?_
  repeat' (first | (simp -implicitDefEqProofs +contextual (maxSteps := 10000000) (disch := first | with_unfolding_all exact id rfl | assumption | ((fail_if_success (with_reducible refine isB ?_)); (first | omega | decide))) only [go_sem, v_n, a1, a2]) | refine vIte_i (fun hb => ?_) fun hb => ?_ | refine vAp_i (by kernel_rfl) ?_ | refine vIf_i (fun hb => ?_) fun hb => ?_ | refine oT_Gi (fun hb => ?_) fun hb => ?_)
  refine v_inv (fun i : Nat => [(1, .box [.p (.int .i64 n), .p (.sl 9 (l.map cS)), .p (.sl 18 (nm.map cT))]), (3, .w (.p (.int .i64 i)))]) (fun i => i ≤ l.length ∧ (l.drop i).all (fun x => decide (x.v.s.length ≤ 3000)) = l.all fun x => decide (x.v.s.length ≤ 3000)) (fun i => l.length - i) 0 rfl ⟨by omega, rfl⟩ ?_
  rintro i ⟨hi, hm⟩ hih
  by_cases hlt : i < l.length
  · obtain ⟨x, hx⟩ := get_lt hlt
    have c1 : (i : Int) < l.length := by omega
    rw [drop_get hx, List.all_cons] at hm
    by_cases b1 : 3000 < (x.v.s.length : Int)
    · rw [decide_eq_false (by omega), Bool.false_and] at hm
      rw [← hm, Bool.false_and]
      clear hih
      repeat' (first | (simp -implicitDefEqProofs +contextual (maxSteps := 10000000) (disch := first | with_unfolding_all exact id rfl | assumption | ((fail_if_success (with_reducible refine isB ?_)); (first | omega | decide))) only [go_sem, v_n, hx, c1, b1]) | refine vIte_i (fun hb => ?_) fun hb => ?_ | refine vAp_i (by kernel_rfl) ?_ | refine vIf_i (fun hb => ?_) fun hb => ?_ | refine oT_Gi (fun hb => ?_) fun hb => ?_)
    · rw [decide_eq_true (by omega), Bool.true_and] at hm
      have := hih (i + 1) (by omega) ⟨by omega, hm⟩
      clear hih
      repeat' (first | (simp -implicitDefEqProofs +contextual (maxSteps := 10000000) (disch := first | with_unfolding_all exact id rfl | assumption | ((fail_if_success (with_reducible refine isB ?_)); (first | omega | decide))) only [go_sem, v_n, hx, c1, b1]) | refine vIte_i (fun hb => ?_) fun hb => ?_ | refine vAp_i (by kernel_rfl) ?_ | refine vIf_i (fun hb => ?_) fun hb => ?_ | refine oT_Gi (fun hb => ?_) fun hb => ?_)
      exact this
  · obtain rfl : i = l.length := by omega
    have c1 : ¬ (l.length : Int) < l.length := by omega
    rw [List.drop_length, List.all_nil] at hm
    rw [← hm, Bool.true_and]
    clear hih
    repeat' (first | (simp -implicitDefEqProofs +contextual (maxSteps := 10000000) (disch := first | with_unfolding_all exact id rfl | assumption | ((fail_if_success (with_reducible refine isB ?_)); (first | omega | decide))) only [go_sem, v_n, c1]) | refine vIte_i (fun hb => ?_) fun hb => ?_ | refine vAp_i (by kernel_rfl) ?_ | refine vIf_i (fun hb => ?_) fun hb => ?_ | refine oT_Gi (fun hb => ?_) fun hb => ?_)
    refine v_inv (fun i : Nat => [(1, .box [.p (.int .i64 n), .p (.sl 9 (l.map cS)), .p (.sl 18 (nm.map cT))]), (4, .w (.p (.int .i64 i)))]) (fun i => i ≤ nm.length ∧ (nm.drop i).all fwT = nm.all fwT) (fun i => nm.length - i) 0 rfl ⟨by omega, rfl⟩ ?_
    rintro i ⟨hi, hm⟩ hih
    by_cases hlt : i < nm.length
    · obtain ⟨t, hx⟩ := get_lt hlt
      have c1 : (i : Int) < nm.length := by omega
      have hf := (fwT_spec t).1
      rw [drop_get hx, List.all_cons] at hm
      cases b1 : fwT t with
      | false =>
        rw [b1] at hf hm
        rw [Bool.false_and] at hm
        rw [← hm]
        clear hih
        repeat' (first | (simp -implicitDefEqProofs +contextual (maxSteps := 10000000) (disch := first | with_unfolding_all exact id rfl | assumption | ((fail_if_success (with_reducible refine isB ?_)); (first | omega | decide))) only [go_sem, v_n, hx, c1, hf]) | refine vIte_i (fun hb => ?_) fun hb => ?_ | refine vAp_i (by kernel_rfl) ?_ | refine vIf_i (fun hb => ?_) fun hb => ?_ | refine oT_Gi (fun hb => ?_) fun hb => ?_)
      | true =>
        rw [b1] at hf hm
        rw [Bool.true_and] at hm
        have := hih (i + 1) (by omega) ⟨by omega, hm⟩
        clear hih
        repeat' (first | (simp -implicitDefEqProofs +contextual (maxSteps := 10000000) (disch := first | with_unfolding_all exact id rfl | assumption | ((fail_if_success (with_reducible refine isB ?_)); (first | omega | decide))) only [go_sem, v_n, hx, c1, hf]) | refine vIte_i (fun hb => ?_) fun hb => ?_ | refine vAp_i (by kernel_rfl) ?_ | refine vIf_i (fun hb => ?_) fun hb => ?_ | refine oT_Gi (fun hb => ?_) fun hb => ?_)
        exact this
    · obtain rfl : i = nm.length := by omega
      have c1 : ¬ (nm.length : Int) < nm.length := by omega
      rw [List.drop_length, List.all_nil] at hm
      rw [← hm]
      clear hih
      repeat' (first | (simp -implicitDefEqProofs +contextual (maxSteps := 10000000) (disch := first | with_unfolding_all exact id rfl | assumption | ((fail_if_success (with_reducible refine isB ?_)); (first | omega | decide))) only [go_sem, v_n, c1]) | refine vIte_i (fun hb => ?_) fun hb => ?_ | refine vAp_i (by kernel_rfl) ?_ | refine vIf_i (fun hb => ?_) fun hb => ?_ | refine oT_Gi (fun hb => ?_) fun hb => ?_)
theorem rLess_spec (p q : Pl) : ansOf E F_ref18_Less [.a (pP p), .a (pP q)] = some ([(false, [.p (.bool (decide (plt p q)))])], []) := by
  by_cases h1 : p.s = q.s
  · by_cases h2 : p.r = q.r
    · have e : decide (p.c < q.c) = decide (plt p q) := by rw [decide_eq_decide]; unfold plt; omega
      refine ref18_Less_ans rfl rfl ?_
      repeat' (first | (simp -implicitDefEqProofs +contextual (maxSteps := 10000000) (disch := first | with_unfolding_all exact id rfl | assumption | ((fail_if_success (with_reducible refine isB ?_)); (first | omega | decide))) only [go_sem, v_n, h1, h2, e]) | refine vIte_i (fun hb => ?_) fun hb => ?_ | refine vAp_i (by kernel_rfl) ?_ | refine vIf_i (fun hb => ?_) fun hb => ?_ | refine oT_Gi (fun hb => ?_) fun hb => ?_)
    · have e : decide (p.r < q.r) = decide (plt p q) := by rw [decide_eq_decide]; unfold plt; omega
      refine ref18_Less_ans rfl rfl ?_
      repeat' (first | (simp -implicitDefEqProofs +contextual (maxSteps := 10000000) (disch := first | with_unfolding_all exact id rfl | assumption | ((fail_if_success (with_reducible refine isB ?_)); (first | omega | decide))) only [go_sem, v_n, h1, h2, e]) | refine vIte_i (fun hb => ?_) fun hb => ?_ | refine vAp_i (by kernel_rfl) ?_ | refine vIf_i (fun hb => ?_) fun hb => ?_ | refine oT_Gi (fun hb => ?_) fun hb => ?_)
  · have e : decide (p.s < q.s) = decide (plt p q) := by rw [decide_eq_decide]; unfold plt; omega
    refine ref18_Less_ans rfl rfl ?_
    repeat' (first | (simp -implicitDefEqProofs +contextual (maxSteps := 10000000) (disch := first | with_unfolding_all exact id rfl | assumption | ((fail_if_success (with_reducible refine isB ?_)); (first | omega | decide))) only [go_sem, v_n, h1, e]) | refine vIte_i (fun hb => ?_) fun hb => ?_ | refine vAp_i (by kernel_rfl) ?_ | refine vIf_i (fun hb => ?_) fun hb => ?_ | refine oT_Gi (fun hb => ?_) fun hb => ?_)
theorem rGoodP_spec (n : Int) (p : Pl) : ansOf E F_ref18_GoodPlace [.a (pP p), .w (.p (.int .i64 n))] = some ([(false, [.p (.bool (decide (0 ≤ p.s ∧ p.s < n ∧ 0 ≤ p.r ∧ p.r < 65536 ∧ 0 ≤ p.c ∧ p.c < 256)))])], []) := by
  by_cases h1 : 0 ≤ p.s
  · by_cases h2 : p.s < n
    · refine ref18_GoodPlace_ans rfl rfl ?_
      repeat' (first | (simp -implicitDefEqProofs +contextual (maxSteps := 10000000) (disch := first | with_unfolding_all exact id rfl | assumption | ((fail_if_success (with_reducible refine isB ?_)); (first | omega | decide))) only [go_sem, v_n, h1, h2, rgood_spec]) | refine vIte_i (fun hb => ?_) fun hb => ?_ | refine vAp_i (by kernel_rfl) ?_ | refine vIf_i (fun hb => ?_) fun hb => ?_ | refine oT_Gi (fun hb => ?_) fun hb => ?_)
    · refine ref18_GoodPlace_ans rfl rfl ?_
      repeat' (first | (simp -implicitDefEqProofs +contextual (maxSteps := 10000000) (disch := first | with_unfolding_all exact id rfl | assumption | ((fail_if_success (with_reducible refine isB ?_)); (first | omega | decide))) only [go_sem, v_n, h1, h2, rgood_spec]) | refine vIte_i (fun hb => ?_) fun hb => ?_ | refine vAp_i (by kernel_rfl) ?_ | refine vIf_i (fun hb => ?_) fun hb => ?_ | refine oT_Gi (fun hb => ?_) fun hb => ?_)
  · refine ref18_GoodPlace_ans rfl rfl ?_
    repeat' (first | (simp -implicitDefEqProofs +contextual (maxSteps := 10000000) (disch := first | with_unfolding_all exact id rfl | assumption | ((fail_if_success (with_reducible refine isB ?_)); (first | omega | decide))) only [go_sem, v_n, h1, rgood_spec]) | refine vIte_i (fun hb => ?_) fun hb => ?_ | refine vAp_i (by kernel_rfl) ?_ | refine vIf_i (fun hb => ?_) fun hb => ?_ | refine oT_Gi (fun hb => ?_) fun hb => ?_)
theorem named_spec (t : Tr) (hn : t.n ≤ 100000) : ansOf E F_ref18_named [.a ((cT t).map OV.p)] = some ([(false, [.p (.bool ((rfT t).any fun x => decide (x.k = 6)))])], []) := by
  have hr := rRefs t hn
  have hl := rfT_len t
  refine ref18_named_ans rfl rfl ?_
  repeat' (first | (simp -implicitDefEqProofs +contextual (maxSteps := 10000000) (disch := first | with_unfolding_all exact id rfl | assumption | ((fail_if_success (with_reducible refine isB ?_)); (first | omega | decide))) only [go_sem, v_n, hr]) | refine vIte_i (fun hb => ?_) fun hb => ?_ | refine vAp_i (by kernel_rfl) ?_ | refine vIf_i (fun hb => ?_) fun hb => ?_ | refine oT_Gi (fun hb => ?_) fun hb => ?_)
  refine v_inv (fun i : Nat => [(3, .w (.own 18 ((rfT t).map oC))), (4, .w (.p (.int .i64 i)))]) (fun i => i ≤ (rfT t).length ∧ ((rfT t).drop i).any (fun x => decide (x.k = 6)) = (rfT t).any fun x => decide (x.k = 6)) (fun i => (rfT t).length - i) 0 rfl ⟨by omega, rfl⟩ ?_
  rintro i ⟨hi, hm⟩ hih
  by_cases hlt : i < (rfT t).length
  · obtain ⟨x, hx⟩ := get_lt hlt
    have c1 : (i : Int) < (rfT t).length := by omega
    rw [drop_get hx, List.any_cons] at hm
    by_cases b1 : x.k = 6
    · rw [decide_eq_true b1, Bool.true_or] at hm
      rw [← hm]
      clear hih
      repeat' (first | (simp -implicitDefEqProofs +contextual (maxSteps := 10000000) (disch := first | with_unfolding_all exact id rfl | assumption | ((fail_if_success (with_reducible refine isB ?_)); (first | omega | decide))) only [go_sem, v_n, hx, c1, b1]) | refine vIte_i (fun hb => ?_) fun hb => ?_ | refine vAp_i (by kernel_rfl) ?_ | refine vIf_i (fun hb => ?_) fun hb => ?_ | refine oT_Gi (fun hb => ?_) fun hb => ?_)
    · rw [decide_eq_false b1, Bool.false_or] at hm
      have := hih (i + 1) (by omega) ⟨by omega, hm⟩
      clear hih
      repeat' (first | (simp -implicitDefEqProofs +contextual (maxSteps := 10000000) (disch := first | with_unfolding_all exact id rfl | assumption | ((fail_if_success (with_reducible refine isB ?_)); (first | omega | decide))) only [go_sem, v_n, hx, c1, b1]) | refine vIte_i (fun hb => ?_) fun hb => ?_ | refine vAp_i (by kernel_rfl) ?_ | refine vIf_i (fun hb => ?_) fun hb => ?_ | refine oT_Gi (fun hb => ?_) fun hb => ?_)
      exact this
  · obtain rfl : i = (rfT t).length := by omega
    have c1 : ¬ ((rfT t).length : Int) < (rfT t).length := by omega
    rw [List.drop_length, List.any_nil] at hm
    rw [← hm]
    clear hih
    repeat' (first | (simp -implicitDefEqProofs +contextual (maxSteps := 10000000) (disch := first | with_unfolding_all exact id rfl | assumption | ((fail_if_success (with_reducible refine isB ?_)); (first | omega | decide))) only [go_sem, v_n, c1]) | refine vIte_i (fun hb => ?_) fun hb => ?_ | refine vAp_i (by kernel_rfl) ?_ | refine vIf_i (fun hb => ?_) fun hb => ?_ | refine oT_Gi (fun hb => ?_) fun hb => ?_)
end Go.Pv.Cb
