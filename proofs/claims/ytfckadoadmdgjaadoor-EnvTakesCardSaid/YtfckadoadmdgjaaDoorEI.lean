/- What the functions that EnvTakes reaches compute: a part. -/
import Derived.Test.YtfckadoadmdgjaaDoorEH
set_option linter.all false
namespace Go.Pv.Cb
set_option linter.unusedSimpArgs false
open Go.Pv
set_option maxRecDepth 10000
set_option maxHeartbeats 8000000
theorem put_len (l : List Sl) (p : Pl) (v : Vl) : (putF l p v).length ≤ l.length + 1 := by
  unfold putF
  have := pos_le l p
  (repeat' split) <;> simp <;> omega
theorem EnvTakes_spec (e : Int × List Sl × List Tr) (p : Pl) (v : Vl) :
    ansOf E F_law14_EnvTakes [.a [.p (.int .i64 e.1), .p (.sl 9 (e.2.1.map cS)), .p (.sl 18 (e.2.2.map cT))], .a (pP p), .a (pV v)] = some ([(false, [.p (.bool true)])], []) := by
  obtain ⟨n, l, nm⟩ := e
  simp only
  have f1 := EFew_spec n l nm
  cases hF : fewE l nm with
  | false =>
    rw [hF] at f1
    refine law14_EnvTakes_ans rfl rfl ?_
    repeat' (first | (simp -implicitDefEqProofs +contextual (maxSteps := 10000000) (disch := first | with_unfolding_all exact id rfl | assumption | ((fail_if_success (with_reducible refine isB ?_)); (first | omega | decide))) only [go_sem, v_n, lknown_spec, f1]) | refine vIte_i (fun hb => ?_) fun hb => ?_ | refine vAp_i (by kernel_rfl) ?_ | refine vIf_i (fun hb => ?_) fun hb => ?_ | refine oT_Gi (fun hb => ?_) fun hb => ?_)
  | true =>
  rw [hF] at f1
  obtain ⟨b1, b2, b3, b4⟩ := few_ok' hF
  have f2 := rCheckE_spec n l nm (fun x hx => by have := b3 x hx; omega) (fun t ht => by have := (b4 t ht).1; omega) (fun t ht => (b4 t ht).2)
  by_cases hC : ¬ chkE n l nm = 0
  · refine law14_EnvTakes_ans rfl rfl ?_
    repeat' (first | (simp -implicitDefEqProofs +contextual (maxSteps := 10000000) (disch := first | with_unfolding_all exact id rfl | assumption | ((fail_if_success (with_reducible refine isB ?_)); (first | omega | decide))) only [go_sem, v_n, lknown_spec, f1, f2, hC]) | refine vIte_i (fun hb => ?_) fun hb => ?_ | refine vAp_i (by kernel_rfl) ?_ | refine vIf_i (fun hb => ?_) fun hb => ?_ | refine oT_Gi (fun hb => ?_) fun hb => ?_)
  have hC : chkE n l nm = 0 := Decidable.not_not.1 hC
  rw [hC] at f2
  by_cases hS : 1000 < (v.s.length : Int)
  · refine law14_EnvTakes_ans rfl rfl ?_
    repeat' (first | (simp -implicitDefEqProofs +contextual (maxSteps := 10000000) (disch := first | with_unfolding_all exact id rfl | assumption | ((fail_if_success (with_reducible refine isB ?_)); (first | omega | decide))) only [go_sem, v_n, lknown_spec, f1, f2, hS]) | refine vIte_i (fun hb => ?_) fun hb => ?_ | refine vAp_i (by kernel_rfl) ?_ | refine vIf_i (fun hb => ?_) fun hb => ?_ | refine oT_Gi (fun hb => ?_) fun hb => ?_)
  have f3 := vcheckT v (by omega)
  by_cases hV : ¬ vC v = 0
  · refine law14_EnvTakes_ans rfl rfl ?_
    repeat' (first | (simp -implicitDefEqProofs +contextual (maxSteps := 10000000) (disch := first | with_unfolding_all exact id rfl | assumption | ((fail_if_success (with_reducible refine isB ?_)); (first | omega | decide))) only [go_sem, v_n, lknown_spec, f1, f2, hS, f3, hV]) | refine vIte_i (fun hb => ?_) fun hb => ?_ | refine vAp_i (by kernel_rfl) ?_ | refine vIf_i (fun hb => ?_) fun hb => ?_ | refine oT_Gi (fun hb => ?_) fun hb => ?_)
  have hV : vC v = 0 := Decidable.not_not.1 hV
  rw [hV] at f3
  have f4 := ofPl_spec p
  have f5 := rGoodP_spec n p
  by_cases hP : gdP n p
  case neg =>
    rw [decide_eq_false hP] at f5
    refine law14_EnvTakes_ans rfl rfl ?_
    repeat' (first | (simp -implicitDefEqProofs +contextual (maxSteps := 10000000) (disch := first | with_unfolding_all exact id rfl | assumption | ((fail_if_success (with_reducible refine isB ?_)); (first | omega | decide))) only [go_sem, v_n, lknown_spec, f1, f2, hS, f3, f4, f5]) | refine vIte_i (fun hb => ?_) fun hb => ?_ | refine vAp_i (by kernel_rfl) ?_ | refine vIf_i (fun hb => ?_) fun hb => ?_ | refine oT_Gi (fun hb => ?_) fun hb => ?_)
  rw [decide_eq_true hP] at f5
  obtain ⟨k1, k2⟩ := chkE_ok hC
  obtain ⟨y1, y2, y3, y4, y5⟩ := takes (p := p) k2 (fun x hx => (k1 x hx).2.2) hV
  have hn : ∀ t ∈ nm, t.n ≤ 100000 := fun t ht => by have := (b4 t ht).1; omega
  have t1 := ETo_spec n l nm (by omega) (by omega) hn
  have t2 := Get_spec n l (.sl 18 (nm.map cT)) p k2 (by omega)
  have t3 := Put_spec n l (nm.map cT) p v k2 (by omega)
  have hyl := put_len l p v
  obtain ⟨y, hy⟩ : ∃ y, y = putF l p v := ⟨_, rfl⟩
  obtain ⟨was, hw⟩ : ∃ was, was = getL l p := ⟨_, rfl⟩
  rw [← hy] at y1 y2 y3 y4 y5 t3 hyl
  rw [← hw] at y2 y5
  unfold getF at t2
  rw [if_pos hP, ← hw] at t2
  have t4 := Put_spec n y (nm.map cT) p was y1 (by omega)
  have t5 := Put_spec n y (nm.map cT) p v y1 (by omega)
  have t6 := Get_spec n y (.sl 18 (nm.map cT)) p y1 (by omega)
  unfold getF at t6
  rw [if_pos hP, y4] at t6
  rw [y2] at t4
  rw [y3] at t5
  have t7 := ESame_spec n n l l nm nm (by omega) (by omega) hn hn
  have t8 := ESame_spec n n y y nm nm (by omega) (by omega) hn hn
  rw [show sameB n n l l nm nm = true from same_iff.2 ⟨rfl, rfl, rfl⟩] at t7
  rw [show sameB n n y y nm nm = true from same_iff.2 ⟨rfl, rfl, rfl⟩] at t8
  have t9 := v9Of_spec v.k v.m v.c v.s v.b v.e
  clear k1 k2 y1 y2 y3 y4 hy hw b3 b4 hn hF hP
  by_cases c1 : was.k = 0
  · have c1' := eq_true c1
    by_cases c2 : v.k = 0
    · have c2' := eq_true c2
      rw [if_neg (by omega), if_neg (by omega)] at y5
      have e5 : (y.length : Int) - l.length = 0 := by omega
      refine law14_EnvTakes_ans rfl rfl ?_
      repeat' (first | (simp -implicitDefEqProofs +contextual (maxSteps := 10000000) (disch := first | with_unfolding_all exact id rfl | assumption | ((fail_if_success (with_reducible refine isB ?_)); (first | omega | decide))) only [go_sem, v_n, lknown_spec, f1, f2, hS, f3, f4, f5, t1, t2, t3, t4, t5, t6, t7, t8, t9, c1', c2', e5]) | refine vIte_i (fun hb => ?_) fun hb => ?_ | refine vAp_i (by kernel_rfl) ?_ | refine vIf_i (fun hb => ?_) fun hb => ?_ | refine oT_Gi (fun hb => ?_) fun hb => ?_)
    · have c2' := eq_false c2
      rw [if_pos ⟨c1, c2⟩] at y5
      have e5 : (y.length : Int) - l.length = 1 := by omega
      refine law14_EnvTakes_ans rfl rfl ?_
      repeat' (first | (simp -implicitDefEqProofs +contextual (maxSteps := 10000000) (disch := first | with_unfolding_all exact id rfl | assumption | ((fail_if_success (with_reducible refine isB ?_)); (first | omega | decide))) only [go_sem, v_n, lknown_spec, f1, f2, hS, f3, f4, f5, t1, t2, t3, t4, t5, t6, t7, t8, t9, c1', c2', e5]) | refine vIte_i (fun hb => ?_) fun hb => ?_ | refine vAp_i (by kernel_rfl) ?_ | refine vIf_i (fun hb => ?_) fun hb => ?_ | refine oT_Gi (fun hb => ?_) fun hb => ?_)
  · have c1' := eq_false c1
    by_cases c2 : v.k = 0
    · have c2' := eq_true c2
      rw [if_neg (by omega), if_pos ⟨c1, c2⟩] at y5
      have e5 : (y.length : Int) - l.length = -1 := by omega
      refine law14_EnvTakes_ans rfl rfl ?_
      repeat' (first | (simp -implicitDefEqProofs +contextual (maxSteps := 10000000) (disch := first | with_unfolding_all exact id rfl | assumption | ((fail_if_success (with_reducible refine isB ?_)); (first | omega | decide))) only [go_sem, v_n, lknown_spec, f1, f2, hS, f3, f4, f5, t1, t2, t3, t4, t5, t6, t7, t8, t9, c1', c2', e5]) | refine vIte_i (fun hb => ?_) fun hb => ?_ | refine vAp_i (by kernel_rfl) ?_ | refine vIf_i (fun hb => ?_) fun hb => ?_ | refine oT_Gi (fun hb => ?_) fun hb => ?_)
    · have c2' := eq_false c2
      rw [if_neg (by omega), if_neg (by omega)] at y5
      have e5 : (y.length : Int) - l.length = 0 := by omega
      refine law14_EnvTakes_ans rfl rfl ?_
      repeat' (first | (simp -implicitDefEqProofs +contextual (maxSteps := 10000000) (disch := first | with_unfolding_all exact id rfl | assumption | ((fail_if_success (with_reducible refine isB ?_)); (first | omega | decide))) only [go_sem, v_n, lknown_spec, f1, f2, hS, f3, f4, f5, t1, t2, t3, t4, t5, t6, t7, t8, t9, c1', c2', e5]) | refine vIte_i (fun hb => ?_) fun hb => ?_ | refine vAp_i (by kernel_rfl) ?_ | refine vIf_i (fun hb => ?_) fun hb => ?_ | refine oT_Gi (fun hb => ?_) fun hb => ?_)
end Go.Pv.Cb
