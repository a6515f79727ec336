/- What the functions that EnvTakes reaches compute: a part. -/
import Derived.Test.YtfckadoadmdgjaaDoorXA
set_option linter.all false
namespace Go.Pv.Cb
set_option linter.unusedSimpArgs false
open Go.Pv
set_option maxRecDepth 10000
set_option maxHeartbeats 4000000
abbrev oX (e : Tr) (x : OV) : List OV := [.p (.int .i64 e.k), .p (.int .i64 e.v.k), .p (.int .i64 e.v.m), .p (.int .i64 e.v.c), .p (.str e.v.s), .p (.bool e.v.b), .p (.int .i64 e.v.e), .p (.int .i64 e.a.a.row), .p (.int .i64 e.a.a.col), .p (.bool e.a.a.rr), .p (.bool e.a.a.rc), .p (.int .i64 e.a.b.row), .p (.int .i64 e.a.b.col), .p (.bool e.a.b.rr), .p (.bool e.a.b.rc), .p (.int .i64 e.sh), .p (.int .i64 e.op), x]
theorem To_spec (N : Nat) (hN : N ≤ 100000) : ∀ e : Tr, e.n ≤ N → ansOf E F_law10_To [.a ((cT e).map OV.p)] = some ([(true, wT e)], []) := by
  induction N with
  | zero => intro e h; have := n_pos e; omega
  | succ N ih =>
    intro e he
    have ih := ih (by omega)
    have hk := kids_lt e
    refine law10_To_ans rfl rfl ?_
    repeat' (first | (simp -implicitDefEqProofs +contextual (maxSteps := 10000000) (disch := first | with_unfolding_all exact id rfl | assumption | ((fail_if_success (with_reducible refine isB ?_)); (first | omega | decide))) only [go_sem, v_n, v9To_spec, a8To_spec]) | refine vIte_i (fun hb => ?_) fun hb => ?_ | refine vAp_i (by kernel_rfl) ?_ | refine vIf_i (fun hb => ?_) fun hb => ?_ | refine oT_Gi (fun hb => ?_) fun hb => ?_)
    refine v_inv (fun i : Nat => [(1, .box ((cT e).map OV.p)), (2, .box Z0), (3, .box (oX e (.own 18 ((e.ks.take i).map wT)))), (4, .w (.p (.int .i64 i)))]) (fun i => i ≤ e.ks.length) (fun i => e.ks.length - i) 0 rfl (by omega) ?_
    intro i hi hih
    by_cases hlt : i < e.ks.length
    · obtain ⟨k, hk1⟩ := get_lt hlt
      have h1 : (i : Int) < e.ks.length := by omega
      have h2 := ih k (by have := kid_lt hk1; omega)
      repeat' (first | (simp -implicitDefEqProofs +contextual (maxSteps := 10000000) (disch := first | with_unfolding_all exact id rfl | assumption | ((fail_if_success (with_reducible refine isB ?_)); (first | omega | decide))) only [go_sem, v_n, hk1, h1, h2]) | refine vIte_i (fun hb => ?_) fun hb => ?_ | refine vAp_i (by kernel_rfl) ?_ | refine vIf_i (fun hb => ?_) fun hb => ?_ | refine oT_Gi (fun hb => ?_) fun hb => ?_)
      have e1 := take_map1 wT hk1
      have := hih (i + 1) (by omega) (by omega)
      rw [e1] at this
      exact this
    · obtain rfl : i = e.ks.length := by omega
      have h1 : ¬ (e.ks.length : Int) < e.ks.length := by omega
      repeat' (first | (simp -implicitDefEqProofs +contextual (maxSteps := 10000000) (disch := first | with_unfolding_all exact id rfl | assumption | ((fail_if_success (with_reducible refine isB ?_)); (first | omega | decide))) only [go_sem, v_n, h1, wT_eq e]) | refine vIte_i (fun hb => ?_) fun hb => ?_ | refine vAp_i (by kernel_rfl) ?_ | refine vIf_i (fun hb => ?_) fun hb => ?_ | refine oT_Gi (fun hb => ?_) fun hb => ?_)
      rw [List.take_length]
def fewL (f : Tr → Int → Bool × Int) : List Tr → Int → Bool × Int
  | [], n => (true, n)
  | k :: ks, n => match f k n with
    | (true, m) => fewL f ks m
    | (false, m) => (false, m)
def fewF (most : Int) : Nat → Tr → Int → Bool × Int
  | 0, _, n => (false, n + 1)
  | d + 1, e, n => if most < n + 1 ∨ 3000 < (e.v.s.length : Int) then (false, n + 1) else fewL (fewF most d) e.ks (n + 1)
theorem few_ok {most : Int} : ∀ (d : Nat) (e : Tr) (n : Int), n ≤ most → n < (fewF most d e n).2 ∧ (fewF most d e n).2 ≤ most + 1 ∧ ((fewF most d e n).1 = true → (fewF most d e n).2 ≤ most ∧ (fewF most d e n).2 = n + e.n ∧ e.st)
  | 0, e, n, h => by unfold fewF; simp only [Bool.false_eq_true, false_implies, and_true]; omega
  | d + 1, e, n, h => by
    unfold fewF
    split
    · simp only [Bool.false_eq_true, false_implies, and_true]; omega
    · rename_i h0
      have key : ∀ (l : List Tr) (m : Int), m ≤ most → m ≤ (fewL (fewF most d) l m).2 ∧ (fewL (fewF most d) l m).2 ≤ most + 1 ∧ ((fewL (fewF most d) l m).1 = true → (fewL (fewF most d) l m).2 ≤ most ∧ (fewL (fewF most d) l m).2 = m + Tr.ns l ∧ Tr.sts l) := by
        intro l
        induction l with
        | nil => intro m h1; unfold fewL Tr.ns Tr.sts; simp only; refine ⟨by omega, by omega, fun _ => ⟨by omega, by omega, trivial⟩⟩
        | cons k l ih =>
          intro m h1
          have hf := few_ok d k m h1
          unfold fewL
          split
          · rename_i m' e'
            rw [e'] at hf
            have h3 := hf.2.2 rfl
            have := ih m' h3.1
            refine ⟨by omega, by omega, fun q => ?_⟩
            have h4 := this.2.2 q
            rw [Tr.ns, Tr.sts]
            exact ⟨h4.1, by omega, h3.2.2, h4.2.2⟩
          · rename_i m' e'; rw [e'] at hf; simp only [Bool.false_eq_true, false_implies, and_true] at hf ⊢; omega
      have := key e.ks (n + 1) (by omega)
      refine ⟨by omega, by omega, fun q => ?_⟩
      have h5 := this.2.2 q
      rw [st_eq, n_eq]
      exact ⟨h5.1, by omega, by omega, h5.2.2⟩
theorem few_spec {most : Int} (hm : most ≤ 1500) : ∀ (d : Nat) (e : Tr) (n : Int), d ≤ 40 → 0 ≤ n → n ≤ most →
    ansOf E F_law10_few [.a ((cT e).map OV.p), .w (.p (.int .i64 d)), .w (.p (.int .i64 most)), .box [.p (.int .i64 n)]] = some ([(false, [.p (.bool (fewF most d e n).1)])], [[.p (.int .i64 (fewF most d e n).2)]])
  | 0, e, n, hd, h0, h => by
    unfold fewF
    refine law10_few_ans rfl rfl ?_
    repeat' (first | (simp -implicitDefEqProofs +contextual (maxSteps := 10000000) (disch := first | with_unfolding_all exact id rfl | assumption | ((fail_if_success (with_reducible refine isB ?_)); (first | omega | decide))) only [go_sem, v_n]) | refine vIte_i (fun hb => ?_) fun hb => ?_ | refine vAp_i (by kernel_rfl) ?_ | refine vIf_i (fun hb => ?_) fun hb => ?_ | refine oT_Gi (fun hb => ?_) fun hb => ?_)
  | d + 1, e, n, hd, h0, h => by
    unfold fewF
    have hd0 : ¬ ((d + 1 : Nat) : Int) = 0 := by omega
    by_cases h1 : most < n + 1
    · rw [if_pos (.inl h1)]
      refine law10_few_ans rfl rfl ?_
      repeat' (first | (simp -implicitDefEqProofs +contextual (maxSteps := 10000000) (disch := first | with_unfolding_all exact id rfl | assumption | ((fail_if_success (with_reducible refine isB ?_)); (first | omega | decide))) only [go_sem, v_n, hd0, h1]) | refine vIte_i (fun hb => ?_) fun hb => ?_ | refine vAp_i (by kernel_rfl) ?_ | refine vIf_i (fun hb => ?_) fun hb => ?_ | refine oT_Gi (fun hb => ?_) fun hb => ?_)
    by_cases h2 : 3000 < (e.v.s.length : Int)
    · rw [if_pos (.inr h2)]
      refine law10_few_ans rfl rfl ?_
      repeat' (first | (simp -implicitDefEqProofs +contextual (maxSteps := 10000000) (disch := first | with_unfolding_all exact id rfl | assumption | ((fail_if_success (with_reducible refine isB ?_)); (first | omega | decide))) only [go_sem, v_n, hd0, h1, h2]) | refine vIte_i (fun hb => ?_) fun hb => ?_ | refine vAp_i (by kernel_rfl) ?_ | refine vIf_i (fun hb => ?_) fun hb => ?_ | refine oT_Gi (fun hb => ?_) fun hb => ?_)
    rw [if_neg (by omega)]
    refine law10_few_ans rfl rfl ?_
    repeat' (first | (simp -implicitDefEqProofs +contextual (maxSteps := 10000000) (disch := first | with_unfolding_all exact id rfl | assumption | ((fail_if_success (with_reducible refine isB ?_)); (first | omega | decide))) only [go_sem, v_n, hd0, h1, h2]) | refine vIte_i (fun hb => ?_) fun hb => ?_ | refine vAp_i (by kernel_rfl) ?_ | refine vIf_i (fun hb => ?_) fun hb => ?_ | refine oT_Gi (fun hb => ?_) fun hb => ?_)
    refine v_inv (fun x : Nat × Int => [(1, .w (.p (.int .i64 ((d + 1 : Nat) : Int)))), (2, .w (.p (.int .i64 most))), (3, .box [.p (.int .i64 x.2)]), (4, .box ((cT e).map OV.p)), (9, .w (.p (.int .i64 x.1)))]) (fun x => x.1 ≤ e.ks.length ∧ (x.1 : Int) ≤ x.2 ∧ x.2 ≤ most ∧ fewL (fewF most d) (e.ks.drop x.1) x.2 = fewL (fewF most d) e.ks (n + 1)) (fun x => e.ks.length - x.1) (0, n + 1) rfl ⟨by simp, by simp; omega, by simp; omega, rfl⟩ ?_
    rintro ⟨i, m⟩ ⟨hi, him, hmm, hF⟩ hih
    simp only at hi him hmm hF hih ⊢
    by_cases hlt : i < e.ks.length
    · obtain ⟨k, hk1⟩ := get_lt hlt
      have c1 : (i : Int) < e.ks.length := by omega
      have c2 := few_spec hm d k m (by omega) (by omega) hmm
      have c3 := few_ok d k m hmm
      have c4 : ((d + 1 : Nat) : Int) - 1 = (d : Int) := by omega
      rw [drop_get hk1, fewL] at hF
      rcases hr : fewF most d k m with ⟨b, m'⟩
      rw [hr] at c2 c3 hF
      simp only at c2 c3 hF
      cases b with
      | true =>
        have c5 := c3.2.2 rfl
        repeat' (first | (simp -implicitDefEqProofs +contextual (maxSteps := 10000000) (disch := first | with_unfolding_all exact id rfl | assumption | ((fail_if_success (with_reducible refine isB ?_)); (first | omega | decide))) only [go_sem, v_n, hk1, c1, c2, c4]) | refine vIte_i (fun hb => ?_) fun hb => ?_ | refine vAp_i (by kernel_rfl) ?_ | refine vIf_i (fun hb => ?_) fun hb => ?_ | refine oT_Gi (fun hb => ?_) fun hb => ?_)
        exact hih (i + 1, m') (by simp; omega) ⟨by simp; omega, by simp; omega, by simp; omega, hF⟩
      | false =>
        repeat' (first | (simp -implicitDefEqProofs +contextual (maxSteps := 10000000) (disch := first | with_unfolding_all exact id rfl | assumption | ((fail_if_success (with_reducible refine isB ?_)); (first | omega | decide))) only [go_sem, v_n, hk1, c1, c2, c4, ← hF]) | refine vIte_i (fun hb => ?_) fun hb => ?_ | refine vAp_i (by kernel_rfl) ?_ | refine vIf_i (fun hb => ?_) fun hb => ?_ | refine oT_Gi (fun hb => ?_) fun hb => ?_)
    · obtain rfl : i = e.ks.length := by omega
      have c1 : ¬ (e.ks.length : Int) < e.ks.length := by omega
      rw [List.drop_length, fewL] at hF
      repeat' (first | (simp -implicitDefEqProofs +contextual (maxSteps := 10000000) (disch := first | with_unfolding_all exact id rfl | assumption | ((fail_if_success (with_reducible refine isB ?_)); (first | omega | decide))) only [go_sem, v_n, c1, ← hF]) | refine vIte_i (fun hb => ?_) fun hb => ?_ | refine vAp_i (by kernel_rfl) ?_ | refine vIf_i (fun hb => ?_) fun hb => ?_ | refine oT_Gi (fun hb => ?_) fun hb => ?_)
theorem Few_spec (e : Tr) (most : Nat) (hm : most ≤ 1500) : ∃ b : Bool, ansOf E F_law10_Few [.a ((cT e).map OV.p), .w (.p (.int .i64 most))] = some ([(false, [.p (.bool b)])], []) ∧ (b = true → e.n ≤ most ∧ e.st) := by
  have h1 := few_spec (most := most) (by omega) 40 e 0 (by omega) (by omega) (by omega)
  have h2 := few_ok (most := most) 40 e 0 (by omega)
  refine ⟨(fewF most 40 e 0).1, ?_, fun q => ⟨by have := h2.2.2 q; omega, (h2.2.2 q).2.2⟩⟩
  have c : ((40 : Nat) : Int) = 40 := rfl
  rw [c] at h1
  refine law10_Few_ans rfl rfl ?_
  repeat' (first | (simp -implicitDefEqProofs +contextual (maxSteps := 10000000) (disch := first | with_unfolding_all exact id rfl | assumption | ((fail_if_success (with_reducible refine isB ?_)); (first | omega | decide))) only [go_sem, v_n, h1]) | refine vIte_i (fun hb => ?_) fun hb => ?_ | refine vAp_i (by kernel_rfl) ?_ | refine vIf_i (fun hb => ?_) fun hb => ?_ | refine oT_Gi (fun hb => ?_) fun hb => ?_)
end Go.Pv.Cb
