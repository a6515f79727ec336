/- What the functions that EnvTakes reaches compute: a part. -/
import Derived.Test.YtfckadoadmdgjaaDoorXI
set_option linter.all false
namespace Go.Pv.Cb
set_option linter.unusedSimpArgs false
open Go.Pv
set_option maxRecDepth 10000
set_option maxHeartbeats 4000000
theorem vl_eq (a b : Vl) : a = b ↔ a.k = b.k ∧ a.m = b.m ∧ a.c = b.c ∧ a.s = b.s ∧ a.b = b.b ∧ a.e = b.e := by cases a; cases b; simp
theorem ar_eq (x y : Ar) : x = y ↔ x.a.row = y.a.row ∧ x.a.col = y.a.col ∧ x.a.rr = y.a.rr ∧ x.a.rc = y.a.rc ∧ x.b.row = y.b.row ∧ x.b.col = y.b.col ∧ x.b.rr = y.b.rr ∧ x.b.rc = y.b.rc := by
  rcases x with ⟨⟨⟩, ⟨⟩⟩; rcases y with ⟨⟨⟩, ⟨⟩⟩; simp [and_assoc]
abbrev sameF (x y : Tr) : Prop := x.k = y.k ∧ (x.v.k = y.v.k ∧ x.v.m = y.v.m ∧ x.v.c = y.v.c ∧ x.v.s = y.v.s ∧ x.v.b = y.v.b ∧ x.v.e = y.v.e) ∧
  (x.a.a.row = y.a.a.row ∧ x.a.a.col = y.a.a.col ∧ x.a.a.rr = y.a.a.rr ∧ x.a.a.rc = y.a.a.rc ∧ x.a.b.row = y.a.b.row ∧ x.a.b.col = y.a.b.col ∧ x.a.b.rr = y.a.b.rr ∧ x.a.b.rc = y.a.b.rc) ∧ x.sh = y.sh ∧ x.op = y.op ∧ x.ks.length = y.ks.length
theorem Same1_spec (t u : Tr) (d f : Int) : ansOf E F_expr_Same_1 [.a ((cN (t, d)).map OV.p), .a ((cN (u, f)).map OV.p)] = some ([(false, [.p (.bool (decide (d = f ∧ sameF t u)))])], []) := by
  refine expr_Same_1_ans rfl rfl ?_
  repeat' (first | (simp -implicitDefEqProofs +contextual (maxSteps := 10000000) (disch := first | with_unfolding_all exact id rfl | assumption | ((fail_if_success (with_reducible refine isB ?_)); (first | omega | decide))) only [go_sem, v_n]) | refine vIte_i (fun hb => ?_) fun hb => ?_ | refine vAp_i (by kernel_rfl) ?_ | refine vIf_i (fun hb => ?_) fun hb => ?_ | refine oT_Gi (fun hb => ?_) fun hb => ?_)
  all_goals (refine congrArg (fun b => OV.p (PV.bool b)) ?_; simp_all [sameF]; try omega)
def eqN (p : Tr × Int → Tr × Int → Bool) : List (Tr × Int) → List (Tr × Int) → Bool
  | x :: l, y :: m => p x y && eqN p l m
  | _, _ => true
theorem EqualN_spec (f : Nat) (p : Tr × Int → Tr × Int → Bool) (l m : List (Tr × Int)) (hl : l.length ≤ 100000) (hm : m.length ≤ 100000) (hf : ∀ t d u g, ansOf E f [.a ((cN (t, d)).map OV.p), .a ((cN (u, g)).map OV.p)] = some ([(false, [.p (.bool (p (t, d) (u, g)))])], [])) :
    ansOf E F_slices_EqualFunc_expr_node_expr_node_expr_node_expr_node [.w (.p (.sl 19 (l.map cN))), .w (.p (.sl 19 (m.map cN))), .clo f []] = some ([(false, [.p (.bool (decide (l.length = m.length) && eqN p l m))])], []) := by
  by_cases hlen : l.length = m.length
  · rw [decide_eq_true hlen, Bool.true_and]
    refine slices_EqualFunc_expr_node_expr_node_expr_node_expr_node_ans rfl rfl ?_
    repeat' (first | (simp -implicitDefEqProofs +contextual (maxSteps := 10000000) (disch := first | with_unfolding_all exact id rfl | assumption | ((fail_if_success (with_reducible refine isB ?_)); (first | omega | decide))) only [go_sem, v_n, hlen]) | refine vIte_i (fun hb => ?_) fun hb => ?_ | refine vAp_i (by kernel_rfl) ?_ | refine vIf_i (fun hb => ?_) fun hb => ?_ | refine oT_Gi (fun hb => ?_) fun hb => ?_)
    refine v_inv (fun i : Nat => [(0, .w (.p (.sl 19 (l.map cN)))), (1, .w (.p (.sl 19 (m.map cN)))), (2, .clo f []), (15, .w (.p (.sl 19 (l.map cN)))), (16, .w (.p (.int .i64 l.length))), (17, .w (.p (.int .i64 i)))]) (fun i => i ≤ l.length ∧ eqN p (l.drop i) (m.drop i) = eqN p l m) (fun i => l.length - i) 0 (by rw [hlen]; rfl) ⟨by omega, rfl⟩ ?_
    rintro i ⟨hi, hm⟩ hih
    by_cases hlt : i < l.length
    · obtain ⟨⟨t, d⟩, hx⟩ := get_lt hlt
      obtain ⟨⟨u, g⟩, hy⟩ := get_lt (l := m) (i := i) (by omega)
      have c1 : (i : Int) < l.length := by omega
      have hf := hf t d u g
      rw [drop_get hx, drop_get hy, eqN] at hm
      cases hp : p (t, d) (u, g) with
      | true =>
        rw [hp, Bool.true_and] at hm
        rw [hp] at hf
        repeat' (first | (simp -implicitDefEqProofs +contextual (maxSteps := 10000000) (disch := first | with_unfolding_all exact id rfl | assumption | ((fail_if_success (with_reducible refine isB ?_)); (first | omega | decide))) only [go_sem, v_n, hx, hy, c1, hf]) | refine vIte_i (fun hb => ?_) fun hb => ?_ | refine vAp_i (by kernel_rfl) ?_ | refine vIf_i (fun hb => ?_) fun hb => ?_ | refine oT_Gi (fun hb => ?_) fun hb => ?_)
        exact hih (i + 1) (by omega) ⟨by omega, hm⟩
      | false =>
        rw [hp, Bool.false_and] at hm
        rw [hp] at hf
        repeat' (first | (simp -implicitDefEqProofs +contextual (maxSteps := 10000000) (disch := first | with_unfolding_all exact id rfl | assumption | ((fail_if_success (with_reducible refine isB ?_)); (first | omega | decide))) only [go_sem, v_n, hx, hy, c1, hf, ← hm]) | refine vIte_i (fun hb => ?_) fun hb => ?_ | refine vAp_i (by kernel_rfl) ?_ | refine vIf_i (fun hb => ?_) fun hb => ?_ | refine oT_Gi (fun hb => ?_) fun hb => ?_)
    · obtain rfl : i = l.length := by omega
      have c1 : ¬ (l.length : Int) < l.length := by omega
      rw [List.drop_length, eqN] at hm
      · repeat' (first | (simp -implicitDefEqProofs +contextual (maxSteps := 10000000) (disch := first | with_unfolding_all exact id rfl | assumption | ((fail_if_success (with_reducible refine isB ?_)); (first | omega | decide))) only [go_sem, v_n, c1, ← hm]) | refine vIte_i (fun hb => ?_) fun hb => ?_ | refine vAp_i (by kernel_rfl) ?_ | refine vIf_i (fun hb => ?_) fun hb => ?_ | refine oT_Gi (fun hb => ?_) fun hb => ?_)
      · simp
  · rw [decide_eq_false hlen, Bool.false_and]
    have c1 : ¬ (l.length : Int) = m.length := by omega
    refine slices_EqualFunc_expr_node_expr_node_expr_node_expr_node_ans rfl rfl ?_
    repeat' (first | (simp -implicitDefEqProofs +contextual (maxSteps := 10000000) (disch := first | with_unfolding_all exact id rfl | assumption | ((fail_if_success (with_reducible refine isB ?_)); (first | omega | decide))) only [go_sem, v_n, c1]) | refine vIte_i (fun hb => ?_) fun hb => ?_ | refine vAp_i (by kernel_rfl) ?_ | refine vIf_i (fun hb => ?_) fun hb => ?_ | refine oT_Gi (fun hb => ?_) fun hb => ?_)
theorem sameP_spec (a b : Tr) (ha : a.n ≤ 100000) (hb : b.n ≤ 100000) : ansOf E F_expr_Same [.a ((cT a).map OV.p), .a ((cT b).map OV.p)] = some ([(false, [.p (.bool (decide ((nds 1 a).length = (nds 1 b).length) && eqN (fun x y => decide (x.2 = y.2 ∧ sameF x.1 y.1)) (nds 1 a) (nds 1 b)))])], []) := by
  have h1 := walk_spec a ha
  have h2 := walk_spec b hb
  have h3 := EqualN_spec F_expr_Same_1 (fun x y => decide (x.2 = y.2 ∧ sameF x.1 y.1)) (nds 1 a) (nds 1 b) (by rw [nds_len]; omega) (by rw [nds_len]; omega) (fun t d u g => Same1_spec t u d g)
  refine expr_Same_ans rfl rfl ?_
  repeat' (first | (simp -implicitDefEqProofs +contextual (maxSteps := 10000000) (disch := first | with_unfolding_all exact id rfl | assumption | ((fail_if_success (with_reducible refine isB ?_)); (first | omega | decide))) only [go_sem, v_n, h1, h2, h3]) | refine vIte_i (fun hb => ?_) fun hb => ?_ | refine vAp_i (by kernel_rfl) ?_ | refine vIf_i (fun hb => ?_) fun hb => ?_ | refine oT_Gi (fun hb => ?_) fun hb => ?_)
mutual
def rfT : Tr → List Tr
  | .mk k v a sh op ks => if 2 ≤ k ∧ k ≤ 6 then [.mk k v a sh op ks] else rfTs ks
def rfTs : List Tr → List Tr
  | [] => []
  | t :: ts => rfT t ++ rfTs ts
end
theorem rfT_eq (t : Tr) : rfT t = if 2 ≤ t.k ∧ t.k ≤ 6 then [t] else rfTs t.ks := by cases t; rw [rfT, Tr.k, Tr.ks]
theorem rfTs_app : ∀ a b : List Tr, rfTs (a ++ b) = rfTs a ++ rfTs b
  | [], b => rfl
  | t :: a, b => by rw [List.cons_append, rfTs, rfTs, rfTs_app a b, List.append_assoc]
mutual
theorem rfT_len : ∀ t : Tr, (rfT t).length ≤ t.n
  | .mk k v a sh op ks => by
    rw [rfT, Tr.n]; have := rfTs_len ks
    split
    · simp
    · omega
theorem rfTs_len : ∀ l : List Tr, (rfTs l).length ≤ Tr.ns l
  | [] => Nat.le_refl _
  | t :: ts => by rw [rfTs, Tr.ns, List.length_append]; have := rfT_len t; have := rfTs_len ts; omega
end
theorem ns_app : ∀ a b : List Tr, Tr.ns (a ++ b) = Tr.ns a + Tr.ns b
  | [], b => by simp [Tr.ns]
  | t :: a, b => by rw [List.cons_append, Tr.ns, Tr.ns, ns_app a b]; omega
theorem ns_take (l : List Tr) (i : Nat) : Tr.ns (l.take i) ≤ Tr.ns l := by
  have := ns_app (l.take i) (l.drop i)
  rw [List.take_append_drop] at this; omega
theorem take_snoc {α : Type} {l : List α} {i : Nat} {x : α} (h : l[i]? = some x) : l.take (i + 1) = l.take i ++ [x] := by rw [List.take_add_one, h]; rfl
def oC (t : Tr) : List OV := (cT t).map OV.p
theorem oC_eq (x : Tr) : oC x = (cT x).map OV.p := rfl
theorem oC_frz : ∀ l : List Tr, OV.frzss (l.map oC) = l.map cT
  | [] => rfl
  | x :: l => by rw [List.map_cons, OV.frzss, oC_frz l, oC, frzs_plain]; rfl
theorem oC_whole : ∀ l : List Tr, OV.wholess (l.map oC) = true
  | [] => rfl
  | x :: l => by rw [List.map_cons, OV.wholess, oC_whole l, oC, wholes_plain]; rfl
attribute [go_sem] oC_eq oC_frz oC_whole
theorem Refs_spec (N : Nat) (hN : N ≤ 100000) : ∀ e : Tr, e.n ≤ N → ansOf E F_expr_Refs [.a ((cT e).map OV.p)] = some ([(false, [.own 18 ((rfT e).map oC)])], []) := by
  induction N with
  | zero => intro e h; have := n_pos e; omega
  | succ N ih =>
    intro e he
    have ih := ih (by omega)
    have hk := kids_lt e
    have hn := n_eq e
    rw [rfT_eq]
    by_cases h : 2 ≤ e.k ∧ e.k ≤ 6
    · rw [if_pos h]
      refine expr_Refs_ans rfl rfl ?_
      repeat' (first | (simp -implicitDefEqProofs +contextual (maxSteps := 10000000) (disch := first | with_unfolding_all exact id rfl | assumption | ((fail_if_success (with_reducible refine isB ?_)); (first | omega | decide))) only [go_sem, v_n, within_spec, h]) | refine vIte_i (fun hb => ?_) fun hb => ?_ | refine vAp_i (by kernel_rfl) ?_ | refine vIf_i (fun hb => ?_) fun hb => ?_ | refine oT_Gi (fun hb => ?_) fun hb => ?_)
    · rw [if_neg h]
      refine expr_Refs_ans rfl rfl ?_
      repeat' (first | (simp -implicitDefEqProofs +contextual (maxSteps := 10000000) (disch := first | with_unfolding_all exact id rfl | assumption | ((fail_if_success (with_reducible refine isB ?_)); (first | omega | decide))) only [go_sem, v_n, within_spec, h]) | refine vIte_i (fun hb => ?_) fun hb => ?_ | refine vAp_i (by kernel_rfl) ?_ | refine vIf_i (fun hb => ?_) fun hb => ?_ | refine oT_Gi (fun hb => ?_) fun hb => ?_)
      refine v_inv (fun i : Nat => [(1, .box ((cT e).map OV.p)), (3, .w (.own 18 ((rfTs (e.ks.take i)).map oC))), (11, .ptr (.b 1 17)), (12, .w (.p (.sl 18 (e.ks.map cT)))), (13, .w (.p (.int .i64 e.ks.length))), (14, .w (.p (.int .i64 i)))]) (fun i => i ≤ e.ks.length) (fun i => e.ks.length - i) 0 rfl (by omega) ?_
      intro i hi hih
      by_cases hlt : i < e.ks.length
      · obtain ⟨k, hk1⟩ := get_lt hlt
        have h1 : (i : Int) < e.ks.length := by omega
        have h2 := ih k (by have := kid_lt hk1; omega)
        have h3 := rfTs_len (e.ks.take i)
        have h4 := ns_take e.ks i
        have h5 := rfT_len k
        have h6 := kid_lt hk1
        repeat' (first | (simp -implicitDefEqProofs +contextual (maxSteps := 10000000) (disch := first | with_unfolding_all exact id rfl | assumption | ((fail_if_success (with_reducible refine isB ?_)); (first | omega | decide))) only [go_sem, v_n, hk1, h1, h2]) | refine vIte_i (fun hb => ?_) fun hb => ?_ | refine vAp_i (by kernel_rfl) ?_ | refine vIf_i (fun hb => ?_) fun hb => ?_ | refine oT_Gi (fun hb => ?_) fun hb => ?_)
        have e1 : (rfTs (e.ks.take (i + 1))).map oC = (rfTs (e.ks.take i)).map oC ++ (rfT k).map oC := by rw [take_snoc hk1, rfTs_app, List.map_append, rfTs, rfTs, List.append_nil]
        have := hih (i + 1) (by omega) (by omega)
        rw [e1] at this
        exact this
      · obtain rfl : i = e.ks.length := by omega
        have h1 : ¬ (e.ks.length : Int) < e.ks.length := by omega
        repeat' (first | (simp -implicitDefEqProofs +contextual (maxSteps := 10000000) (disch := first | with_unfolding_all exact id rfl | assumption | ((fail_if_success (with_reducible refine isB ?_)); (first | omega | decide))) only [go_sem, v_n, h1, List.take_length]) | refine vIte_i (fun hb => ?_) fun hb => ?_ | refine vAp_i (by kernel_rfl) ?_ | refine vIf_i (fun hb => ?_) fun hb => ?_ | refine oT_Gi (fun hb => ?_) fun hb => ?_)
end Go.Pv.Cb
