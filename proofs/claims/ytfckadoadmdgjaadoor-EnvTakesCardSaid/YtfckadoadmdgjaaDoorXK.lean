/- What the functions that EnvTakes reaches compute: a part. -/
import Derived.Test.YtfckadoadmdgjaaDoorXJ
set_option linter.all false
namespace Go.Pv.Cb
set_option linter.unusedSimpArgs false
open Go.Pv
set_option maxRecDepth 10000
set_option maxHeartbeats 4000000
mutual
def dep : Tr → Int
  | .mk _ _ _ _ _ ks => dpL 0 ks + 1
def dpL (d : Int) : List Tr → Int
  | [] => d
  | t :: ts => dpL (if d < dep t then dep t else d) ts
end
theorem dep_eq (t : Tr) : dep t = dpL 0 t.ks + 1 := by cases t; rw [dep, Tr.ks]
mutual
theorem dep_le : ∀ t : Tr, 1 ≤ dep t ∧ dep t ≤ t.n
  | .mk _ _ _ _ _ ks => by
    rw [dep, Tr.n]
    have := dpL_le ks 0 (by omega); omega
theorem dpL_le : ∀ (l : List Tr) (d : Int), 0 ≤ d → d ≤ dpL d l ∧ (dpL d l ≤ d ∨ dpL d l ≤ Tr.ns l)
  | [], d, h => by rw [dpL]; omega
  | t :: ts, d, h => by
    rw [dpL, Tr.ns]
    have h1 := dep_le t
    have := dpL_le ts (if d < dep t then dep t else d) (by split <;> omega)
    split at this <;> split <;> omega
end
theorem dpL_app : ∀ (a b : List Tr) (d : Int), dpL d (a ++ b) = dpL (dpL d a) b
  | [], b, d => rfl
  | t :: a, b, d => by rw [List.cons_append, dpL, dpL, dpL_app a b]
theorem rDepth_spec (N : Nat) (hN : N ≤ 100000) : ∀ e : Tr, e.n ≤ N → ansOf E F_ref13_Depth [.a ((cT e).map OV.p)] = some ([(false, [.p (.int .i64 (dep e))])], []) := by
  induction N with
  | zero => intro e h; have := n_pos e; omega
  | succ N ih =>
    intro e he
    have ih := ih (by omega)
    have hk := kids_lt e
    have hd := dep_le e
    rw [dep_eq] at hd ⊢
    refine ref13_Depth_ans rfl rfl ?_
    repeat' (first | (simp -implicitDefEqProofs +contextual (maxSteps := 10000000) (disch := first | with_unfolding_all exact id rfl | assumption | ((fail_if_success (with_reducible refine isB ?_)); (first | omega | decide))) only [go_sem, v_n]) | refine vIte_i (fun hb => ?_) fun hb => ?_ | refine vAp_i (by kernel_rfl) ?_ | refine vIf_i (fun hb => ?_) fun hb => ?_ | refine oT_Gi (fun hb => ?_) fun hb => ?_)
    refine v_inv (fun i : Nat => [(1, .box ((cT e).map OV.p)), (3, .w (.p (.int .i64 (dpL 0 (e.ks.take i))))), (4, .w (.p (.int .i64 i)))]) (fun i => i ≤ e.ks.length) (fun i => e.ks.length - i) 0 rfl (by omega) ?_
    intro i hi hih
    by_cases hlt : i < e.ks.length
    · obtain ⟨k, hk1⟩ := get_lt hlt
      have h1 : (i : Int) < e.ks.length := by omega
      have h2 := ih k (by have := kid_lt hk1; omega)
      have e1 : dpL 0 (e.ks.take (i + 1)) = if dpL 0 (e.ks.take i) < dep k then dep k else dpL 0 (e.ks.take i) := by rw [take_snoc hk1, dpL_app, dpL, dpL]
      have := hih (i + 1) (by omega) (by omega)
      rw [e1] at this
      by_cases h3 : dpL 0 (e.ks.take i) < dep k
      · rw [if_pos h3] at this
        repeat' (first | (simp -implicitDefEqProofs +contextual (maxSteps := 10000000) (disch := first | with_unfolding_all exact id rfl | assumption | ((fail_if_success (with_reducible refine isB ?_)); (first | omega | decide))) only [go_sem, v_n, hk1, h1, h2, h3]) | refine vIte_i (fun hb => ?_) fun hb => ?_ | refine vAp_i (by kernel_rfl) ?_ | refine vIf_i (fun hb => ?_) fun hb => ?_ | refine oT_Gi (fun hb => ?_) fun hb => ?_)
        exact this
      · rw [if_neg h3] at this
        repeat' (first | (simp -implicitDefEqProofs +contextual (maxSteps := 10000000) (disch := first | with_unfolding_all exact id rfl | assumption | ((fail_if_success (with_reducible refine isB ?_)); (first | omega | decide))) only [go_sem, v_n, hk1, h1, h2, h3]) | refine vIte_i (fun hb => ?_) fun hb => ?_ | refine vAp_i (by kernel_rfl) ?_ | refine vIf_i (fun hb => ?_) fun hb => ?_ | refine oT_Gi (fun hb => ?_) fun hb => ?_)
        exact this
    · obtain rfl : i = e.ks.length := by omega
      have h1 : ¬ (e.ks.length : Int) < e.ks.length := by omega
      repeat' (first | (simp -implicitDefEqProofs +contextual (maxSteps := 10000000) (disch := first | with_unfolding_all exact id rfl | assumption | ((fail_if_success (with_reducible refine isB ?_)); (first | omega | decide))) only [go_sem, v_n, h1, List.take_length]) | refine vIte_i (fun hb => ?_) fun hb => ?_ | refine vAp_i (by kernel_rfl) ?_ | refine vIf_i (fun hb => ?_) fun hb => ?_ | refine oT_Gi (fun hb => ?_) fun hb => ?_)
theorem rCount_spec (N : Nat) (hN : N ≤ 100000) : ∀ e : Tr, e.n ≤ N → ansOf E F_ref13_Count [.a ((cT e).map OV.p)] = some ([(false, [.p (.int .i64 e.n)])], []) := by
  induction N with
  | zero => intro e h; have := n_pos e; omega
  | succ N ih =>
    intro e he
    have ih := ih (by omega)
    have hk := kids_lt e
    have hn := n_eq e
    refine ref13_Count_ans rfl rfl ?_
    repeat' (first | (simp -implicitDefEqProofs +contextual (maxSteps := 10000000) (disch := first | with_unfolding_all exact id rfl | assumption | ((fail_if_success (with_reducible refine isB ?_)); (first | omega | decide))) only [go_sem, v_n]) | refine vIte_i (fun hb => ?_) fun hb => ?_ | refine vAp_i (by kernel_rfl) ?_ | refine vIf_i (fun hb => ?_) fun hb => ?_ | refine oT_Gi (fun hb => ?_) fun hb => ?_)
    refine v_inv (fun i : Nat => [(1, .box ((cT e).map OV.p)), (3, .w (.p (.int .i64 ((1 + Tr.ns (e.ks.take i) : Nat) : Int)))), (4, .w (.p (.int .i64 i)))]) (fun i => i ≤ e.ks.length) (fun i => e.ks.length - i) 0 rfl (by omega) ?_
    intro i hi hih
    by_cases hlt : i < e.ks.length
    · obtain ⟨k, hk1⟩ := get_lt hlt
      have h1 : (i : Int) < e.ks.length := by omega
      have h2 := ih k (by have := kid_lt hk1; omega)
      have h4 := ns_take e.ks i
      have e1 : 1 + Tr.ns (e.ks.take (i + 1)) = 1 + Tr.ns (e.ks.take i) + k.n := by rw [take_snoc hk1, ns_app, Tr.ns, Tr.ns]; omega
      have h5 := ns_take e.ks (i + 1)
      have := hih (i + 1) (by omega) (by omega)
      rw [e1] at this
      repeat' (first | (simp -implicitDefEqProofs +contextual (maxSteps := 10000000) (disch := first | with_unfolding_all exact id rfl | assumption | ((fail_if_success (with_reducible refine isB ?_)); (first | omega | decide))) only [go_sem, v_n, hk1, h1, h2]) | refine vIte_i (fun hb => ?_) fun hb => ?_ | refine vAp_i (by kernel_rfl) ?_ | refine vIf_i (fun hb => ?_) fun hb => ?_ | refine oT_Gi (fun hb => ?_) fun hb => ?_)
      exact this
    · obtain rfl : i = e.ks.length := by omega
      have h1 : ¬ (e.ks.length : Int) < e.ks.length := by omega
      repeat' (first | (simp -implicitDefEqProofs +contextual (maxSteps := 10000000) (disch := first | with_unfolding_all exact id rfl | assumption | ((fail_if_success (with_reducible refine isB ?_)); (first | omega | decide))) only [go_sem, v_n, h1, List.take_length, hn]) | refine vIte_i (fun hb => ?_) fun hb => ?_ | refine vAp_i (by kernel_rfl) ?_ | refine vIf_i (fun hb => ?_) fun hb => ?_ | refine oT_Gi (fun hb => ?_) fun hb => ?_)
mutual
noncomputable def ffT : Tr → Int
  | .mk k v a sh op ks => if partF (.mk k v a sh op ks) = 0 then ffTs 0 ks else partF (.mk k v a sh op ks)
noncomputable def ffTs (f : Int) : List Tr → Int
  | [] => f
  | t :: ts => if f = 0 then ffTs (ffT t) ts else f
end
theorem ffT_eq (t : Tr) : ffT t = if partF t = 0 then ffTs 0 t.ks else partF t := by cases t; rw [ffT, Tr.ks]
theorem ffTs_ne : ∀ (l : List Tr) (f : Int), ¬ f = 0 → ffTs f l = f
  | [], f, h => rfl
  | t :: ts, f, h => by rw [ffTs, if_neg h]
theorem rNodes_spec (N : Nat) (hN : N ≤ 100000) : ∀ e : Tr, e.n ≤ N → e.st → ansOf E F_ref13_nodes [.a ((cT e).map OV.p)] = some ([(false, [.p (.int .i64 (ffT e))])], []) := by
  induction N with
  | zero => intro e h; have := n_pos e; omega
  | succ N ih =>
    intro e he hst
    have ih := ih (by omega)
    have hk := kids_lt e
    have hst' := (st_eq e).1 hst
    have hp := rnode_spec e (by omega)
    rw [ffT_eq]
    refine ref13_nodes_ans rfl rfl ?_
    repeat' (first | (simp -implicitDefEqProofs +contextual (maxSteps := 10000000) (disch := first | with_unfolding_all exact id rfl | assumption | ((fail_if_success (with_reducible refine isB ?_)); (first | omega | decide))) only [go_sem, v_n, hp]) | refine vIte_i (fun hb => ?_) fun hb => ?_ | refine vAp_i (by kernel_rfl) ?_ | refine vIf_i (fun hb => ?_) fun hb => ?_ | refine oT_Gi (fun hb => ?_) fun hb => ?_)
    refine v_inv (fun x : Nat × Int => [(1, .box ((cT e).map OV.p)), (3, .w (.p (.int .i64 x.2))), (4, .w (.p (.int .i64 x.1)))]) (fun x => x.1 ≤ e.ks.length ∧ ffTs x.2 (e.ks.drop x.1) = if partF e = 0 then ffTs 0 e.ks else partF e) (fun x => e.ks.length - x.1) (0, partF e) rfl ⟨by simp, ?_⟩ ?_
    · by_cases hz : partF e = 0
      · rw [if_pos hz, hz]; rfl
      · rw [if_neg hz]; exact ffTs_ne _ _ hz
    rintro ⟨i, f⟩ ⟨hi, hF⟩ hih
    simp only at hi hF hih ⊢
    by_cases hlt : i < e.ks.length
    · obtain ⟨k, hk1⟩ := get_lt hlt
      have h1 : (i : Int) < e.ks.length := by omega
      have h2 := ih k (by have := kid_lt hk1; omega) (sts_get hst'.2 hk1)
      rw [drop_get hk1, ffTs] at hF
      by_cases hz : f = 0
      · subst hz
        rw [if_pos rfl] at hF
        repeat' (first | (simp -implicitDefEqProofs +contextual (maxSteps := 10000000) (disch := first | with_unfolding_all exact id rfl | assumption | ((fail_if_success (with_reducible refine isB ?_)); (first | omega | decide))) only [go_sem, v_n, hk1, h1, h2]) | refine vIte_i (fun hb => ?_) fun hb => ?_ | refine vAp_i (by kernel_rfl) ?_ | refine vIf_i (fun hb => ?_) fun hb => ?_ | refine oT_Gi (fun hb => ?_) fun hb => ?_)
        exact hih (i + 1, _) (by simp; omega) ⟨by simp; omega, hF⟩
      · rw [if_neg hz] at hF
        repeat' (first | (simp -implicitDefEqProofs +contextual (maxSteps := 10000000) (disch := first | with_unfolding_all exact id rfl | assumption | ((fail_if_success (with_reducible refine isB ?_)); (first | omega | decide))) only [go_sem, v_n, h1, hz, ← hF]) | refine vIte_i (fun hb => ?_) fun hb => ?_ | refine vAp_i (by kernel_rfl) ?_ | refine vIf_i (fun hb => ?_) fun hb => ?_ | refine oT_Gi (fun hb => ?_) fun hb => ?_)
    · obtain rfl : i = e.ks.length := by omega
      have h1 : ¬ (e.ks.length : Int) < e.ks.length := by omega
      rw [List.drop_length, ffTs] at hF
      repeat' (first | (simp -implicitDefEqProofs +contextual (maxSteps := 10000000) (disch := first | with_unfolding_all exact id rfl | assumption | ((fail_if_success (with_reducible refine isB ?_)); (first | omega | decide))) only [go_sem, v_n, h1, ← hF]) | refine vIte_i (fun hb => ?_) fun hb => ?_ | refine vAp_i (by kernel_rfl) ?_ | refine vIf_i (fun hb => ?_) fun hb => ?_ | refine oT_Gi (fun hb => ?_) fun hb => ?_)
theorem rCheck_spec (e : Tr) (he : e.n ≤ 100000) (hst : e.st) : ansOf E F_ref13_CheckExpr [.a ((cT e).map OV.p)] = some ([(false, [.p (.int .i64 (if 16 < dep e then 11 else if 1024 < (e.n : Int) then 4 else ffT e))])], []) := by
  have h1 := rDepth_spec _ he e (Nat.le_refl _)
  have h2 := rCount_spec _ he e (Nat.le_refl _)
  have h3 := rNodes_spec _ he e (Nat.le_refl _) hst
  refine ref13_CheckExpr_ans rfl rfl ?_
  repeat' (first | (simp -implicitDefEqProofs +contextual (maxSteps := 10000000) (disch := first | with_unfolding_all exact id rfl | assumption | ((fail_if_success (with_reducible refine isB ?_)); (first | omega | decide))) only [go_sem, v_n, h1, h2, h3]) | refine vIte_i (fun hb => ?_) fun hb => ?_ | refine vAp_i (by kernel_rfl) ?_ | refine vIf_i (fun hb => ?_) fun hb => ?_ | refine oT_Gi (fun hb => ?_) fun hb => ?_)
  all_goals (refine congrArg (fun b => OV.p (PV.int .i64 b)) ?_; simp [*])
theorem rRefs_spec (N : Nat) (hN : N ≤ 100000) : ∀ e : Tr, e.n ≤ N → ansOf E F_ref13_Refs [.a ((cT e).map OV.p)] = some ([(false, [.own 18 ((rfT e).map oC)])], []) := by
  induction N with
  | zero => intro e h; have := n_pos e; omega
  | succ N ih =>
    intro e he
    have ih := ih (by omega)
    have hk := kids_lt e
    have hn := n_eq e
    rw [rfT_eq]
    by_cases h : 2 ≤ e.k ∧ e.k ≤ 6
    · rw [if_pos h]
      refine ref13_Refs_ans rfl rfl ?_
      repeat' (first | (simp -implicitDefEqProofs +contextual (maxSteps := 10000000) (disch := first | with_unfolding_all exact id rfl | assumption | ((fail_if_success (with_reducible refine isB ?_)); (first | omega | decide))) only [go_sem, v_n, h]) | refine vIte_i (fun hb => ?_) fun hb => ?_ | refine vAp_i (by kernel_rfl) ?_ | refine vIf_i (fun hb => ?_) fun hb => ?_ | refine oT_Gi (fun hb => ?_) fun hb => ?_)
    · rw [if_neg h]
      rcases (by omega : ¬ 2 ≤ e.k ∨ ¬ e.k ≤ 6) with q | q
      all_goals
        refine ref13_Refs_ans rfl rfl ?_
        repeat' (first | (simp -implicitDefEqProofs +contextual (maxSteps := 10000000) (disch := first | with_unfolding_all exact id rfl | assumption | ((fail_if_success (with_reducible refine isB ?_)); (first | omega | decide))) only [go_sem, v_n, q]) | refine vIte_i (fun hb => ?_) fun hb => ?_ | refine vAp_i (by kernel_rfl) ?_ | refine vIf_i (fun hb => ?_) fun hb => ?_ | refine oT_Gi (fun hb => ?_) fun hb => ?_)
      all_goals
        refine v_inv (fun i : Nat => [(1, .box ((cT e).map OV.p)), (3, .w (.own 18 ((rfTs (e.ks.take i)).map oC))), (4, .w (.p (.int .i64 i)))]) (fun i => i ≤ e.ks.length) (fun i => e.ks.length - i) 0 rfl (by omega) ?_
        intro i hi hih
        by_cases hlt : i < e.ks.length
        · obtain ⟨k, hk1⟩ := get_lt hlt
          have h1 : (i : Int) < e.ks.length := by omega
          have h2 := ih k (by have := kid_lt hk1; omega)
          have h3 := rfTs_len (e.ks.take i)
          have h4 := ns_take e.ks i
          have h5 := rfT_len k
          have h6 := kid_lt hk1
          repeat' (first | (simp -implicitDefEqProofs +contextual (maxSteps := 10000000) (disch := first | with_unfolding_all exact id rfl | assumption | ((fail_if_success (with_reducible refine isB ?_)); (first | omega | decide))) only [go_sem, v_n, hk1, h1, h2]) | refine vIte_i (fun hb => ?_) fun hb => ?_ | refine vAp_i (by kernel_rfl) ?_ | refine vIf_i (fun hb => ?_) fun hb => ?_ | refine oT_Gi (fun hb => ?_) fun hb => ?_)
          have e1 : (rfTs (e.ks.take (i + 1))).map oC = (rfTs (e.ks.take i)).map oC ++ (rfT k).map oC := by rw [take_snoc hk1, rfTs_app, List.map_append, rfTs, rfTs, List.append_nil]
          have := hih (i + 1) (by omega) (by omega)
          rw [e1] at this
          exact this
        · obtain rfl : i = e.ks.length := by omega
          have h1 : ¬ (e.ks.length : Int) < e.ks.length := by omega
          repeat' (first | (simp -implicitDefEqProofs +contextual (maxSteps := 10000000) (disch := first | with_unfolding_all exact id rfl | assumption | ((fail_if_success (with_reducible refine isB ?_)); (first | omega | decide))) only [go_sem, v_n, h1, List.take_length]) | refine vIte_i (fun hb => ?_) fun hb => ?_ | refine vAp_i (by kernel_rfl) ?_ | refine vIf_i (fun hb => ?_) fun hb => ?_ | refine oT_Gi (fun hb => ?_) fun hb => ?_)
mutual
def sT : Tr → Tr → Bool
  | .mk k v a sh op ks, u => decide (sameF (.mk k v a sh op ks) u) && sTs ks u.ks
def sTs : List Tr → List Tr → Bool
  | t :: ts, u :: us => sT t u && sTs ts us
  | _, _ => true
end
end Go.Pv.Cb
