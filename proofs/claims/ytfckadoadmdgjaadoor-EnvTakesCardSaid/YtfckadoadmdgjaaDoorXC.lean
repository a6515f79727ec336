/- What the functions that EnvTakes reaches compute: a part. -/
import Derived.Test.YtfckadoadmdgjaaDoorXB
set_option linter.all false
namespace Go.Pv.Cb
set_option linter.unusedSimpArgs false
open Go.Pv
set_option maxRecDepth 10000
set_option maxHeartbeats 4000000
def oN (x : Tr × Int) : List OV := (cN x).map OV.p
theorem oN_eq (x : Tr × Int) : oN x = (cN x).map OV.p := rfl
theorem oN_frz : ∀ l : List (Tr × Int), OV.frzss (l.map oN) = l.map cN
  | [] => rfl
  | x :: l => by rw [List.map_cons, OV.frzss, oN_frz l, oN, frzs_plain]; rfl
theorem oN_whole : ∀ l : List (Tr × Int), OV.wholess (l.map oN) = true
  | [] => rfl
  | x :: l => by rw [List.map_cons, OV.wholess, oN_whole l, oN, wholes_plain]; rfl
attribute [go_sem] oN_eq oN_frz oN_whole
def stN (st : List (Tr × Int)) : List (Tr × Int) := st.flatMap fun p => nds p.2 p.1
def stM (st : List (Tr × Int)) : Nat := (st.map fun p => p.1.n).sum
theorem ndss_flat (d : Int) : ∀ l : List Tr, ndss d l = stN (l.map fun t => (t, d))
  | [] => rfl
  | t :: ts => by rw [ndss, ndss_flat d ts]; rfl
theorem ns_sum (d : Int) : ∀ l : List Tr, Tr.ns l = stM (l.map fun t => (t, d))
  | [] => rfl
  | t :: ts => by rw [Tr.ns, ns_sum d ts]; rfl
theorem stM_len : ∀ l : List (Tr × Int), l.length ≤ stM l
  | [] => Nat.le_refl _
  | p :: l => by
    have := stM_len l
    have := n_pos p.1
    simp only [stM, List.map_cons, List.sum_cons, List.length_cons] at *; omega
theorem stM_app (a b : List (Tr × Int)) : stM (a ++ b) = stM a + stM b := by simp [stM]
theorem stN_app (a b : List (Tr × Int)) : stN (a ++ b) = stN a ++ stN b := by simp [stN]
theorem walk_spec (e : Tr) (he : e.n ≤ 100000) : ansOf E F_expr_walk [.a ((cT e).map OV.p)] = some ([(false, [.own 19 ((nds 1 e).map oN)])], []) := by
  refine expr_walk_ans rfl rfl ?_
  repeat' (first | (simp -implicitDefEqProofs +contextual (maxSteps := 10000000) (disch := first | with_unfolding_all exact id rfl | assumption | ((fail_if_success (with_reducible refine isB ?_)); (first | omega | decide))) only [go_sem]) | refine vIte_i (fun hb => ?_) fun hb => ?_ | refine vAp_i (by kernel_rfl) ?_ | refine vIf_i (fun hb => ?_) fun hb => ?_ | refine oT_Gi (fun hb => ?_) fun hb => ?_)
  refine v_inv_lab (i := 0) (by rfl) (fun x : List (Tr × Int) × List (Tr × Int) => [(3, .w (.own 19 (x.1.map oN))), (4, .box [.own 19 (x.2.reverse.map oN)])]) (fun x => x.1 ++ stN x.2 = nds 1 e ∧ x.1.length + stM x.2 ≤ 100000 ∧ ∀ p ∈ x.2, 0 ≤ p.2 ∧ p.2 ≤ x.1.length + 1) (fun x => stM x.2) ([], [(e, 1)]) rfl ⟨by simp [stN], by simpa [stM] using he, by simp⟩ ?_
  rintro ⟨O, S⟩ ⟨hO, hb, hd⟩ hih
  simp only at hO hb hd hih ⊢
  cases S with
  | nil =>
    simp only [stN, List.flatMap_nil, List.append_nil] at hO
    repeat' (first | (simp -implicitDefEqProofs +contextual (maxSteps := 10000000) (disch := first | with_unfolding_all exact id rfl | assumption | ((fail_if_success (with_reducible refine isB ?_)); (first | omega | decide))) only [go_sem, v_n, hO]) | refine vIte_i (fun hb => ?_) fun hb => ?_ | refine vAp_i (by kernel_rfl) ?_ | refine vIf_i (fun hb => ?_) fun hb => ?_ | refine oT_Gi (fun hb => ?_) fun hb => ?_)
  | cons p S =>
    obtain ⟨t, d⟩ := p
    obtain ⟨B, rfl⟩ : ∃ B, S = List.reverse B := ⟨S.reverse, by simp⟩
    have hd1 := hd (t, d) List.mem_cons_self
    simp only at hd1
    have hl := stM_len B.reverse
    rw [List.length_reverse] at hl
    have hn := n_eq t
    have hk := kids_lt t
    have hm : stM ((t, d) :: B.reverse) = t.n + stM B.reverse := by simp [stM]
    have c1 : ¬ ((B.length + 1 : Nat) : Int) = 0 := by omega
    have c2 : (B ++ [(t, d)])[B.length]? = some (t, d) := by simp
    have c3 : (List.map oN (B ++ [(t, d)])).take B.length = B.map oN := by simp
    have c4 : (B ++ [(t, d)]).length = B.length + 1 := by simp
    repeat' (first | (simp -implicitDefEqProofs +contextual (maxSteps := 10000000) (disch := first | with_unfolding_all exact id rfl | assumption | ((fail_if_success (with_reducible refine isB ?_)); (first | omega | decide))) only [go_sem, v_n, c1, c2, c3, c4]) | refine vIte_i (fun hb => ?_) fun hb => ?_ | refine vAp_i (by kernel_rfl) ?_ | refine vIf_i (fun hb => ?_) fun hb => ?_ | refine oT_Gi (fun hb => ?_) fun hb => ?_)
    obtain ⟨rows, hr1, hr2, hr3⟩ := rows_bwd cT 18 t.ks (by omega)
    refine v_range_inv (fun k => [(3, .w (.own 19 ((O ++ [(t, d)]).map oN))), (4, .box [.own 19 ((B ++ ((t.ks.drop (t.ks.length - k)).map fun s => (s, d + 1)).reverse).map oN)]), (5, .box ((cN (t, d)).map OV.p))]) rfl rfl rfl hr1 rfl ?_ ?_ ?_ ?_
    · intro row hrow
      obtain ⟨k, hk⟩ := List.getElem?_of_mem hrow
      obtain ⟨s, _, _, rfl⟩ := hr3 k row hk
      rfl
    · rw [Nat.sub_zero, List.drop_length]
      (simp -implicitDefEqProofs +contextual (maxSteps := 10000000) (disch := first | with_unfolding_all exact id rfl | assumption | ((fail_if_success (with_reducible refine isB ?_)); (first | omega | decide))) only [go_sem, List.map_append])
    · intro k row hrow
      obtain ⟨s, hk1, hk2, rfl⟩ := hr3 k row hrow
      have e1 : ((t.ks.drop (t.ks.length - (k + 1))).map fun s => (s, d + 1)).reverse = ((t.ks.drop (t.ks.length - k)).map fun s => (s, d + 1)).reverse ++ [(s, d + 1)] := by
        have := drop_get hk2
        rw [show t.ks.length - 1 - k + 1 = t.ks.length - k by omega] at this
        rw [show t.ks.length - (k + 1) = t.ks.length - 1 - k by omega, this]
        simp
      have hlen : (t.ks.drop (t.ks.length - k)).length = k := by rw [List.length_drop]; omega
      repeat' (first | (simp -implicitDefEqProofs +contextual (maxSteps := 10000000) (disch := first | with_unfolding_all exact id rfl | assumption | ((fail_if_success (with_reducible refine isB ?_)); (first | omega | decide))) only [go_sem, v_n]) | refine vIte_i (fun hb => ?_) fun hb => ?_ | refine vAp_i (by kernel_rfl) ?_ | refine vIf_i (fun hb => ?_) fun hb => ?_ | refine oT_Gi (fun hb => ?_) fun hb => ?_)
      rw [e1, ← List.append_assoc, List.map_append (l₂ := [(s, d + 1)])]
      rfl
    · rw [hr2, Nat.sub_self, List.drop_zero]
      repeat' (first | (simp -implicitDefEqProofs +contextual (maxSteps := 10000000) (disch := first | with_unfolding_all exact id rfl | assumption | ((fail_if_success (with_reducible refine isB ?_)); (first | omega | decide))) only [go_sem, v_n]) | refine vIte_i (fun hb => ?_) fun hb => ?_ | refine vAp_i (by kernel_rfl) ?_ | refine vIf_i (fun hb => ?_) fun hb => ?_ | refine oT_Gi (fun hb => ?_) fun hb => ?_)
      have := hih (O ++ [(t, d)], t.ks.map (fun s => (s, d + 1)) ++ B.reverse) ?_ ⟨?_, ?_, ?_⟩
      · refine GoG.keepE [3, 4] this ?_
        show [(3, AV.w (.own 19 ((O ++ [(t, d)]).map oN))), (4, .box [.own 19 ((B ++ (t.ks.map fun s => (s, d + 1)).reverse).map oN)])] = _
        simp only [List.reverse_append, List.reverse_reverse]
      · simp only [stM_app, hm, ← ns_sum]; omega
      · rw [← hO, stN_app, ← ndss_flat, List.append_assoc]
        congr 1
        simp only [stN, List.flatMap_cons, nds_eq d t, List.cons_append, List.nil_append, List.append_assoc]
      · simp only [stM_app, ← ns_sum, List.length_append, List.length_cons, List.length_nil]; omega
      · intro p hp
        rw [List.length_append, List.length_cons, List.length_nil]
        rcases List.mem_append.1 hp with q | q
        · obtain ⟨s, _, rfl⟩ := List.mem_map.1 q
          simp only; omega
        · have := hd p (List.mem_cons_of_mem _ q); omega
end Go.Pv.Cb
