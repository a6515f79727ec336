/- What the functions that EnvTakes reaches compute: a part. -/
import Derived.Test.YtfckadoadmdgjaaDoorStrA
set_option linter.all false
namespace Go.Pv.Cb
set_option linter.unusedSimpArgs false
open Go.Pv
set_option maxRecDepth 10000
set_option maxHeartbeats 4000000
theorem encs_one (v : Nat) : encs [v] = enc1 v := by simp [encs]
theorem units_one (v : Nat) : units [v] = u16 v := by simp [units]
def narrowR (l : List Nat) : Bool := l.all fun v => decide (v < 256)
theorem goodR_mid {a b : List Nat} {v : Nat} (h : goodR (a ++ v :: b)) : okR v := h v (by simp)
theorem encs_mid (a b : List Nat) (v : Nat) : encs (a ++ v :: b) = encs a ++ (enc1 v ++ encs b) := by rw [encs_app, encs_cons]
theorem encs_snoc (a : List Nat) (v : Nat) : (encs (a ++ [v])) = encs a ++ enc1 v := by rw [encs_app, encs_one]
theorem at_mid {l a b : List Nat} {v : Nat} (hl : l = a ++ v :: b) (hg : goodR l) : okR v ∧ Utf8.decode ⟨(encs l).toArray⟩ (encs a).length = (v, (enc1 v).length) ∧ (encs a).length < (encs l).length ∧ (encs a).length + (enc1 v).length = (encs (a ++ [v])).length ∧ (encs (a ++ [v])).length ≤ (encs l).length := by
  subst hl
  have hv : okR v := goodR_mid hg
  have h1 := enc1_len v
  refine ⟨hv, ?_, ?_, ?_, ?_⟩
  · rw [encs_mid]; exact dec_at (l := b) hv
  · rw [encs_mid, List.length_append, List.length_append]; omega
  · rw [encs_snoc, List.length_append]
  · have e1 := congrArg List.length (encs_mid a b v)
    have e2 := congrArg List.length (encs_snoc a v)
    rw [List.length_append, List.length_append] at e1
    rw [List.length_append] at e2
    omega
theorem units_snoc (a : List Nat) (v : Nat) : units (a ++ [v]) = units a ++ u16 v := by rw [units_app, units_one]
theorem units_enc : ∀ l : List Nat, (units l).length ≤ (encs l).length
  | [] => by simp [units]
  | v :: l => by
    rw [units_cons, encs_cons, List.length_append, List.length_append]
    have := units_enc l
    have : (u16 v).length ≤ (enc1 v).length := by
      unfold u16 enc1
      split
      · split
        · simp
        split
        · simp
        · simp
      · rw [if_neg (by omega), if_neg (by omega)]; simp
    omega
theorem sunits_good (l : List Nat) (hg : goodR l) (hs : (encs l).length ≤ 1000000) :
    ansOf E F_str_units [.w (.p (.str (encs l)))] = some ([(false, [.own 1 (plains (eI (units l)))])], []) := by
  refine str_units_ans rfl rfl ?_
  repeat' (first | (simp -implicitDefEqProofs +contextual (maxSteps := 10000000) (disch := first | with_unfolding_all exact id rfl | assumption | ((fail_if_success (with_reducible refine isB ?_)); (first | omega | decide))) only [go_sem, v_n]) | refine vIte_i (fun hb => ?_) fun hb => ?_ | refine vAp_i (by kernel_rfl) ?_ | refine vIf_i (fun hb => ?_) fun hb => ?_ | refine oT_Gi (fun hb => ?_) fun hb => ?_)
  refine v_inv (fun x : List Nat × List Nat => [(3, .w (.own 1 (plains (eI (units x.1))))), (7, .it (encs l) (encs x.1).length)]) (fun x => l = x.1 ++ x.2) (fun x => x.2.length) ([], l) rfl rfl ?_
  rintro ⟨a, b⟩ hl ih
  dsimp only at hl ih ⊢
  cases b with
  | nil =>
    rw [List.append_nil] at hl
    subst hl
    have hge : ¬ (encs l).length < (encs l).length := by omega
    repeat' (first | (simp -implicitDefEqProofs +contextual (maxSteps := 10000000) (disch := first | with_unfolding_all exact id rfl | assumption | ((fail_if_success (with_reducible refine isB ?_)); (first | omega | decide))) only [go_sem, v_n, hge]) | refine vIte_i (fun hb => ?_) fun hb => ?_ | refine vAp_i (by kernel_rfl) ?_ | refine vIf_i (fun hb => ?_) fun hb => ?_ | refine oT_Gi (fun hb => ?_) fun hb => ?_)
  | cons v b =>
    obtain ⟨hv, hd, hlt, hp, hle⟩ := at_mid hl hg
    unfold okR at hv
    have hul := units_enc (a ++ [v])
    rw [units_snoc, List.length_append] at hul
    by_cases h255 : (v : Int) < 65536
    · repeat' (first | (simp -implicitDefEqProofs +contextual (maxSteps := 10000000) (disch := first | with_unfolding_all exact id rfl | assumption | ((fail_if_success (with_reducible refine isB ?_)); (first | omega | decide))) only [go_sem, v_n, hlt, hd, h255]) | refine vIte_i (fun hb => ?_) fun hb => ?_ | refine vAp_i (by kernel_rfl) ?_ | refine vIf_i (fun hb => ?_) fun hb => ?_ | refine oT_Gi (fun hb => ?_) fun hb => ?_)
      rw [hp]
      have e : units (a ++ [v]) = units a ++ [(v : Int)] := by rw [units_snoc, u16, if_pos (by omega)]
      have := ih (a ++ [v], b) (by simp) (by simp [hl])
      rw [e] at this
      exact this
    · have e : units (a ++ [v]) = units a ++ [55296 + ((v : Int) - 65536) / 1024, 56320 + ((v : Int) - 65536) % 1024] := by rw [units_snoc, u16, if_neg (by omega)]
      have e2 : (u16 v).length = 2 := by rw [u16, if_neg (by omega)]; rfl
      repeat' (first | (simp -implicitDefEqProofs +contextual (maxSteps := 10000000) (disch := first | with_unfolding_all exact id rfl | assumption | ((fail_if_success (with_reducible refine isB ?_)); (first | omega | decide))) only [go_sem, v_n, hlt, hd, h255]) | refine vIte_i (fun hb => ?_) fun hb => ?_ | refine vAp_i (by kernel_rfl) ?_ | refine vIf_i (fun hb => ?_) fun hb => ?_ | refine oT_Gi (fun hb => ?_) fun hb => ?_)
      rw [hp]
      have := ih (a ++ [v], b) (by simp) (by simp [hl])
      rw [e] at this
      exact this
theorem Units_good (l : List Nat) (hg : goodR l) (hs : (encs l).length ≤ 1000000) (hu : (units l).length ≤ 1000) :
    ansOf E F_str_Units [.w (.p (.str (encs l)))] = some ([(false, [.p (.int .i64 (units l).length)]), (false, [.p (.int .i64 0)])], []) := by
  have hV := Valid_spec (encs l) hs
  rw [valid_good hg] at hV
  refine str_Units_ans rfl rfl ?_
  repeat' (first | (simp -implicitDefEqProofs +contextual (maxSteps := 10000000) (disch := first | with_unfolding_all exact id rfl | assumption | ((fail_if_success (with_reducible refine isB ?_)); (first | omega | decide))) only [go_sem, v_n, hV, sunits_good]) | refine vIte_i (fun hb => ?_) fun hb => ?_ | refine vAp_i (by kernel_rfl) ?_ | refine vIf_i (fun hb => ?_) fun hb => ?_ | refine oT_Gi (fun hb => ?_) fun hb => ?_)
  all_goals first | (exfalso; omega) | skip
theorem Units_long (l : List Nat) (hg : goodR l) (hs : (encs l).length ≤ 1000000) (hu : 1000 < (units l).length) :
    ansOf E F_str_Units [.w (.p (.str (encs l)))] = some ([(false, [.p (.int .i64 0)]), (false, [.p (.int .i64 4)])], []) := by
  have hV := Valid_spec (encs l) hs
  rw [valid_good hg] at hV
  refine str_Units_ans rfl rfl ?_
  repeat' (first | (simp -implicitDefEqProofs +contextual (maxSteps := 10000000) (disch := first | with_unfolding_all exact id rfl | assumption | ((fail_if_success (with_reducible refine isB ?_)); (first | omega | decide))) only [go_sem, v_n, hV, sunits_good]) | refine vIte_i (fun hb => ?_) fun hb => ?_ | refine vAp_i (by kernel_rfl) ?_ | refine vIf_i (fun hb => ?_) fun hb => ?_ | refine oT_Gi (fun hb => ?_) fun hb => ?_)
  all_goals first | (exfalso; omega) | skip
theorem Units_bad (s : List UInt8) (hs : s.length ≤ 1000000) (hb : Go.Lib.validD s = false) :
    ansOf E F_str_Units [.w (.p (.str s))] = some ([(false, [.p (.int .i64 0)]), (false, [.p (.int .i64 2)])], []) := by
  have hV := Valid_spec s hs
  rw [hb] at hV
  refine str_Units_ans rfl rfl ?_
  repeat' (first | (simp -implicitDefEqProofs +contextual (maxSteps := 10000000) (disch := first | with_unfolding_all exact id rfl | assumption | ((fail_if_success (with_reducible refine isB ?_)); (first | omega | decide))) only [go_sem, v_n, hV]) | refine vIte_i (fun hb => ?_) fun hb => ?_ | refine vAp_i (by kernel_rfl) ?_ | refine vIf_i (fun hb => ?_) fun hb => ?_ | refine oT_Gi (fun hb => ?_) fun hb => ?_)
end Go.Pv.Cb
