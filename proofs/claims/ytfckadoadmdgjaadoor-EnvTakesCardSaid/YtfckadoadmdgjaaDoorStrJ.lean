/- What the functions that EnvTakes reaches compute: a part. -/
import Derived.Test.YtfckadoadmdgjaaDoorStrE
set_option linter.all false
namespace Go.Pv.Cb
set_option linter.unusedSimpArgs false
open Go.Pv
set_option maxRecDepth 10000
set_option maxHeartbeats 4000000
theorem Runes_good (l : List Nat) (hg : goodR l) (hs : (encs l).length ≤ 1000000) :
    ansOf E F_ref7_Runes [.w (.p (.str (encs l)))] = some ([(false, [.own 1 (plains (eI (ofN l)))]), (false, [.p (.bool true)])], []) := by
  have := Runes_spec l [] hg (.inl rfl) (by rw [List.append_nil]; exact hs)
  rw [List.append_nil, if_pos rfl, decide_eq_true rfl] at this
  exact this
theorem Runes_bad (s : List UInt8) (hs : s.length ≤ 1000000) (hv : Go.Lib.validD s = false) :
    ansOf E F_ref7_Runes [.w (.p (.str s))] = some ([(false, [.own 1 []]), (false, [.p (.bool false)])], []) := by
  rcases valid_cases s with ⟨l, _, _, h⟩ | ⟨_, l, t, hl, rfl, hne, hd⟩
  · rw [hv] at h; simp at h
  · have := Runes_spec l t hl (.inr ⟨hne, hd⟩) hs
    rw [if_neg hne, decide_eq_false hne] at this
    exact this
theorem r7units_spec (l : List Nat) (hg : goodR l) (hs : l.length ≤ 1000000) :
    ansOf E F_ref7_units [.w (.p (.sl 1 (eI (ofN l))))] = some ([(false, [.own 1 (plains (eI (units l)))])], []) := by
  refine ref7_units_ans rfl rfl ?_
  repeat' (first | (simp -implicitDefEqProofs +contextual (maxSteps := 10000000) (disch := first | with_unfolding_all exact id rfl | assumption | ((fail_if_success (with_reducible refine isB ?_)); (first | omega | decide))) only [go_sem, v_n]) | refine vIte_i (fun hb => ?_) fun hb => ?_ | refine vAp_i (by kernel_rfl) ?_ | refine vIf_i (fun hb => ?_) fun hb => ?_ | refine oT_Gi (fun hb => ?_) fun hb => ?_)
  refine v_inv (fun x : List Nat × List Nat => [(0, .w (.p (.sl 1 (eI (ofN l))))), (3, .w (.own 1 (plains (eI (units x.1))))), (4, .w (.p (.int .i64 x.1.length)))]) (fun x => l = x.1 ++ x.2) (fun x => x.2.length) ([], l) rfl rfl ?_
  rintro ⟨a, b⟩ hl ih
  dsimp only at hl ih ⊢
  have hol := ofN_len l
  cases b with
  | nil =>
    rw [List.append_nil] at hl
    subst hl
    have hge : ¬ (l.length : Int) < l.length := by omega
    repeat' (first | (simp -implicitDefEqProofs +contextual (maxSteps := 10000000) (disch := first | with_unfolding_all exact id rfl | assumption | ((fail_if_success (with_reducible refine isB ?_)); (first | omega | decide))) only [go_sem, v_n, hge, hol]) | refine vIte_i (fun hb => ?_) fun hb => ?_ | refine vAp_i (by kernel_rfl) ?_ | refine vIf_i (fun hb => ?_) fun hb => ?_ | refine oT_Gi (fun hb => ?_) fun hb => ?_)
  | cons v b =>
    have hv : okR v := goodR_mid (hl ▸ hg)
    unfold okR at hv
    have hlen := congrArg List.length hl
    rw [List.length_append, List.length_cons] at hlen
    have hul := units_len_le a
    have hlt : (a.length : Int) < l.length := by omega
    have hget : (ofN l)[a.length]? = some (v : Int) := by rw [hl]; simp [ofN]
    have := ih (a ++ [v], b) (by simp) (by simp [hl])
    clear ih
    by_cases h255 : (v : Int) < 65536
    · have e : units (a ++ [v]) = units a ++ [(v : Int)] := by rw [units_snoc, u16, if_pos (by omega)]
      rw [e, List.length_append, List.length_singleton] at this
      repeat' (first | (simp -implicitDefEqProofs +contextual (maxSteps := 10000000) (disch := first | with_unfolding_all exact id rfl | assumption | ((fail_if_success (with_reducible refine isB ?_)); (first | omega | decide))) only [go_sem, v_n, hlt, hol, hget, h255]) | refine vIte_i (fun hb => ?_) fun hb => ?_ | refine vAp_i (by kernel_rfl) ?_ | refine vIf_i (fun hb => ?_) fun hb => ?_ | refine oT_Gi (fun hb => ?_) fun hb => ?_)
      exact LpG.keepE [0, 3, 4] this rfl
    · have e : units (a ++ [v]) = units a ++ [55296 + ((v : Int) - 65536) / 1024, 56320 + ((v : Int) - 65536) % 1024] := by rw [units_snoc, u16, if_neg (by omega)]
      rw [e, List.length_append, List.length_singleton] at this
      repeat' (first | (simp -implicitDefEqProofs +contextual (maxSteps := 10000000) (disch := first | with_unfolding_all exact id rfl | assumption | ((fail_if_success (with_reducible refine isB ?_)); (first | omega | decide))) only [go_sem, v_n, hlt, hol, hget, h255]) | refine vIte_i (fun hb => ?_) fun hb => ?_ | refine vAp_i (by kernel_rfl) ?_ | refine vIf_i (fun hb => ?_) fun hb => ?_ | refine oT_Gi (fun hb => ?_) fun hb => ?_)
      exact LpG.keepE [0, 3, 4] this rfl
theorem r7Units_good (l : List Nat) (hg : goodR l) (hs : (encs l).length ≤ 1000000) (hu : (units l).length ≤ 1000) :
    ansOf E F_ref7_Units [.w (.p (.str (encs l)))] = some ([(false, [.p (.int .i64 (units l).length)]), (false, [.p (.int .i64 0)])], []) := by
  have hR := Runes_good l hg hs
  have hU := r7units_spec l hg (by have := encs_len_ge l; omega)
  refine ref7_Units_ans rfl rfl ?_
  repeat' (first | (simp -implicitDefEqProofs +contextual (maxSteps := 10000000) (disch := first | with_unfolding_all exact id rfl | assumption | ((fail_if_success (with_reducible refine isB ?_)); (first | omega | decide))) only [go_sem, v_n, hR, hU]) | refine vIte_i (fun hb => ?_) fun hb => ?_ | refine vAp_i (by kernel_rfl) ?_ | refine vIf_i (fun hb => ?_) fun hb => ?_ | refine oT_Gi (fun hb => ?_) fun hb => ?_)
  all_goals first | (exfalso; omega) | skip
theorem r7Units_long (l : List Nat) (hg : goodR l) (hs : (encs l).length ≤ 1000000) (hu : 1000 < (units l).length) :
    ansOf E F_ref7_Units [.w (.p (.str (encs l)))] = some ([(false, [.p (.int .i64 0)]), (false, [.p (.int .i64 4)])], []) := by
  have hR := Runes_good l hg hs
  have hU := r7units_spec l hg (by have := encs_len_ge l; omega)
  refine ref7_Units_ans rfl rfl ?_
  repeat' (first | (simp -implicitDefEqProofs +contextual (maxSteps := 10000000) (disch := first | with_unfolding_all exact id rfl | assumption | ((fail_if_success (with_reducible refine isB ?_)); (first | omega | decide))) only [go_sem, v_n, hR, hU]) | refine vIte_i (fun hb => ?_) fun hb => ?_ | refine vAp_i (by kernel_rfl) ?_ | refine vIf_i (fun hb => ?_) fun hb => ?_ | refine oT_Gi (fun hb => ?_) fun hb => ?_)
  all_goals first | (exfalso; omega) | skip
theorem r7Units_bad (s : List UInt8) (hs : s.length ≤ 1000000) (hb : Go.Lib.validD s = false) :
    ansOf E F_ref7_Units [.w (.p (.str s))] = some ([(false, [.p (.int .i64 0)]), (false, [.p (.int .i64 2)])], []) := by
  have hR := Runes_bad s hs hb
  refine ref7_Units_ans rfl rfl ?_
  repeat' (first | (simp -implicitDefEqProofs +contextual (maxSteps := 10000000) (disch := first | with_unfolding_all exact id rfl | assumption | ((fail_if_success (with_reducible refine isB ?_)); (first | omega | decide))) only [go_sem, v_n, hR]) | refine vIte_i (fun hb => ?_) fun hb => ?_ | refine vAp_i (by kernel_rfl) ?_ | refine vIf_i (fun hb => ?_) fun hb => ?_ | refine oT_Gi (fun hb => ?_) fun hb => ?_)
end Go.Pv.Cb
