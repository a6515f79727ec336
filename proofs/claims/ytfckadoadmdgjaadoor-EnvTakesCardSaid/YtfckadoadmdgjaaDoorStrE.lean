/- What the functions that EnvTakes reaches compute: a part. -/
import Derived.Test.YtfckadoadmdgjaaDoorStrE1
import Derived.Test.YtfckadoadmdgjaaDoorStrE2
import Derived.Test.YtfckadoadmdgjaaDoorStrE3
import Derived.Test.YtfckadoadmdgjaaDoorStrE4
set_option linter.all false
namespace Go.Pv.Cb
set_option linter.unusedSimpArgs false
open Go.Pv
set_option maxRecDepth 10000
set_option maxHeartbeats 4000000
theorem Runes_spec (l : List Nat) (t : List UInt8) (hg : goodR l) (ht : t = [] ∨ (t ≠ [] ∧ Go.Lib.decodeL t = (65533, 1))) (hs : (encs l ++ t).length ≤ 1000000) :
    ansOf E F_ref7_Runes [.w (.p (.str (encs l ++ t)))] = some ([(false, [.own 1 (plains (eI (if t = [] then ofN l else [])))]), (false, [.p (.bool (decide (t = [])))])], []) := by
  obtain ⟨s, hse⟩ : ∃ s, s = encs l ++ t := ⟨_, rfl⟩
  rw [← hse] at hs ⊢
  refine ref7_Runes_ans rfl rfl ?_
  repeat' (first | (simp -implicitDefEqProofs +contextual (maxSteps := 10000000) (disch := first | with_unfolding_all exact id rfl | assumption | ((fail_if_success (with_reducible refine isB ?_)); (first | omega | decide))) only [go_sem, v_n]) | refine vIte_i (fun hb => ?_) fun hb => ?_ | refine vAp_i (by kernel_rfl) ?_ | refine vIf_i (fun hb => ?_) fun hb => ?_ | refine oT_Gi (fun hb => ?_) fun hb => ?_)
  refine v_inv (fun x : List Nat × List Nat => [(0, .w (.p (.str s))), (4, .w (.own 1 (plains (eI (ofN x.1))))), (5, .w (.p (.int .i64 (encs x.1).length)))]) (fun x => l = x.1 ++ x.2) (fun x => x.2.length) ([], l) rfl rfl ?_
  rintro ⟨a, b⟩ hl ih
  dsimp only at hl ih ⊢
  have hsl := congrArg List.length hse
  rw [List.length_append] at hsl
  have hol := ofN_len a
  have hae := encs_len_ge a
  cases b with
  | nil =>
    rw [List.append_nil] at hl
    subst hl
    rcases ht with rfl | ⟨hne, hd⟩
    · have hlt : ¬ ((encs l).length : Int) < s.length := by simp at hsl; omega
      repeat' (first | (simp -implicitDefEqProofs +contextual (maxSteps := 10000000) (disch := first | with_unfolding_all exact id rfl | assumption | ((fail_if_success (with_reducible refine isB ?_)); (first | omega | decide))) only [go_sem, v_n, hlt]) | refine vIte_i (fun hb => ?_) fun hb => ?_ | refine vAp_i (by kernel_rfl) ?_ | refine vIf_i (fun hb => ?_) fun hb => ?_ | refine oT_Gi (fun hb => ?_) fun hb => ?_)
      all_goals simp
    · rw [if_neg hne, decide_eq_false hne]
      refine Runes_cb s (encs l) t (ofN l) hse hs hne hd (by omega) _ _ _ ?_ ?_
      · (simp -implicitDefEqProofs +contextual (maxSteps := 10000000) (disch := first | with_unfolding_all exact id rfl | assumption | ((fail_if_success (with_reducible refine isB ?_)); (first | omega | decide))) only [go_sem])
        rfl
      · (simp -implicitDefEqProofs +contextual (maxSteps := 10000000) (disch := first | with_unfolding_all exact id rfl | assumption | ((fail_if_success (with_reducible refine isB ?_)); (first | omega | decide))) only [go_sem])
        rfl
  | cons v b =>
    have hv : okR v := goodR_mid (hl ▸ hg)
    have hm : s = encs a ++ (enc1 v ++ (encs b ++ t)) := by rw [hse, hl, encs_mid, List.append_assoc, List.append_assoc]
    have hml := congrArg List.length hm
    rw [List.length_append, List.length_append] at hml
    have hnx := encs_snoc a v
    have hnl := congrArg List.length hnx
    rw [List.length_append] at hnl
    have hih := ih (a ++ [v], b) (by simp) (by simp [hl])
    rw [hnl, ofN_snoc] at hih
    clear ih
    by_cases h1 : v < 128
    · exact Runes_c1 s _ _ _ v hv h1 hm hs (by omega) _ _ hih
    by_cases h2 : v < 2048
    · exact Runes_c2 s _ _ _ v hv h1 h2 hm hs (by omega) _ _ hih
    by_cases h3 : v < 65536
    · exact Runes_c3 s _ _ _ v hv h1 h2 h3 hm hs (by omega) _ _ hih
    · exact Runes_c4 s _ _ _ v hv h1 h2 h3 hm hs (by omega) _ _ hih
end Go.Pv.Cb
