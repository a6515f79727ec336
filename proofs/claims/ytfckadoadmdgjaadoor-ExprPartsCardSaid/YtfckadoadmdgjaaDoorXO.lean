/- What the functions that ExprParts reaches compute: a part. -/
import Derived.Test.YtfckadoadmdgjaaDoorXN
set_option linter.all false
namespace Go.Pv.Cb
set_option linter.unusedSimpArgs false
open Go.Pv
set_option maxRecDepth 10000
set_option maxHeartbeats 4000000
theorem dpL_get : ∀ {l : List Tr} {i : Nat} {k : Tr} {d : Int}, 0 ≤ d → l[i]? = some k → dep k ≤ dpL d l
  | t :: ts, 0, k, d, hd, h => by
    simp at h; subst h
    have := dpL_le ts (max d (dep t)) (by omega)
    rw [dpL_c]; omega
  | t :: ts, i + 1, k, d, hd, h => by
    rw [dpL_c]; exact dpL_get (by have := dep_le t; omega) (by simpa using h)
theorem ffTs_get : ∀ {l : List Tr} {i : Nat} {k : Tr} {f : Int}, ffTs f l = 0 → l[i]? = some k → ffT k = 0
  | t :: ts, i, k, f, hf, h => by
    rw [ffTs] at hf
    by_cases hz : f = 0
    · rw [if_pos hz] at hf
      cases i with
      | zero =>
        simp at h; subst h
        by_cases h2 : ffT t = 0
        · exact h2
        · rw [ffTs_ne _ _ h2] at hf; exact absurd hf h2
      | succ i => exact ffTs_get hf (by simpa using h)
    · rw [if_neg hz] at hf; exact absurd hf hz
theorem chk_kid {e k : Tr} {i : Nat} (h : e.ks[i]? = some k) (hc : chk e = 0) : chk k = 0 ∧ dep k < dep e ∧ k.n < e.n := by
  have h1 := dpL_get (d := 0) (by omega) h
  have h2 := dep_eq e
  have h3 := kid_lt h
  unfold chk at hc ⊢
  split at hc
  · omega
  · split at hc
    · omega
    · rw [ffT_eq] at hc
      split at hc
      · have := ffTs_get hc h
        rw [if_neg (by omega), if_neg (by omega)]
        exact ⟨this, by omega, h3⟩
      · omega
theorem frz_set {l : List Tr} {m : Nat} {k : Tr} (h : l[m]? = some k) : OV.frzss ((l.map wT).set m ((cT k).map OV.p)) = l.map cT := by
  rw [frzss_eq_map, List.map_set]
  have e1 : (l.map wT).map (fun x => x.map OV.frz) = l.map cT := by rw [← frzss_eq_map, wTm_frz]
  have e2 : ((cT k).map OV.p).map OV.frz = cT k := by rw [← frzs_eq_map, frzs_plain]
  rw [e1, e2]
  apply List.ext_getElem?
  intro i
  rw [List.getElem?_set]
  split
  · rename_i e; subst e
    simp only [List.getElem?_map, h, List.length_map, (List.getElem?_eq_some_iff.1 h).1, if_true, Option.map_some]
  · rfl
theorem whole_set {l : List Tr} {m : Nat} {k : Tr} : OV.wholess ((l.map wT).set m ((cT k).map OV.p)) = true := by
  rw [wholess_eq, List.all_eq_true]
  intro x hx
  rcases List.mem_or_eq_of_mem_set hx with q | rfl
  · obtain ⟨t, _, rfl⟩ := List.mem_map.1 q
    rw [← wholes_eq, wT_whole]
  · rw [← wholes_eq, wholes_plain]
theorem ExprParts_spec (e : Tr) (a : Nat) (ha : a ≤ 255) : ansOf E F_law10_ExprParts [.a ((cT e).map OV.p), .w (.p (.int .u8 a))] = some ([(false, [.p (.bool true)])], []) := by
  obtain ⟨b1, f1, q1⟩ := Few_spec e 300 (by omega)
  have c15 : ((300 : Nat) : Int) = 300 := rfl
  rw [c15] at f1
  cases b1 with
  | false =>
    refine law10_ExprParts_ans rfl rfl ?_
    repeat' (first | (simp -implicitDefEqProofs +contextual (maxSteps := 10000000) (disch := first | with_unfolding_all exact id rfl | assumption | ((fail_if_success (with_reducible refine isB ?_)); (first | omega | decide))) only [go_sem, v_n, known_spec, f1]) | refine vIte_i (fun hb => ?_) fun hb => ?_ | refine vAp_i (by kernel_rfl) ?_ | refine vIf_i (fun hb => ?_) fun hb => ?_ | refine oT_Gi (fun hb => ?_) fun hb => ?_)
  | true =>
  obtain ⟨he, hs⟩ := q1 rfl
  have t1 := lTo e (by omega)
  by_cases hz : e.ks.length = 0
  · have c1 : (e.ks.length : Int) = 0 := by omega
    refine law10_ExprParts_ans rfl rfl ?_
    repeat' (first | (simp -implicitDefEqProofs +contextual (maxSteps := 10000000) (disch := first | with_unfolding_all exact id rfl | assumption | ((fail_if_success (with_reducible refine isB ?_)); (first | omega | decide))) only [go_sem, v_n, known_spec, f1, c1]) | refine vIte_i (fun hb => ?_) fun hb => ?_ | refine vAp_i (by kernel_rfl) ?_ | refine vIf_i (fun hb => ?_) fun hb => ?_ | refine oT_Gi (fun hb => ?_) fun hb => ?_)
  have c1 : ¬ (e.ks.length : Int) = 0 := by omega
  have hk := kids_lt e
  obtain ⟨k, hx⟩ := get_lt (l := e.ks) (i := a % e.ks.length) (Nat.mod_lt _ (by omega))
  have hlt := Nat.mod_lt a (show 0 < e.ks.length by omega)
  obtain ⟨m, hm⟩ : ∃ m, a % e.ks.length = m := ⟨_, rfl⟩
  rw [hm] at hx hlt
  have c2 : (a : Int).tmod (e.ks.length : Int) = (m : Int) := by rw [← hm]; exact Int.ofNat_tmod a _
  have g1 := pCheck e (by omega) hs
  have g2 := pCheck k (by have := kid_lt hx; omega) (sts_get ((st_eq e).1 hs).2 hx)
  have g3 := pDepth e (by omega)
  have g4 := pDepth k (by have := kid_lt hx; omega)
  have g5 := Count_spec e (by omega)
  have g6 := Count_spec k (by have := kid_lt hx; omega)
  have w1 := frz_set hx
  have w2 := @whole_set e.ks m k
  have key := chk_kid hx
  have fs : [.p (.int .i64 e.k), .p (.int .i64 e.v.k), .p (.int .i64 e.v.m), .p (.int .i64 e.v.c), .p (.str e.v.s), .p (.bool e.v.b), .p (.int .i64 e.v.e), .p (.int .i64 e.a.a.row), .p (.int .i64 e.a.a.col), .p (.bool e.a.a.rr), .p (.bool e.a.a.rc), .p (.int .i64 e.a.b.row), .p (.int .i64 e.a.b.col), .p (.bool e.a.b.rr), .p (.bool e.a.b.rc), .p (.int .i64 e.sh), .p (.int .i64 e.op), .p (.sl 18 (e.ks.map cT))] = (cT e).map OV.p := by rw [cT_eq e]; rfl
  by_cases hc : chk e = 0
  · obtain ⟨k1, k2, k3⟩ := key hc
    have k2' : ¬ dep e ≤ dep k := by omega
    have k3' : ¬ (e.n : Int) ≤ k.n := by omega
    rw [k1] at g2
    rw [hc] at g1
    clear key
    refine law10_ExprParts_ans rfl rfl ?_
    repeat' (first | (simp -implicitDefEqProofs +contextual (maxSteps := 10000000) (disch := first | with_unfolding_all exact id rfl | assumption | ((fail_if_success (with_reducible refine isB ?_)); (first | omega | decide))) only [go_sem, v_n, known_spec, f1, c1, t1, c2, wT_eq e, hx, w1, w2, fs, g1, g2, g3, g4, g5, g6, k2', k3']) | refine vIte_i (fun hb => ?_) fun hb => ?_ | refine vAp_i (by kernel_rfl) ?_ | refine vIf_i (fun hb => ?_) fun hb => ?_ | refine oT_Gi (fun hb => ?_) fun hb => ?_)
  · clear key
    refine law10_ExprParts_ans rfl rfl ?_
    repeat' (first | (simp -implicitDefEqProofs +contextual (maxSteps := 10000000) (disch := first | with_unfolding_all exact id rfl | assumption | ((fail_if_success (with_reducible refine isB ?_)); (first | omega | decide))) only [go_sem, v_n, known_spec, f1, c1, t1, c2, wT_eq e, hx, w1, w2, fs, g1, g2, hc]) | refine vIte_i (fun hb => ?_) fun hb => ?_ | refine vAp_i (by kernel_rfl) ?_ | refine vIf_i (fun hb => ?_) fun hb => ?_ | refine oT_Gi (fun hb => ?_) fun hb => ?_)
end Go.Pv.Cb
