/- What the functions that EnvTakes reaches compute: a part. -/
import Derived.Test.YtfckadoadmdgjaaDoorEB
import Derived.Test.YtfckadoadmdgjaaDoorXM
set_option linter.all false
namespace Go.Pv.Cb
set_option linter.unusedSimpArgs false
open Go.Pv
set_option maxRecDepth 10000
set_option maxHeartbeats 4000000
abbrev gdP (n : Int) (p : Pl) : Prop := 0 ≤ p.s ∧ p.s < n ∧ 0 ≤ p.r ∧ p.r < 65536 ∧ 0 ≤ p.c ∧ p.c < 256
def getL (l : List Sl) (p : Pl) : Vl := match l[pos l p]? with
  | some x => if x.p = p then x.v else zv
  | none => zv
def fV (e : Int) : Vl := ⟨4, 0, 0, [], false, e⟩
def getF (n : Int) (l : List Sl) (p : Pl) : Vl := if gdP n p then getL l p else fV 23
theorem Get_spec (n : Int) (l : List Sl) (y : PV) (p : Pl) (hs : Srt l) (hl : l.length ≤ 100000) : ansOf E F_env_Get [.a [.p (.int .i64 n), .p (.sl 9 (l.map cS)), .p y], .a (pP p)] = some ([(true, pV (getF n l p))], []) := by
  have hg := egood_spec n (.sl 9 (l.map cS)) y p
  have hf := find_spec l p hs hl
  unfold getF
  by_cases h1 : gdP n p
  · rw [if_pos h1]
    rw [decide_eq_true h1] at hg
    unfold getL
    by_cases hlt : pos l p < l.length
    · obtain ⟨x, hx⟩ := get_lt hlt
      have c1 : (pos l p : Int) < l.length := by omega
      rw [hx]
      by_cases he : x.p = p
      · have hh : hasP l p = true := by unfold hasP; rw [hx]; simp [he]
        rw [hh] at hf
        simp only [if_pos he]
        refine env_Get_ans rfl rfl ?_
        repeat' (first | (simp -implicitDefEqProofs +contextual (maxSteps := 10000000) (disch := first | with_unfolding_all exact id rfl | assumption | ((fail_if_success (with_reducible refine isB ?_)); (first | omega | decide))) only [go_sem, v_n, hg, hf, hx]) | refine vIte_i (fun hb => ?_) fun hb => ?_ | refine vAp_i (by kernel_rfl) ?_ | refine vIf_i (fun hb => ?_) fun hb => ?_ | refine oT_Gi (fun hb => ?_) fun hb => ?_)
      · have hh : hasP l p = false := by unfold hasP; rw [hx]; simp [he]
        rw [hh] at hf
        simp only [if_neg he]
        refine env_Get_ans rfl rfl ?_
        repeat' (first | (simp -implicitDefEqProofs +contextual (maxSteps := 10000000) (disch := first | with_unfolding_all exact id rfl | assumption | ((fail_if_success (with_reducible refine isB ?_)); (first | omega | decide))) only [go_sem, v_n, hg, hf]) | refine vIte_i (fun hb => ?_) fun hb => ?_ | refine vAp_i (by kernel_rfl) ?_ | refine vIf_i (fun hb => ?_) fun hb => ?_ | refine oT_Gi (fun hb => ?_) fun hb => ?_)
        exact ⟨rfl, rfl, rfl, rfl, rfl, rfl⟩
    · rw [List.getElem?_eq_none (by omega)]
      have hh : hasP l p = false := by unfold hasP; rw [List.getElem?_eq_none (by omega)]; rfl
      rw [hh] at hf
      refine env_Get_ans rfl rfl ?_
      repeat' (first | (simp -implicitDefEqProofs +contextual (maxSteps := 10000000) (disch := first | with_unfolding_all exact id rfl | assumption | ((fail_if_success (with_reducible refine isB ?_)); (first | omega | decide))) only [go_sem, v_n, hg, hf]) | refine vIte_i (fun hb => ?_) fun hb => ?_ | refine vAp_i (by kernel_rfl) ?_ | refine vIf_i (fun hb => ?_) fun hb => ?_ | refine oT_Gi (fun hb => ?_) fun hb => ?_)
      exact ⟨rfl, rfl, rfl, rfl, rfl, rfl⟩
  · rw [if_neg h1]
    rw [decide_eq_false h1] at hg
    refine env_Get_ans rfl rfl ?_
    repeat' (first | (simp -implicitDefEqProofs +contextual (maxSteps := 10000000) (disch := first | with_unfolding_all exact id rfl | assumption | ((fail_if_success (with_reducible refine isB ?_)); (first | omega | decide))) only [go_sem, v_n, hg, fault_spec]) | refine vIte_i (fun hb => ?_) fun hb => ?_ | refine vAp_i (by kernel_rfl) ?_ | refine vIf_i (fun hb => ?_) fun hb => ?_ | refine oT_Gi (fun hb => ?_) fun hb => ?_)
    exact ⟨rfl, rfl, rfl, rfl, rfl, rfl⟩
def putF (l : List Sl) (p : Pl) (v : Vl) : List Sl :=
  if hasP l p = true then (if v.k = 0 then l.take (pos l p) ++ l.drop (pos l p + 1) else l.set (pos l p) ⟨p, v⟩)
  else if v.k = 0 then l else l.take (pos l p) ++ [⟨p, v⟩] ++ l.drop (pos l p)
theorem has_get {l : List Sl} {p : Pl} (h : hasP l p = true) : ∃ v, l[pos l p]? = some ⟨p, v⟩ := by
  unfold hasP at h
  rw [decide_eq_true_eq] at h
  cases hx : l[pos l p]? with
  | none => rw [hx] at h; simp at h
  | some x => rw [hx] at h; simp at h; subst h; exact ⟨x.v, rfl⟩
theorem Put_spec (n : Int) (l : List Sl) (nm : List (List PV)) (p : Pl) (v : Vl) (hs : Srt l) (hl : l.length ≤ 90000) :
    ansOf E F_env_Put [.a [.p (.int .i64 n), .p (.sl 9 (l.map cS)), .p (.sl 18 nm)], .a (pP p), .a (pV v)] = some ([(true, [.p (.int .i64 n), .own 9 ((putF l p v).map oS), .p (.sl 18 nm)])], []) := by
  have hf := find_spec l p hs (by omega)
  have hc := Clone_S l (by omega)
  unfold putF
  cases hh : hasP l p with
  | true =>
    rw [hh] at hf
    obtain ⟨u, hx⟩ := has_get hh
    have hlt := (List.getElem?_eq_some_iff.1 hx).1
    by_cases hk : v.k = 0
    · have hd := Delete_S l (pos l p) hlt
      rw [if_pos rfl, if_pos hk]
      refine env_Put_ans rfl rfl ?_
      repeat' (first | (simp -implicitDefEqProofs +contextual (maxSteps := 10000000) (disch := first | with_unfolding_all exact id rfl | assumption | ((fail_if_success (with_reducible refine isB ?_)); (first | omega | decide))) only [go_sem, v_n, hf, hc, hd, hk]) | refine vIte_i (fun hb => ?_) fun hb => ?_ | refine vAp_i (by kernel_rfl) ?_ | refine vIf_i (fun hb => ?_) fun hb => ?_ | refine oT_Gi (fun hb => ?_) fun hb => ?_)
    · rw [if_pos rfl, if_neg hk]
      have c1 : (pos l p : Int) < l.length := by omega
      have e1 : (l.set (pos l p) ⟨p, v⟩).map oS = (l.map oS).set (pos l p) (oS ⟨p, v⟩) := List.map_set
      refine env_Put_ans rfl rfl ?_
      repeat' (first | (simp -implicitDefEqProofs +contextual (maxSteps := 10000000) (disch := first | with_unfolding_all exact id rfl | assumption | ((fail_if_success (with_reducible refine isB ?_)); (first | omega | decide))) only [go_sem, v_n, hf, hc, hk, hx, beq_self_eq_true, ← e1]) | refine vIte_i (fun hb => ?_) fun hb => ?_ | refine vAp_i (by kernel_rfl) ?_ | refine vIf_i (fun hb => ?_) fun hb => ?_ | refine oT_Gi (fun hb => ?_) fun hb => ?_)
  | false =>
    rw [hh] at hf
    rw [if_neg (by simp)]
    by_cases hk : v.k = 0
    · rw [if_pos hk]
      refine env_Put_ans rfl rfl ?_
      repeat' (first | (simp -implicitDefEqProofs +contextual (maxSteps := 10000000) (disch := first | with_unfolding_all exact id rfl | assumption | ((fail_if_success (with_reducible refine isB ?_)); (first | omega | decide))) only [go_sem, v_n, hf, hc, hk]) | refine vIte_i (fun hb => ?_) fun hb => ?_ | refine vAp_i (by kernel_rfl) ?_ | refine vIf_i (fun hb => ?_) fun hb => ?_ | refine oT_Gi (fun hb => ?_) fun hb => ?_)
    · have hi := Insert_S l (pos l p) ⟨p, v⟩ (pos_le l p) (by omega)
      rw [oS_eq] at hi
      rw [if_neg hk]
      refine env_Put_ans rfl rfl ?_
      repeat' (first | (simp -implicitDefEqProofs +contextual (maxSteps := 10000000) (disch := first | with_unfolding_all exact id rfl | assumption | ((fail_if_success (with_reducible refine isB ?_)); (first | omega | decide))) only [go_sem, v_n, hf, hc, hk, hi]) | refine vIte_i (fun hb => ?_) fun hb => ?_ | refine vAp_i (by kernel_rfl) ?_ | refine vIf_i (fun hb => ?_) fun hb => ?_ | refine oT_Gi (fun hb => ?_) fun hb => ?_)
theorem cS_eqs (x y : Sl) : cellsEq [.i, .i, .i, .i, .i, .i, .s, .b, .i] (cS x) (cS y) = some (decide (x = y)) := by
  unfold cS
  simp only [cellsEq, if_true, Option.map_some, Option.some.injEq]
  rcases x with ⟨⟨⟩, ⟨⟩⟩; rcases y with ⟨⟨⟩, ⟨⟩⟩
  rw [Bool.eq_iff_iff]
  simp [and_assoc]
theorem EqualS_spec (l m : List Sl) (hl : l.length ≤ 100000) : ansOf E F_slices_Equal_env_Slot_env_Slot [.w (.p (.sl 9 (l.map cS))), .w (.p (.sl 9 (m.map cS)))] = some ([(false, [.p (.bool (decide (l = m)))])], []) := by
  by_cases hlen : l.length = m.length
  · refine slices_Equal_env_Slot_env_Slot_ans rfl rfl ?_
    repeat' (first | (simp -implicitDefEqProofs +contextual (maxSteps := 10000000) (disch := first | with_unfolding_all exact id rfl | assumption | ((fail_if_success (with_reducible refine isB ?_)); (first | omega | decide))) only [go_sem, v_n, hlen]) | refine vIte_i (fun hb => ?_) fun hb => ?_ | refine vAp_i (by kernel_rfl) ?_ | refine vIf_i (fun hb => ?_) fun hb => ?_ | refine oT_Gi (fun hb => ?_) fun hb => ?_)
    refine v_inv (fun i : Nat => [(0, .w (.p (.sl 9 (l.map cS)))), (1, .w (.p (.sl 9 (m.map cS)))), (12, .w (.p (.int .i64 l.length))), (13, .w (.p (.int .i64 i)))]) (fun i => i ≤ l.length ∧ l.take i = m.take i) (fun i => l.length - i) 0 (by rw [hlen]; rfl) ⟨by omega, rfl⟩ ?_
    rintro i ⟨hi, hm⟩ hih
    by_cases hlt : i < l.length
    · obtain ⟨x, hx⟩ := get_lt hlt
      obtain ⟨y, hy⟩ := get_lt (l := m) (i := i) (by omega)
      have c1 : (i : Int) < l.length := by omega
      have c2 : (i : Int) < m.length := by omega
      by_cases he : x = y
      · subst he
        have := hih (i + 1) (by omega) ⟨by omega, by rw [List.take_add_one, List.take_add_one, hx, hy, hm]⟩
        clear hih
        have c4 := cS_eqs x x
        rw [decide_eq_true rfl] at c4
        repeat' (first | (simp -implicitDefEqProofs +contextual (maxSteps := 10000000) (disch := first | with_unfolding_all exact id rfl | assumption | ((fail_if_success (with_reducible refine isB ?_)); (first | omega | decide))) only [go_sem, v_n, hx, hy, c1, c2, c4]) | refine vIte_i (fun hb => ?_) fun hb => ?_ | refine vAp_i (by kernel_rfl) ?_ | refine vIf_i (fun hb => ?_) fun hb => ?_ | refine oT_Gi (fun hb => ?_) fun hb => ?_)
        exact this
      · have hne : l ≠ m := fun e => by subst e; rw [hx] at hy; cases hy; exact he rfl
        have c3 : decide (l = m) = false := decide_eq_false hne
        have c4 := cS_eqs x y
        rw [decide_eq_false he] at c4
        clear hih
        repeat' (first | (simp -implicitDefEqProofs +contextual (maxSteps := 10000000) (disch := first | with_unfolding_all exact id rfl | assumption | ((fail_if_success (with_reducible refine isB ?_)); (first | omega | decide))) only [go_sem, v_n, hx, hy, c1, c2, c3, c4]) | refine vIte_i (fun hb => ?_) fun hb => ?_ | refine vAp_i (by kernel_rfl) ?_ | refine vIf_i (fun hb => ?_) fun hb => ?_ | refine oT_Gi (fun hb => ?_) fun hb => ?_)
    · obtain rfl : i = l.length := by omega
      have c1 : ¬ (l.length : Int) < l.length := by omega
      have c3 : decide (l = m) = true := decide_eq_true (by rw [List.take_length, hlen, List.take_length] at hm; exact hm)
      clear hih
      repeat' (first | (simp -implicitDefEqProofs +contextual (maxSteps := 10000000) (disch := first | with_unfolding_all exact id rfl | assumption | ((fail_if_success (with_reducible refine isB ?_)); (first | omega | decide))) only [go_sem, v_n, c1, c3]) | refine vIte_i (fun hb => ?_) fun hb => ?_ | refine vAp_i (by kernel_rfl) ?_ | refine vIf_i (fun hb => ?_) fun hb => ?_ | refine oT_Gi (fun hb => ?_) fun hb => ?_)
  · have c3 : decide (l = m) = false := decide_eq_false fun e => hlen (by rw [e])
    have c1 : ¬ (l.length : Int) = m.length := by omega
    refine slices_Equal_env_Slot_env_Slot_ans rfl rfl ?_
    repeat' (first | (simp -implicitDefEqProofs +contextual (maxSteps := 10000000) (disch := first | with_unfolding_all exact id rfl | assumption | ((fail_if_success (with_reducible refine isB ?_)); (first | omega | decide))) only [go_sem, v_n, c1, c3]) | refine vIte_i (fun hb => ?_) fun hb => ?_ | refine vAp_i (by kernel_rfl) ?_ | refine vIf_i (fun hb => ?_) fun hb => ?_ | refine oT_Gi (fun hb => ?_) fun hb => ?_)
theorem EqualT_spec (l m : List Tr) (hl : l.length ≤ 100000) (hn : ∀ t ∈ l, t.n ≤ 100000) (hn' : ∀ t ∈ m, t.n ≤ 100000) :
    ansOf E F_slices_EqualFunc_expr_Expr_expr_Expr_expr_Expr_expr_Expr [.w (.p (.sl 18 (l.map cT))), .w (.p (.sl 18 (m.map cT))), .clo F_expr_Same []] = some ([(false, [.p (.bool (decide (l.length = m.length) && sTs l m))])], []) := by
  by_cases hlen : l.length = m.length
  · rw [decide_eq_true hlen, Bool.true_and]
    refine slices_EqualFunc_expr_Expr_expr_Expr_expr_Expr_expr_Expr_ans rfl rfl ?_
    repeat' (first | (simp -implicitDefEqProofs +contextual (maxSteps := 10000000) (disch := first | with_unfolding_all exact id rfl | assumption | ((fail_if_success (with_reducible refine isB ?_)); (first | omega | decide))) only [go_sem, v_n, hlen]) | refine vIte_i (fun hb => ?_) fun hb => ?_ | refine vAp_i (by kernel_rfl) ?_ | refine vIf_i (fun hb => ?_) fun hb => ?_ | refine oT_Gi (fun hb => ?_) fun hb => ?_)
    refine v_inv (fun i : Nat => [(0, .w (.p (.sl 18 (l.map cT)))), (1, .w (.p (.sl 18 (m.map cT)))), (2, .clo F_expr_Same []), (15, .w (.p (.sl 18 (l.map cT)))), (16, .w (.p (.int .i64 l.length))), (17, .w (.p (.int .i64 i)))]) (fun i => i ≤ l.length ∧ sTs (l.drop i) (m.drop i) = sTs l m) (fun i => l.length - i) 0 (by rw [hlen]; rfl) ⟨by omega, rfl⟩ ?_
    rintro i ⟨hi, hm⟩ hih
    by_cases hlt : i < l.length
    · obtain ⟨t, hx⟩ := get_lt hlt
      obtain ⟨u, hy⟩ := get_lt (l := m) (i := i) (by omega)
      have c1 : (i : Int) < l.length := by omega
      have c2 : (i : Int) < m.length := by omega
      have hf := pSame t u (hn t (mem_get hx)) (hn' u (mem_get hy))
      rw [drop_get hx, drop_get hy, sTs] at hm
      cases hp : sT t u with
      | true =>
        rw [hp, Bool.true_and] at hm
        rw [hp] at hf
        repeat' (first | (simp -implicitDefEqProofs +contextual (maxSteps := 10000000) (disch := first | with_unfolding_all exact id rfl | assumption | ((fail_if_success (with_reducible refine isB ?_)); (first | omega | decide))) only [go_sem, v_n, hx, hy, c1, c2, hf]) | refine vIte_i (fun hb => ?_) fun hb => ?_ | refine vAp_i (by kernel_rfl) ?_ | refine vIf_i (fun hb => ?_) fun hb => ?_ | refine oT_Gi (fun hb => ?_) fun hb => ?_)
        exact hih (i + 1) (by omega) ⟨by omega, hm⟩
      | false =>
        rw [hp, Bool.false_and] at hm
        rw [hp] at hf
        repeat' (first | (simp -implicitDefEqProofs +contextual (maxSteps := 10000000) (disch := first | with_unfolding_all exact id rfl | assumption | ((fail_if_success (with_reducible refine isB ?_)); (first | omega | decide))) only [go_sem, v_n, hx, hy, c1, c2, hf, ← hm]) | refine vIte_i (fun hb => ?_) fun hb => ?_ | refine vAp_i (by kernel_rfl) ?_ | refine vIf_i (fun hb => ?_) fun hb => ?_ | refine oT_Gi (fun hb => ?_) fun hb => ?_)
    · obtain rfl : i = l.length := by omega
      have c1 : ¬ (l.length : Int) < l.length := by omega
      rw [List.drop_length, sTs] at hm
      · repeat' (first | (simp -implicitDefEqProofs +contextual (maxSteps := 10000000) (disch := first | with_unfolding_all exact id rfl | assumption | ((fail_if_success (with_reducible refine isB ?_)); (first | omega | decide))) only [go_sem, v_n, c1, ← hm]) | refine vIte_i (fun hb => ?_) fun hb => ?_ | refine vAp_i (by kernel_rfl) ?_ | refine vIf_i (fun hb => ?_) fun hb => ?_ | refine oT_Gi (fun hb => ?_) fun hb => ?_)
      · simp
  · rw [decide_eq_false hlen, Bool.false_and]
    have c1 : ¬ (l.length : Int) = m.length := by omega
    refine slices_EqualFunc_expr_Expr_expr_Expr_expr_Expr_expr_Expr_ans rfl rfl ?_
    repeat' (first | (simp -implicitDefEqProofs +contextual (maxSteps := 10000000) (disch := first | with_unfolding_all exact id rfl | assumption | ((fail_if_success (with_reducible refine isB ?_)); (first | omega | decide))) only [go_sem, v_n, c1]) | refine vIte_i (fun hb => ?_) fun hb => ?_ | refine vAp_i (by kernel_rfl) ?_ | refine vIf_i (fun hb => ?_) fun hb => ?_ | refine oT_Gi (fun hb => ?_) fun hb => ?_)
theorem eqT_dec (l m : List Tr) : (decide (l.length = m.length) && sTs l m) = true ↔ l = m := by
  rw [Bool.and_eq_true, decide_eq_true_eq]
  constructor
  · rintro ⟨h1, h2⟩; exact (sTs_iff l m h1).1 h2
  · rintro rfl; exact ⟨rfl, (sTs_iff l l rfl).2 rfl⟩
def sameB (n n' : Int) (l m : List Sl) (t u : List Tr) : Bool := decide (n = n') && (decide (l = m) && (decide (t.length = u.length) && sTs t u))
theorem same_iff {n n' : Int} {l m : List Sl} {t u : List Tr} : sameB n n' l m t u = true ↔ n = n' ∧ l = m ∧ t = u := by
  unfold sameB
  rw [Bool.and_eq_true, Bool.and_eq_true, eqT_dec, decide_eq_true_eq, decide_eq_true_eq]
theorem ESame_spec (n n' : Int) (l m : List Sl) (t u : List Tr) (hl : l.length ≤ 100000) (ht : t.length ≤ 100000) (hn : ∀ x ∈ t, x.n ≤ 100000) (hn' : ∀ x ∈ u, x.n ≤ 100000) :
    ansOf E F_env_Same [.a [.p (.int .i64 n), .p (.sl 9 (l.map cS)), .p (.sl 18 (t.map cT))], .a [.p (.int .i64 n'), .p (.sl 9 (m.map cS)), .p (.sl 18 (u.map cT))]] = some ([(false, [.p (.bool (sameB n n' l m t u))])], []) := by
  have h1 := EqualS_spec l m hl
  have h2 := EqualT_spec t u ht hn hn'
  unfold sameB
  by_cases c1 : n = n'
  · rw [decide_eq_true c1, Bool.true_and]
    cases hd : decide (l = m) with
    | true =>
      rw [hd] at h1
      refine env_Same_ans rfl rfl ?_
      repeat' (first | (simp -implicitDefEqProofs +contextual (maxSteps := 10000000) (disch := first | with_unfolding_all exact id rfl | assumption | ((fail_if_success (with_reducible refine isB ?_)); (first | omega | decide))) only [go_sem, v_n, c1, h1, h2]) | refine vIte_i (fun hb => ?_) fun hb => ?_ | refine vAp_i (by kernel_rfl) ?_ | refine vIf_i (fun hb => ?_) fun hb => ?_ | refine oT_Gi (fun hb => ?_) fun hb => ?_)
    | false =>
      rw [hd] at h1
      refine env_Same_ans rfl rfl ?_
      repeat' (first | (simp -implicitDefEqProofs +contextual (maxSteps := 10000000) (disch := first | with_unfolding_all exact id rfl | assumption | ((fail_if_success (with_reducible refine isB ?_)); (first | omega | decide))) only [go_sem, v_n, c1, h1, h2]) | refine vIte_i (fun hb => ?_) fun hb => ?_ | refine vAp_i (by kernel_rfl) ?_ | refine vIf_i (fun hb => ?_) fun hb => ?_ | refine oT_Gi (fun hb => ?_) fun hb => ?_)
  · rw [decide_eq_false c1, Bool.false_and]
    refine env_Same_ans rfl rfl ?_
    repeat' (first | (simp -implicitDefEqProofs +contextual (maxSteps := 10000000) (disch := first | with_unfolding_all exact id rfl | assumption | ((fail_if_success (with_reducible refine isB ?_)); (first | omega | decide))) only [go_sem, v_n, c1]) | refine vIte_i (fun hb => ?_) fun hb => ?_ | refine vAp_i (by kernel_rfl) ?_ | refine vIf_i (fun hb => ?_) fun hb => ?_ | refine oT_Gi (fun hb => ?_) fun hb => ?_)
end Go.Pv.Cb
