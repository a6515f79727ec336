/- What the functions that EnvTakes reaches compute: a part. -/
import Derived.Test.YtfckadoadmdgjaaDoorEA
set_option linter.all false
namespace Go.Pv.Cb
set_option linter.unusedSimpArgs false
open Go.Pv
set_option maxRecDepth 10000
set_option maxHeartbeats 4000000
def Srt (l : List Sl) : Prop := l.Pairwise fun a b => plt a.p b.p
def pos (l : List Sl) (p : Pl) : Nat := (l.takeWhile fun x => decide (plt x.p p)).length
def hasP (l : List Sl) (p : Pl) : Bool := decide ((l[pos l p]?).map (·.p) = some p)
theorem plt_trans {a b c : Pl} (h : plt a b) (k : plt b c) : plt a c := by unfold plt at *; omega
theorem plt_irr (a : Pl) : ¬ plt a a := by unfold plt; omega
theorem plt_tri {a b : Pl} (h : ¬ plt a b) (k : ¬ plt b a) : a = b := by
  cases a; cases b; simp only [plt] at *; simp only [Pl.mk.injEq]; omega
theorem srt_lt {l : List Sl} (h : Srt l) {i j : Nat} {x y : Sl} (hij : i < j) (hx : l[i]? = some x) (hy : l[j]? = some y) : plt x.p y.p := by
  obtain ⟨h1, rfl⟩ := List.getElem?_eq_some_iff.1 hx
  obtain ⟨h2, rfl⟩ := List.getElem?_eq_some_iff.1 hy
  exact List.pairwise_iff_getElem.1 h i j h1 h2 hij
theorem pos_of : ∀ {l : List Sl} {p : Pl} {k : Nat}, k ≤ l.length → (∀ i x, i < k → l[i]? = some x → plt x.p p) → (∀ x, l[k]? = some x → ¬ plt x.p p) → pos l p = k
  | [], p, k, hk, _, _ => by simp at hk; subst hk; rfl
  | x :: l, p, 0, _, _, h => by
    have := h x rfl
    unfold pos
    rw [List.takeWhile_cons, if_neg (by simpa using this)]; rfl
  | x :: l, p, k + 1, hk, h1, h2 => by
    have hx := h1 0 x (by omega) rfl
    have ih := pos_of (l := l) (p := p) (k := k) (by simpa using hk) (fun i y hi hy => h1 (i + 1) y (by omega) (by simpa using hy)) (fun y hy => h2 y (by simpa using hy))
    unfold pos at ih ⊢
    rw [List.takeWhile_cons, if_pos (by simpa using hx), List.length_cons, ih]
theorem pos_le (l : List Sl) (p : Pl) : pos l p ≤ l.length := (List.takeWhile_sublist _).length_le
theorem pos_lt : ∀ {l : List Sl} {p : Pl} {i : Nat} {x : Sl}, i < pos l p → l[i]? = some x → plt x.p p
  | [], _, _, _, _, h => by simp at h
  | y :: l, p, i, x, hi, hx => by
    unfold pos at hi
    rw [List.takeWhile_cons] at hi
    split at hi
    · rename_i hy
      cases i with
      | zero => simp at hx; subst hx; simpa using hy
      | succ i => exact pos_lt (l := l) (i := i) (by unfold pos; simpa using hi) (by simpa using hx)
    · simp at hi
theorem pos_at : ∀ {l : List Sl} {p : Pl} {x : Sl}, l[pos l p]? = some x → ¬ plt x.p p
  | [], _, _, h => by simp at h
  | y :: l, p, x, hx => by
    unfold pos at hx
    rw [List.takeWhile_cons] at hx
    split at hx
    · exact pos_at (l := l) (p := p) (by unfold pos; simpa using hx)
    · rename_i hy
      simp at hx; subst hx; simpa using hy
theorem pos_ge {l : List Sl} (h : Srt l) {p : Pl} {i : Nat} {x : Sl} (hi : pos l p ≤ i) (hx : l[i]? = some x) : ¬ plt x.p p := by
  intro q
  have hl := (List.getElem?_eq_some_iff.1 hx).1
  obtain ⟨y, hy⟩ := get_lt (l := l) (i := pos l p) (by omega)
  rcases Nat.lt_or_ge (pos l p) i with h1 | h1
  · exact pos_at hy (plt_trans (srt_lt h h1 hy hx) q)
  · obtain rfl : i = pos l p := by omega
    exact pos_at hx q
theorem pl_iff (p q : Pl) : (p.s = q.s ∧ p.r = q.r ∧ p.c = q.c) ↔ p = q := by cases p; cases q; simp
theorem find_spec (l : List Sl) (p : Pl) (hs : Srt l) (hl : l.length ≤ 100000) : ansOf E F_env_find [.w (.p (.sl 9 (l.map cS))), .a (pP p)] = some ([(false, [.p (.int .i64 (pos l p))]), (false, [.p (.bool (hasP l p))])], []) := by
  refine env_find_ans rfl rfl ?_
  repeat' (first | (simp -implicitDefEqProofs +contextual (maxSteps := 10000000) (disch := first | with_unfolding_all exact id rfl | assumption | ((fail_if_success (with_reducible refine isB ?_)); (first | omega | decide))) only [go_sem]) | refine vIte_i (fun hb => ?_) fun hb => ?_ | refine vAp_i (by kernel_rfl) ?_ | refine vIf_i (fun hb => ?_) fun hb => ?_ | refine oT_Gi (fun hb => ?_) fun hb => ?_)
  refine v_inv_lab (i := 0) (by rfl) (fun x : Nat × Nat => [(0, .w (.p (.sl 9 (l.map cS)))), (3, .box (pP p)), (6, .w (.p (.int .i64 x.1))), (7, .w (.p (.int .i64 x.2)))]) (fun x => x.1 ≤ x.2 ∧ x.2 ≤ l.length ∧ (∀ i y, i < x.1 → l[i]? = some y → plt y.p p) ∧ ∀ i y, x.2 ≤ i → l[i]? = some y → ¬ plt y.p p) (fun x => x.2 - x.1) (0, l.length) rfl ⟨by simp, by simp, fun i y h => by simp at h, fun i y h q => by have := (List.getElem?_eq_some_iff.1 q).1; simp at h; omega⟩ ?_
  rintro ⟨lo, hi⟩ ⟨h1, h2, h3, h4⟩ hih
  simp only at h1 h2 h3 h4 hih ⊢
  by_cases he : lo = hi
  · subst he
    have hp : pos l p = lo := pos_of h2 h3 fun y hy => h4 lo y (Nat.le_refl _) hy
    by_cases hlt : lo < l.length
    · obtain ⟨x, hx⟩ := get_lt hlt
      have c1 : (lo : Int) < l.length := by omega
      have c2 : hasP l p = decide (x.p.s = p.s ∧ x.p.r = p.r ∧ x.p.c = p.c) := by
        unfold hasP
        rw [hp, hx, decide_eq_decide, pl_iff]; simp
      clear hih
      repeat' (first | (simp -implicitDefEqProofs +contextual (maxSteps := 10000000) (disch := first | with_unfolding_all exact id rfl | assumption | ((fail_if_success (with_reducible refine isB ?_)); (first | omega | decide))) only [go_sem, v_n, c1, hx, hp, c2]) | refine vIte_i (fun hb => ?_) fun hb => ?_ | refine vAp_i (by kernel_rfl) ?_ | refine vIf_i (fun hb => ?_) fun hb => ?_ | refine oT_Gi (fun hb => ?_) fun hb => ?_)
      all_goals (refine congrArg (fun b => OV.p (PV.bool b)) ?_; (first | rw [decide_eq_decide] | (symm; first | rw [decide_eq_false_iff_not] | rw [decide_eq_true_eq])); first | omega | grind)
    · have c1 : ¬ (lo : Int) < l.length := by omega
      have c2 : hasP l p = false := by
        unfold hasP
        rw [hp, List.getElem?_eq_none (by omega)]; rfl
      clear hih
      repeat' (first | (simp -implicitDefEqProofs +contextual (maxSteps := 10000000) (disch := first | with_unfolding_all exact id rfl | assumption | ((fail_if_success (with_reducible refine isB ?_)); (first | omega | decide))) only [go_sem, v_n, c1, hp, c2]) | refine vIte_i (fun hb => ?_) fun hb => ?_ | refine vAp_i (by kernel_rfl) ?_ | refine vIf_i (fun hb => ?_) fun hb => ?_ | refine oT_Gi (fun hb => ?_) fun hb => ?_)
  · have hlh : lo < hi := by omega
    have c1 : ¬ (lo : Int) = hi := by omega
    obtain ⟨m, hm⟩ : ∃ m, m = (lo + hi) / 2 := ⟨_, rfl⟩
    have hm1 : lo ≤ m := by omega
    have hm2 : m < hi := by omega
    have c2 : ((lo + hi : Nat) : Int).tdiv 2 = (m : Int) := by rw [hm]; exact Int.ofNat_tdiv (lo + hi) 2
    obtain ⟨x, hx⟩ := get_lt (l := l) (i := m) (by omega)
    have hL := Less_spec x.p p
    by_cases hq : plt x.p p
    · rw [decide_eq_true hq] at hL
      have := hih (m + 1, hi) (by simp; omega) ⟨by simp; omega, h2, fun i y hi hy => by
        simp only at hi
        rcases Nat.lt_or_ge i m with h | h
        · exact plt_trans (srt_lt hs h hy hx) hq
        · obtain rfl : i = m := by omega
          rw [hx] at hy; cases hy; exact hq, h4⟩
      clear hih
      repeat' (first | (simp -implicitDefEqProofs +contextual (maxSteps := 10000000) (disch := first | with_unfolding_all exact id rfl | assumption | ((fail_if_success (with_reducible refine isB ?_)); (first | omega | decide))) only [go_sem, v_n, c1, c2, hx, hL]) | refine vIte_i (fun hb => ?_) fun hb => ?_ | refine vAp_i (by kernel_rfl) ?_ | refine vIf_i (fun hb => ?_) fun hb => ?_ | refine oT_Gi (fun hb => ?_) fun hb => ?_)
      exact this
    · rw [decide_eq_false hq] at hL
      have := hih (lo, m) (by simp; omega) ⟨hm1, by simp; omega, h3, fun i y hi hy => by
        simp only at hi
        rcases Nat.lt_or_ge m i with h | h
        · exact fun q => hq (plt_trans (srt_lt hs h hx hy) q)
        · obtain rfl : i = m := by omega
          rw [hx] at hy; cases hy; exact hq⟩
      clear hih
      repeat' (first | (simp -implicitDefEqProofs +contextual (maxSteps := 10000000) (disch := first | with_unfolding_all exact id rfl | assumption | ((fail_if_success (with_reducible refine isB ?_)); (first | omega | decide))) only [go_sem, v_n, c1, c2, hx, hL]) | refine vIte_i (fun hb => ?_) fun hb => ?_ | refine vAp_i (by kernel_rfl) ?_ | refine vIf_i (fun hb => ?_) fun hb => ?_ | refine oT_Gi (fun hb => ?_) fun hb => ?_)
      exact this
theorem plains_S (l : List Sl) : plains (l.map cS) = l.map oS := by simp [plains, oS]
theorem Clone_S (l : List Sl) (h : l.length ≤ 100000) : ansOf E F_slices_Clone_env_Slot_env_Slot [.w (.p (.sl 9 (l.map cS)))] = some ([(false, [.own 9 (l.map oS)])], []) := by
  refine ans_ext (g := cloneE 9 80) rfl ?_
  rw [← plains_S]
  show (if _ then _ else _) = _
  rw [if_pos ⟨rfl, by simp; omega, by simp; omega⟩]
theorem Delete_S (l : List Sl) (i : Nat) (h : i < l.length) : ansOf E F_slices_Delete_env_Slot_env_Slot [.w (.own 9 (l.map oS)), .w (.p (.int .i64 i)), .w (.p (.int .i64 ((i + 1 : Nat) : Int)))] = some ([(false, [.own 9 ((l.take i ++ l.drop (i + 1)).map oS)])], []) := by
  refine ans_ext (g := delE) rfl ?_
  show (if _ then _ else _) = _
  rw [if_pos ⟨rfl, oS_whole l, by omega, by omega, by simp; omega⟩]
  simp
theorem Insert_S (l : List Sl) (i : Nat) (x : Sl) (h : i ≤ l.length) (hl : l.length ≤ 100000) : ansOf E F_slices_Insert_env_Slot_env_Slot [.w (.own 9 (l.map oS)), .w (.p (.int .i64 i)), .w (.own 9 [oS x])] = some ([(false, [.own 9 ((l.take i ++ [x] ++ l.drop i).map oS)])], []) := by
  refine ans_ext (g := insE) rfl ?_
  show (if _ then _ else _) = _
  rw [if_pos ⟨rfl, rfl, oS_plain l, oS_plain [x], by omega, by simp; omega, by simp, by simp; omega⟩]
  simp
end Go.Pv.Cb
