/- What the functions that EnvTakes reaches compute: a part. -/
import Derived.Test.YtfckadoadmdgjaaDoorXL
set_option linter.all false
namespace Go.Pv.Cb
set_option linter.unusedSimpArgs false
open Go.Pv
set_option maxRecDepth 10000
set_option maxHeartbeats 4000000
structure Pl where
  s : Int
  r : Int
  c : Int
  deriving DecidableEq, Inhabited
structure Sl where
  p : Pl
  v : Vl
  deriving DecidableEq, Inhabited
def cS (x : Sl) : List PV := [.int .i64 x.p.s, .int .i64 x.p.r, .int .i64 x.p.c, .int .i64 x.v.k, .int .i64 x.v.m, .int .i64 x.v.c, .str x.v.s, .bool x.v.b, .int .i64 x.v.e]
def cP (p : Pl) : List PV := [.int .i64 p.s, .int .i64 p.r, .int .i64 p.c]
def oS (x : Sl) : List OV := (cS x).map OV.p
abbrev pP (p : Pl) : List OV := [.p (.int .i64 p.s), .p (.int .i64 p.r), .p (.int .i64 p.c)]
abbrev pV (v : Vl) : List OV := [.p (.int .i64 v.k), .p (.int .i64 v.m), .p (.int .i64 v.c), .p (.str v.s), .p (.bool v.b), .p (.int .i64 v.e)]
theorem cS_len (x : Sl) : (cS x).length = 9 := rfl
theorem cS_at (x : Sl) : cellsAt ((cS x).map OV.p) 0 9 = some (oS x) ∧ cellsAt ((cS x).map OV.p) 0 3 = some (pP x.p) ∧ cellsAt ((cS x).map OV.p) 3 6 = some (pV x.v) ∧ cellsAt ((cS x).map OV.p) 3 1 = some [.p (.int .i64 x.v.k)] := ⟨rfl, rfl, rfl, rfl⟩
theorem oS_put (x : Sl) (u : Vl) : cellsPut (oS x) 3 (pV u) = some (oS ⟨x.p, u⟩) := rfl
theorem oS_eq (x : Sl) : oS x = [.p (.int .i64 x.p.s), .p (.int .i64 x.p.r), .p (.int .i64 x.p.c), .p (.int .i64 x.v.k), .p (.int .i64 x.v.m), .p (.int .i64 x.v.c), .p (.str x.v.s), .p (.bool x.v.b), .p (.int .i64 x.v.e)] := rfl
theorem cS_dt (x : Sl) : (cS x).take 9 = cS x ∧ (cS x).take 3 = [.int .i64 x.p.s, .int .i64 x.p.r, .int .i64 x.p.c] ∧ (cS x).drop 3 = [.int .i64 x.v.k, .int .i64 x.v.m, .int .i64 x.v.c, .str x.v.s, .bool x.v.b, .int .i64 x.v.e] := ⟨rfl, rfl, rfl⟩
theorem oS_plain (l : List Sl) : (l.map oS).all plainAll = true := by simp [plainAll, oS, OV.plain]
theorem oS_frz : ∀ l : List Sl, OV.frzss (l.map oS) = l.map cS
  | [] => rfl
  | x :: l => by rw [List.map_cons, OV.frzss, oS_frz l, oS, frzs_plain]; rfl
theorem oS_whole : ∀ l : List Sl, OV.wholess (l.map oS) = true
  | [] => rfl
  | x :: l => by rw [List.map_cons, OV.wholess, oS_whole l, oS, wholes_plain]; rfl
attribute [go_sem ↓] cS_at cS_dt
attribute [go_sem] cS_at cS_len oS_put oS_frz oS_whole
theorem isNaN_spec (a : Int) : ansOf E F_cmp_isNaN_int [.w (.p (.int .i64 a))] = some ([(false, [.p (.bool false)])], []) := by
  refine cmp_isNaN_int_ans rfl rfl ?_
  repeat' (first | (simp -implicitDefEqProofs +contextual (maxSteps := 10000000) (disch := first | with_unfolding_all exact id rfl | assumption | ((fail_if_success (with_reducible refine isB ?_)); (first | omega | decide))) only [go_sem, v_n]) | refine vIte_i (fun hb => ?_) fun hb => ?_ | refine vAp_i (by kernel_rfl) ?_ | refine vIf_i (fun hb => ?_) fun hb => ?_ | refine oT_Gi (fun hb => ?_) fun hb => ?_)
def cmpF (a b : Int) : Int := if a < b then -1 else if b < a then 1 else 0
theorem cmp_spec (a b : Int) : ansOf E F_cmp_Compare_int [.w (.p (.int .i64 a)), .w (.p (.int .i64 b))] = some ([(false, [.p (.int .i64 (cmpF a b))])], []) := by
  unfold cmpF
  by_cases h1 : a < b
  · rw [if_pos h1]
    refine cmp_Compare_int_ans rfl rfl ?_
    repeat' (first | (simp -implicitDefEqProofs +contextual (maxSteps := 10000000) (disch := first | with_unfolding_all exact id rfl | assumption | ((fail_if_success (with_reducible refine isB ?_)); (first | omega | decide))) only [go_sem, v_n, isNaN_spec, h1]) | refine vIte_i (fun hb => ?_) fun hb => ?_ | refine vAp_i (by kernel_rfl) ?_ | refine vIf_i (fun hb => ?_) fun hb => ?_ | refine oT_Gi (fun hb => ?_) fun hb => ?_)
  · rw [if_neg h1]
    by_cases h2 : b < a
    · rw [if_pos h2]
      refine cmp_Compare_int_ans rfl rfl ?_
      repeat' (first | (simp -implicitDefEqProofs +contextual (maxSteps := 10000000) (disch := first | with_unfolding_all exact id rfl | assumption | ((fail_if_success (with_reducible refine isB ?_)); (first | omega | decide))) only [go_sem, v_n, isNaN_spec, h1, h2]) | refine vIte_i (fun hb => ?_) fun hb => ?_ | refine vAp_i (by kernel_rfl) ?_ | refine vIf_i (fun hb => ?_) fun hb => ?_ | refine oT_Gi (fun hb => ?_) fun hb => ?_)
    · rw [if_neg h2]
      refine cmp_Compare_int_ans rfl rfl ?_
      repeat' (first | (simp -implicitDefEqProofs +contextual (maxSteps := 10000000) (disch := first | with_unfolding_all exact id rfl | assumption | ((fail_if_success (with_reducible refine isB ?_)); (first | omega | decide))) only [go_sem, v_n, isNaN_spec, h1, h2]) | refine vIte_i (fun hb => ?_) fun hb => ?_ | refine vAp_i (by kernel_rfl) ?_ | refine vIf_i (fun hb => ?_) fun hb => ?_ | refine oT_Gi (fun hb => ?_) fun hb => ?_)
theorem or_spec (a b c : Int) : ansOf E F_cmp_Or_int [.w (.p (.sl 1 [[.int .i64 a], [.int .i64 b], [.int .i64 c]]))] = some ([(false, [.p (.int .i64 (if a = 0 then if b = 0 then c else b else a))])], []) := by
  by_cases h1 : a = 0
  · rw [if_pos h1]
    by_cases h2 : b = 0
    · rw [if_pos h2]
      by_cases h3 : c = 0
      · subst h1; subst h2; subst h3
        refine cmp_Or_int_ans rfl rfl ?_
        repeat' (first | (simp -implicitDefEqProofs +contextual (maxSteps := 10000000) (disch := first | with_unfolding_all exact id rfl | assumption | ((fail_if_success (with_reducible refine isB ?_)); (first | omega | decide))) only [go_sem, v_n]) | refine vIte_i (fun hb => ?_) fun hb => ?_ | refine vAp_i (by kernel_rfl) ?_ | refine vIf_i (fun hb => ?_) fun hb => ?_ | refine oT_Gi (fun hb => ?_) fun hb => ?_ | refine v_loop (a := cmp_Or_int_l0) ?_)
      · subst h1; subst h2
        refine cmp_Or_int_ans rfl rfl ?_
        repeat' (first | (simp -implicitDefEqProofs +contextual (maxSteps := 10000000) (disch := first | with_unfolding_all exact id rfl | assumption | ((fail_if_success (with_reducible refine isB ?_)); (first | omega | decide))) only [go_sem, v_n, h3]) | refine vIte_i (fun hb => ?_) fun hb => ?_ | refine vAp_i (by kernel_rfl) ?_ | refine vIf_i (fun hb => ?_) fun hb => ?_ | refine oT_Gi (fun hb => ?_) fun hb => ?_ | refine v_loop (a := cmp_Or_int_l0) ?_)
    · rw [if_neg h2]
      subst h1
      refine cmp_Or_int_ans rfl rfl ?_
      repeat' (first | (simp -implicitDefEqProofs +contextual (maxSteps := 10000000) (disch := first | with_unfolding_all exact id rfl | assumption | ((fail_if_success (with_reducible refine isB ?_)); (first | omega | decide))) only [go_sem, v_n, h2]) | refine vIte_i (fun hb => ?_) fun hb => ?_ | refine vAp_i (by kernel_rfl) ?_ | refine vIf_i (fun hb => ?_) fun hb => ?_ | refine oT_Gi (fun hb => ?_) fun hb => ?_ | refine v_loop (a := cmp_Or_int_l0) ?_)
  · rw [if_neg h1]
    refine cmp_Or_int_ans rfl rfl ?_
    repeat' (first | (simp -implicitDefEqProofs +contextual (maxSteps := 10000000) (disch := first | with_unfolding_all exact id rfl | assumption | ((fail_if_success (with_reducible refine isB ?_)); (first | omega | decide))) only [go_sem, v_n, h1]) | refine vIte_i (fun hb => ?_) fun hb => ?_ | refine vAp_i (by kernel_rfl) ?_ | refine vIf_i (fun hb => ?_) fun hb => ?_ | refine oT_Gi (fun hb => ?_) fun hb => ?_ | refine v_loop (a := cmp_Or_int_l0) ?_)
abbrev plt (p q : Pl) : Prop := p.s < q.s ∨ (p.s = q.s ∧ (p.r < q.r ∨ (p.r = q.r ∧ p.c < q.c)))
def ordF (p q : Pl) : Int := if cmpF p.s q.s = 0 then if cmpF p.r q.r = 0 then cmpF p.c q.c else cmpF p.r q.r else cmpF p.s q.s
theorem order_spec (p q : Pl) : ansOf E F_env_order [.a (pP p), .a (pP q)] = some ([(false, [.p (.int .i64 (ordF p q))])], []) := by
  refine env_order_ans rfl rfl ?_
  repeat' (first | (simp -implicitDefEqProofs +contextual (maxSteps := 10000000) (disch := first | with_unfolding_all exact id rfl | assumption | ((fail_if_success (with_reducible refine isB ?_)); (first | omega | decide))) only [go_sem, v_n, cmp_spec, or_spec]) | refine vIte_i (fun hb => ?_) fun hb => ?_ | refine vAp_i (by kernel_rfl) ?_ | refine vIf_i (fun hb => ?_) fun hb => ?_ | refine oT_Gi (fun hb => ?_) fun hb => ?_)
  rfl
theorem ord_lt (p q : Pl) : ordF p q < 0 ↔ plt p q := by
  unfold ordF cmpF plt
  (repeat' split) <;> constructor <;> intro h <;> omega
theorem Less_spec (p q : Pl) : ansOf E F_env_Less [.a (pP p), .a (pP q)] = some ([(false, [.p (.bool (decide (plt p q)))])], []) := by
  have h := order_spec p q
  have e : decide (ordF p q < 0) = decide (plt p q) := by rw [decide_eq_decide]; exact ord_lt p q
  refine env_Less_ans rfl rfl ?_
  repeat' (first | (simp -implicitDefEqProofs +contextual (maxSteps := 10000000) (disch := first | with_unfolding_all exact id rfl | assumption | ((fail_if_success (with_reducible refine isB ?_)); (first | omega | decide))) only [go_sem, v_n, h, e]) | refine vIte_i (fun hb => ?_) fun hb => ?_ | refine vAp_i (by kernel_rfl) ?_ | refine vIf_i (fun hb => ?_) fun hb => ?_ | refine oT_Gi (fun hb => ?_) fun hb => ?_)
theorem egood_spec (n : Int) (x y : PV) (p : Pl) : ansOf E F_env_good [.a [.p (.int .i64 n), .p x, .p y], .a (pP p)] = some ([(false, [.p (.bool (decide (0 ≤ p.s ∧ p.s < n ∧ 0 ≤ p.r ∧ p.r < 65536 ∧ 0 ≤ p.c ∧ p.c < 256)))])], []) := by
  by_cases h1 : 0 ≤ p.s
  · by_cases h2 : p.s < n
    · refine env_good_ans rfl rfl ?_
      repeat' (first | (simp -implicitDefEqProofs +contextual (maxSteps := 10000000) (disch := first | with_unfolding_all exact id rfl | assumption | ((fail_if_success (with_reducible refine isB ?_)); (first | omega | decide))) only [go_sem, v_n, h1, h2, good_spec]) | refine vIte_i (fun hb => ?_) fun hb => ?_ | refine vAp_i (by kernel_rfl) ?_ | refine vIf_i (fun hb => ?_) fun hb => ?_ | refine oT_Gi (fun hb => ?_) fun hb => ?_)
    · refine env_good_ans rfl rfl ?_
      repeat' (first | (simp -implicitDefEqProofs +contextual (maxSteps := 10000000) (disch := first | with_unfolding_all exact id rfl | assumption | ((fail_if_success (with_reducible refine isB ?_)); (first | omega | decide))) only [go_sem, v_n, h1, h2, good_spec]) | refine vIte_i (fun hb => ?_) fun hb => ?_ | refine vAp_i (by kernel_rfl) ?_ | refine vIf_i (fun hb => ?_) fun hb => ?_ | refine oT_Gi (fun hb => ?_) fun hb => ?_)
  · refine env_good_ans rfl rfl ?_
    repeat' (first | (simp -implicitDefEqProofs +contextual (maxSteps := 10000000) (disch := first | with_unfolding_all exact id rfl | assumption | ((fail_if_success (with_reducible refine isB ?_)); (first | omega | decide))) only [go_sem, v_n, h1, good_spec]) | refine vIte_i (fun hb => ?_) fun hb => ?_ | refine vAp_i (by kernel_rfl) ?_ | refine vIf_i (fun hb => ?_) fun hb => ?_ | refine oT_Gi (fun hb => ?_) fun hb => ?_)
end Go.Pv.Cb
