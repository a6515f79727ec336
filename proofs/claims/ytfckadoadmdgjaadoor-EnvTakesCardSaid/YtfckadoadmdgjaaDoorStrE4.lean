/- What the functions that EnvTakes reaches compute: a part. -/
import Derived.Test.YtfckadoadmdgjaaDoorStrE1
set_option linter.all false
namespace Go.Pv.Cb
set_option linter.unusedSimpArgs false
open Go.Pv
set_option maxRecDepth 10000
set_option maxHeartbeats 8000000
theorem Runes_cb (s p t : List UInt8) (A : List Int) (hse : s = p ++ t) (hs : s.length ≤ 1000000) (hne : t ≠ []) (hd : Go.Lib.decodeL t = (65533, 1)) (hol : A.length ≤ 1000000) (Q1 : Asc → Prop) (R : Asc → Prop) (Q : Ex → Asc → Prop)
    (hQ : Q .ret [(2, .w (.own 1 [])), (3, .w (.p (.bool false)))]) (hQ' : Q .ret [(3, .w (.p (.bool false))), (2, .w (.own 1 []))]) :
    V E 100 ref7_Runes_K ref7_Runes_l1 [(0, .w (.p (.str s))), (4, .w (.own 1 (plains (eI A)))), (5, .w (.p (.int .i64 p.length)))] (thenS Q1 (blockS 0 (thenS R Q))) := by
  have hsl := congrArg List.length hse
  rw [List.length_append] at hsl
  have C := cast_lit p.length
  have htl : 0 < t.length := List.length_pos_iff.2 hne
  have hlt : ((p).length : Int) < s.length := by omega
  have hB := fun k hk => at_tail hse k hk
  rw [Go.Lib.decodeL_N] at hd
  have hs4 := bad_shape hd
  have B0 := hB 0 htl
  rw [Nat.add_zero] at B0
  have g0 := u8_lt (t.getD 0 0)
  have g1 := u8_lt (t.getD 1 0)
  have g2 := u8_lt (t.getD 2 0)
  have g3 := u8_lt (t.getD 3 0)
  have B1 := hB 1
  have B2 := hB 2
  have B3 := hB 3
  clear hB hd
  generalize t.getD 0 0 = b0 at *
  generalize t.getD 1 0 = b1 at *
  generalize t.getD 2 0 = b2 at *
  generalize t.getD 3 0 = b3 at *
  obtain ⟨q1, q2, q3, q4⟩ := hs4
  have c1 : ¬ (b0.toNat : Int) < 128 := by omega
  have X : ∀ l1 : Asc, (keepS [2, 3] l1 = [(2, .w (.own 1 [])), (3, .w (.p (.bool false)))] ∨ keepS [2, 3] l1 = [(3, .w (.p (.bool false))), (2, .w (.own 1 []))]) → True := fun _ _ => trivial
  clear X
  by_cases k1 : b0.toNat < 194 ∨ 245 ≤ b0.toNat
  · clear q1 q2 q3 q4
    by_cases k2 : (b0.toNat : Int) < 194
    · have c2 : ¬ (194 : Int) ≤ b0.toNat := by omega
      have c3 : ¬ (224 : Int) ≤ b0.toNat := by omega
      have c4 : ¬ (240 : Int) ≤ b0.toNat := by omega
      repeat' (first | (simp -implicitDefEqProofs +contextual (maxSteps := 10000000) (disch := first | with_unfolding_all exact id rfl | assumption | ((fail_if_success (with_reducible refine isB ?_)); (first | omega | decide))) only [go_sem, v_n, hlt, B0, c1, c2, c3, c4]) | refine vIte_i (fun hb => ?_) fun hb => ?_ | refine vAp_i (by kernel_rfl) ?_ | refine vIf_i (fun hb => ?_) fun hb => ?_ | refine oT_Gi (fun hb => ?_) fun hb => ?_)
      (first | exact hQ | exact hQ')
    · have c2 : (194 : Int) ≤ b0.toNat := by omega
      have c3 : (224 : Int) ≤ b0.toNat := by omega
      have c4 : (240 : Int) ≤ b0.toNat := by omega
      have c5 : ¬ (b0.toNat : Int) < 224 := by omega
      have c6 : ¬ (b0.toNat : Int) < 240 := by omega
      have c7 : ¬ (b0.toNat : Int) < 245 := by omega
      repeat' (first | (simp -implicitDefEqProofs +contextual (maxSteps := 10000000) (disch := first | with_unfolding_all exact id rfl | assumption | ((fail_if_success (with_reducible refine isB ?_)); (first | omega | decide))) only [go_sem, v_n, hlt, B0, c1, c2, c3, c4, c5, c6, c7]) | refine vIte_i (fun hb => ?_) fun hb => ?_ | refine vAp_i (by kernel_rfl) ?_ | refine vIf_i (fun hb => ?_) fun hb => ?_ | refine oT_Gi (fun hb => ?_) fun hb => ?_)
      (first | exact hQ | exact hQ')
  by_cases k2 : b0.toNat < 224
  · have c2 : (194 : Int) ≤ b0.toNat := by omega
    have c3 : (b0.toNat : Int) < 224 := by omega
    by_cases m0 : t.length ≤ 1
    · have m0' : (s.length : Int) - p.length ≤ 1 := by omega
      clear q1 q2 q3 q4
      repeat' (first | (simp -implicitDefEqProofs +contextual (maxSteps := 10000000) (disch := first | with_unfolding_all exact id rfl | assumption | ((fail_if_success (with_reducible refine isB ?_)); (first | omega | decide))) only [go_sem, v_n, hlt, B0, c1, c2, c3, m0']) | refine vIte_i (fun hb => ?_) fun hb => ?_ | refine vAp_i (by kernel_rfl) ?_ | refine vIf_i (fun hb => ?_) fun hb => ?_ | refine oT_Gi (fun hb => ?_) fun hb => ?_)
      (first | exact hQ | exact hQ')
    have m0' : ¬ (s.length : Int) - p.length ≤ 1 := by omega
    have A1 := B1 (by omega)
    by_cases n1 : ¬ b1.toNat / 64 = 2
    · have n1' : ¬ (b1.toNat : Int) / 64 * 64 = 128 := by omega
      clear q1 q2 q3 q4
      repeat' (first | (simp -implicitDefEqProofs +contextual (maxSteps := 10000000) (disch := first | with_unfolding_all exact id rfl | assumption | ((fail_if_success (with_reducible refine isB ?_)); (first | omega | decide))) only [go_sem, v_n, hlt, B0, c1, c2, c3, m0', C, A1, n1']) | refine vIte_i (fun hb => ?_) fun hb => ?_ | refine vAp_i (by kernel_rfl) ?_ | refine vIf_i (fun hb => ?_) fun hb => ?_ | refine oT_Gi (fun hb => ?_) fun hb => ?_ | refine v_loop (a := ref7_Runes_l0) ?_)
      (first | exact hQ | exact hQ')
    have n1' : (b1.toNat : Int) / 64 * 64 = 128 := by omega
    obtain ⟨v, hV⟩ : ∃ v : Int, (b0.toNat : Int) % 32 * 64 + (b1.toNat : Int) % 64 = v := ⟨_, rfl⟩
    have hr : 0 ≤ v ∧ v ≤ 10000000 := by omega
    have c9 : v < 128 := by clear q3 q4; omega
    clear q1 q2 q3 q4
    repeat' (first | (simp -implicitDefEqProofs +contextual (maxSteps := 10000000) (disch := first | with_unfolding_all exact id rfl | assumption | ((fail_if_success (with_reducible refine isB ?_)); (first | omega | decide))) only [go_sem, v_n, hlt, B0, c1, c2, c3, m0', C, A1, n1', hV, c9]) | refine vIte_i (fun hb => ?_) fun hb => ?_ | refine vAp_i (by kernel_rfl) ?_ | refine vIf_i (fun hb => ?_) fun hb => ?_ | refine oT_Gi (fun hb => ?_) fun hb => ?_ | refine v_loop (a := ref7_Runes_l0) ?_)
    (first | exact hQ | exact hQ')
  by_cases k3 : b0.toNat < 240
  · have c2 : (194 : Int) ≤ b0.toNat := by omega
    have c3 : ¬ (b0.toNat : Int) < 224 := by omega
    have c5 : (224 : Int) ≤ b0.toNat := by omega
    have c6 : (b0.toNat : Int) < 240 := by omega
    by_cases m0 : t.length ≤ 2
    · have m0' : (s.length : Int) - p.length ≤ 2 := by omega
      clear q1 q2 q3 q4
      repeat' (first | (simp -implicitDefEqProofs +contextual (maxSteps := 10000000) (disch := first | with_unfolding_all exact id rfl | assumption | ((fail_if_success (with_reducible refine isB ?_)); (first | omega | decide))) only [go_sem, v_n, hlt, B0, c1, c2, c3, c5, c6, m0']) | refine vIte_i (fun hb => ?_) fun hb => ?_ | refine vAp_i (by kernel_rfl) ?_ | refine vIf_i (fun hb => ?_) fun hb => ?_ | refine oT_Gi (fun hb => ?_) fun hb => ?_)
      (first | exact hQ | exact hQ')
    have m0' : ¬ (s.length : Int) - p.length ≤ 2 := by omega
    have A1 := B1 (by omega)
    have A2 := B2 (by omega)
    by_cases n1 : ¬ b1.toNat / 64 = 2
    · have n1' : ¬ (b1.toNat : Int) / 64 * 64 = 128 := by omega
      clear q1 q2 q3 q4
      repeat' (first | (simp -implicitDefEqProofs +contextual (maxSteps := 10000000) (disch := first | with_unfolding_all exact id rfl | assumption | ((fail_if_success (with_reducible refine isB ?_)); (first | omega | decide))) only [go_sem, v_n, hlt, B0, c1, c2, c3, c5, c6, m0', C, A1, n1']) | refine vIte_i (fun hb => ?_) fun hb => ?_ | refine vAp_i (by kernel_rfl) ?_ | refine vIf_i (fun hb => ?_) fun hb => ?_ | refine oT_Gi (fun hb => ?_) fun hb => ?_ | refine v_loop (a := ref7_Runes_l0) ?_)
      (first | exact hQ | exact hQ')
    have n1' : (b1.toNat : Int) / 64 * 64 = 128 := by omega
    by_cases n2 : ¬ b2.toNat / 64 = 2
    · have n2' : ¬ (b2.toNat : Int) / 64 * 64 = 128 := by omega
      clear q1 q2 q3 q4
      repeat' (first | (simp -implicitDefEqProofs +contextual (maxSteps := 10000000) (disch := first | with_unfolding_all exact id rfl | assumption | ((fail_if_success (with_reducible refine isB ?_)); (first | omega | decide))) only [go_sem, v_n, hlt, B0, c1, c2, c3, c5, c6, m0', C, A1, n1', A2, n2']) | refine vIte_i (fun hb => ?_) fun hb => ?_ | refine vAp_i (by kernel_rfl) ?_ | refine vIf_i (fun hb => ?_) fun hb => ?_ | refine oT_Gi (fun hb => ?_) fun hb => ?_ | refine v_loop (a := ref7_Runes_l0) ?_)
      (first | exact hQ | exact hQ')
    have n2' : (b2.toNat : Int) / 64 * 64 = 128 := by omega
    obtain ⟨v, hV⟩ : ∃ v : Int, ((b0.toNat : Int) % 16 * 64 + (b1.toNat : Int) % 64) * 64 + (b2.toNat : Int) % 64 = v := ⟨_, rfl⟩
    have hr : 0 ≤ v ∧ v ≤ 10000000 := by omega
    have hz : v < 2048 ∨ (¬ v < 2048 ∧ 55296 ≤ v ∧ v < 57344) := by clear q2 q4; omega
    clear q1 q2 q3 q4
    rcases hz with c9 | ⟨c9, c10, c11⟩
    · repeat' (first | (simp -implicitDefEqProofs +contextual (maxSteps := 10000000) (disch := first | with_unfolding_all exact id rfl | assumption | ((fail_if_success (with_reducible refine isB ?_)); (first | omega | decide))) only [go_sem, v_n, hlt, B0, c1, c2, c3, c5, c6, m0', C, A1, n1', A2, n2', hV, c9]) | refine vIte_i (fun hb => ?_) fun hb => ?_ | refine vAp_i (by kernel_rfl) ?_ | refine vIf_i (fun hb => ?_) fun hb => ?_ | refine oT_Gi (fun hb => ?_) fun hb => ?_ | refine v_loop (a := ref7_Runes_l0) ?_)
      (first | exact hQ | exact hQ')
    · repeat' (first | (simp -implicitDefEqProofs +contextual (maxSteps := 10000000) (disch := first | with_unfolding_all exact id rfl | assumption | ((fail_if_success (with_reducible refine isB ?_)); (first | omega | decide))) only [go_sem, v_n, hlt, B0, c1, c2, c3, c5, c6, m0', C, A1, n1', A2, n2', hV, c9, c10, c11]) | refine vIte_i (fun hb => ?_) fun hb => ?_ | refine vAp_i (by kernel_rfl) ?_ | refine vIf_i (fun hb => ?_) fun hb => ?_ | refine oT_Gi (fun hb => ?_) fun hb => ?_ | refine v_loop (a := ref7_Runes_l0) ?_)
      (first | exact hQ | exact hQ')
  · have c2 : (194 : Int) ≤ b0.toNat := by omega
    have c3 : ¬ (b0.toNat : Int) < 224 := by omega
    have c5 : (224 : Int) ≤ b0.toNat := by omega
    have c6 : ¬ (b0.toNat : Int) < 240 := by omega
    have c7 : (240 : Int) ≤ b0.toNat := by omega
    have c8 : (b0.toNat : Int) < 245 := by omega
    by_cases m0 : t.length ≤ 3
    · have m0' : (s.length : Int) - p.length ≤ 3 := by omega
      clear q1 q2 q3 q4
      repeat' (first | (simp -implicitDefEqProofs +contextual (maxSteps := 10000000) (disch := first | with_unfolding_all exact id rfl | assumption | ((fail_if_success (with_reducible refine isB ?_)); (first | omega | decide))) only [go_sem, v_n, hlt, B0, c1, c2, c3, c5, c6, c7, c8, m0']) | refine vIte_i (fun hb => ?_) fun hb => ?_ | refine vAp_i (by kernel_rfl) ?_ | refine vIf_i (fun hb => ?_) fun hb => ?_ | refine oT_Gi (fun hb => ?_) fun hb => ?_)
      (first | exact hQ | exact hQ')
    have m0' : ¬ (s.length : Int) - p.length ≤ 3 := by omega
    have A1 := B1 (by omega)
    have A2 := B2 (by omega)
    have A3 := B3 (by omega)
    by_cases n1 : ¬ b1.toNat / 64 = 2
    · have n1' : ¬ (b1.toNat : Int) / 64 * 64 = 128 := by omega
      clear q1 q2 q3 q4
      repeat' (first | (simp -implicitDefEqProofs +contextual (maxSteps := 10000000) (disch := first | with_unfolding_all exact id rfl | assumption | ((fail_if_success (with_reducible refine isB ?_)); (first | omega | decide))) only [go_sem, v_n, hlt, B0, c1, c2, c3, c5, c6, c7, c8, m0', C, A1, n1']) | refine vIte_i (fun hb => ?_) fun hb => ?_ | refine vAp_i (by kernel_rfl) ?_ | refine vIf_i (fun hb => ?_) fun hb => ?_ | refine oT_Gi (fun hb => ?_) fun hb => ?_ | refine v_loop (a := ref7_Runes_l0) ?_)
      (first | exact hQ | exact hQ')
    have n1' : (b1.toNat : Int) / 64 * 64 = 128 := by omega
    by_cases n2 : ¬ b2.toNat / 64 = 2
    · have n2' : ¬ (b2.toNat : Int) / 64 * 64 = 128 := by omega
      clear q1 q2 q3 q4
      repeat' (first | (simp -implicitDefEqProofs +contextual (maxSteps := 10000000) (disch := first | with_unfolding_all exact id rfl | assumption | ((fail_if_success (with_reducible refine isB ?_)); (first | omega | decide))) only [go_sem, v_n, hlt, B0, c1, c2, c3, c5, c6, c7, c8, m0', C, A1, n1', A2, n2']) | refine vIte_i (fun hb => ?_) fun hb => ?_ | refine vAp_i (by kernel_rfl) ?_ | refine vIf_i (fun hb => ?_) fun hb => ?_ | refine oT_Gi (fun hb => ?_) fun hb => ?_ | refine v_loop (a := ref7_Runes_l0) ?_)
      (first | exact hQ | exact hQ')
    have n2' : (b2.toNat : Int) / 64 * 64 = 128 := by omega
    by_cases n3 : ¬ b3.toNat / 64 = 2
    · have n3' : ¬ (b3.toNat : Int) / 64 * 64 = 128 := by omega
      clear q1 q2 q3 q4
      repeat' (first | (simp -implicitDefEqProofs +contextual (maxSteps := 10000000) (disch := first | with_unfolding_all exact id rfl | assumption | ((fail_if_success (with_reducible refine isB ?_)); (first | omega | decide))) only [go_sem, v_n, hlt, B0, c1, c2, c3, c5, c6, c7, c8, m0', C, A1, n1', A2, n2', A3, n3']) | refine vIte_i (fun hb => ?_) fun hb => ?_ | refine vAp_i (by kernel_rfl) ?_ | refine vIf_i (fun hb => ?_) fun hb => ?_ | refine oT_Gi (fun hb => ?_) fun hb => ?_ | refine v_loop (a := ref7_Runes_l0) ?_)
      (first | exact hQ | exact hQ')
    have n3' : (b3.toNat : Int) / 64 * 64 = 128 := by omega
    obtain ⟨v, hV⟩ : ∃ v : Int, (((b0.toNat : Int) % 8 * 64 + (b1.toNat : Int) % 64) * 64 + (b2.toNat : Int) % 64) * 64 + (b3.toNat : Int) % 64 = v := ⟨_, rfl⟩
    have hr : 0 ≤ v ∧ v ≤ 10000000 := by omega
    have hz : v < 65536 ∨ (¬ v < 65536 ∧ 55296 ≤ v ∧ ¬ v < 57344 ∧ 1114111 < v) := by clear q2 q3; omega
    clear q1 q2 q3 q4
    rcases hz with c9 | ⟨c9, c10, c11, c12⟩
    · repeat' (first | (simp -implicitDefEqProofs +contextual (maxSteps := 10000000) (disch := first | with_unfolding_all exact id rfl | assumption | ((fail_if_success (with_reducible refine isB ?_)); (first | omega | decide))) only [go_sem, v_n, hlt, B0, c1, c2, c3, c5, c6, c7, c8, m0', C, A1, n1', A2, n2', A3, n3', hV, c9]) | refine vIte_i (fun hb => ?_) fun hb => ?_ | refine vAp_i (by kernel_rfl) ?_ | refine vIf_i (fun hb => ?_) fun hb => ?_ | refine oT_Gi (fun hb => ?_) fun hb => ?_ | refine v_loop (a := ref7_Runes_l0) ?_)
      (first | exact hQ | exact hQ')
    · repeat' (first | (simp -implicitDefEqProofs +contextual (maxSteps := 10000000) (disch := first | with_unfolding_all exact id rfl | assumption | ((fail_if_success (with_reducible refine isB ?_)); (first | omega | decide))) only [go_sem, v_n, hlt, B0, c1, c2, c3, c5, c6, c7, c8, m0', C, A1, n1', A2, n2', A3, n3', hV, c9, c10, c11, c12]) | refine vIte_i (fun hb => ?_) fun hb => ?_ | refine vAp_i (by kernel_rfl) ?_ | refine vIf_i (fun hb => ?_) fun hb => ?_ | refine oT_Gi (fun hb => ?_) fun hb => ?_ | refine v_loop (a := ref7_Runes_l0) ?_)
      (first | exact hQ | exact hQ')
end Go.Pv.Cb
