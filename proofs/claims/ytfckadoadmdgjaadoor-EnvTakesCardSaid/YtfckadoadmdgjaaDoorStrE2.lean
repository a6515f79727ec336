/- What the functions that EnvTakes reaches compute: a part. -/
import Derived.Test.YtfckadoadmdgjaaDoorStrE1
set_option linter.all false
namespace Go.Pv.Cb
set_option linter.unusedSimpArgs false
open Go.Pv
set_option maxRecDepth 10000
set_option maxHeartbeats 8000000
theorem Runes_c3 (s p r : List UInt8) (A : List Int) (v : Nat) (hv : okR v) (h1 : ¬ v < 128) (h2 : ¬ v < 2048) (h3 : v < 65536) (hm : s = p ++ (enc1 v ++ r)) (hs : s.length ≤ 1000000) (hA : A.length ≤ 1000000) (Q : Ex → Asc → Prop) (Q2 : Ex → Asc → Prop)
    (hih : @LpG ref7_Runes_l1 ⟨E, 100, ref7_Runes_K, [(0, .w (.p (.str s))), (4, .w (.own 1 (plains (eI (A ++ [(v : Int)]))))), (5, .w (.p (.int .i64 ((p.length + (enc1 v).length : Nat) : Int))))], Q⟩) :
    V E 100 ref7_Runes_K ref7_Runes_l1 [(0, .w (.p (.str s))), (4, .w (.own 1 (plains (eI A)))), (5, .w (.p (.int .i64 p.length)))] (thenS (fun l1 => @LpG ref7_Runes_l1 ⟨E, 100, ref7_Runes_K, l1, Q⟩) Q2) := by
  have hml := congrArg List.length hm
  rw [List.length_append, List.length_append] at hml
  have hB := fun k hk => at_bytes hm k hk
  unfold okR at hv
  have e : enc1 v = [UInt8.ofNat (224 + v / 4096), UInt8.ofNat (128 + v / 64 % 64), UInt8.ofNat (128 + v % 64)] := by rw [enc1, if_neg h1, if_neg h2, if_pos h3]
  rw [e] at hml hih hB
  have B0 := hB 0 (by simp)
  have B1 := hB 1 (by simp)
  have B2 := hB 2 (by simp)
  have T0 := toNat_of (n := 224 + v / 4096) (by omega)
  have T1 := toNat_of (n := 128 + v / 64 % 64) (by omega)
  have T2 := toNat_of (n := 128 + v % 64) (by omega)
  generalize UInt8.ofNat (224 + v / 4096) = b0 at *
  generalize UInt8.ofNat (128 + v / 64 % 64) = b1 at *
  generalize UInt8.ofNat (128 + v % 64) = b2 at *
  simp only [Nat.add_zero, List.getElem?_cons_zero, List.getElem?_cons_succ, List.length_cons, List.length_nil, Nat.zero_add] at B0 B1 B2 hml hih
  have hlt : (p.length : Int) < s.length := by omega
  have hV : ((b0.toNat : Int) % 16 * 64 + (b1.toNat : Int) % 64) * 64 + (b2.toNat : Int) % 64 = (v : Int) := by omega
  have C := cast_lit p.length
  have c1 : ¬ (b0.toNat : Int) < 128 := by omega
  have c3 : ¬ (b0.toNat : Int) < 224 := by omega
  have c5 : (224 : Int) ≤ b0.toNat := by omega
  have c6 : (b0.toNat : Int) < 240 := by omega
  have c4 : ¬ (s.length : Int) - p.length ≤ 2 := by omega
  have e1 : ¬ (v : Int) < 2048 := by omega
  have e3 : ¬ (1114111 : Int) < v := by omega
  have d1 : ((b1.toNat : Int) / 64 * 64) = 128 := by omega
  have d2 : ((b2.toNat : Int) / 64 * 64) = 128 := by omega
  repeat' (first | (simp -implicitDefEqProofs +contextual (maxSteps := 10000000) (disch := first | with_unfolding_all exact id rfl | assumption | ((fail_if_success (with_reducible refine isB ?_)); (first | omega | decide))) only [go_sem, v_n, hlt, B0, B1, B2, hV, C, c1, c3, c5, c6, c4, e1, e3, d1, d2]) | refine vIte_i (fun hb => ?_) fun hb => ?_ | refine vAp_i (by kernel_rfl) ?_ | refine vIf_i (fun hb => ?_) fun hb => ?_ | refine oT_Gi (fun hb => ?_) fun hb => ?_ | refine v_loop (a := ref7_Runes_l0) ?_)
  all_goals first | (exfalso; omega) | skip
  all_goals exact LpG.keepE [0, 4, 5] hih rfl
end Go.Pv.Cb
