/- What the functions that StrCuts reaches compute: a part. -/
import Derived.Test.YtcghkmihbfibkaaDoorStrH
import Derived.Test.YtcghkmihbfibkaaDoorStrE
set_option linter.all false
namespace Go.Pv.Cb
open Go.Pv
set_option maxRecDepth 10000
set_option maxHeartbeats 4000000
set_option linter.unusedSimpArgs false
theorem Runes_good (l : List Nat) (hg : goodR l) (hs : (encs l).length ≤ 1000000) :
    ansOf E F_ref7_Runes [.w (.p (.str (encs l)))] = some ([(false, [.own 1 (plains (eI (ofN l)))]), (false, [.p (.bool true)])], []) := by
  have := Runes_spec l [] hg (.inl rfl) (by rw [List.append_nil]; exact hs)
  rw [List.append_nil, if_pos rfl, decide_eq_true rfl] at this
  exact this
theorem Runes_bad (s : List UInt8) (hs : s.length ≤ 1000000) (hv : Go.Lib.validD s = false) :
    ansOf E F_ref7_Runes [.w (.p (.str s))] = some ([(false, [.own 1 []]), (false, [.p (.bool false)])], []) := by
  rcases valid_cases s with ⟨l, _, _, h⟩ | ⟨_, l, t, hl, rfl, hne, hd⟩
  · rw [hv] at h; simp at h
  · have := Runes_spec l t hl (.inr ⟨hne, hd⟩) hs
    rw [if_neg hne, decide_eq_false hne] at this
    exact this
/-- A text as it is written is read. -/
theorem okEs_plain (w : Bool) : ∀ (us : List Int) (p : Nat), (∀ u ∈ us, 0 ≤ u ∧ u < (if w then 65536 else 256)) → okEs [] p w (us.map fun u => ⟨w, false, u⟩)
  | [], _, _ => trivial
  | u :: us, p, h => by
    obtain ⟨h1, h2⟩ := h u (by simp)
    exact ⟨by simp, fun _ => rfl, by simp, h1, h2, okEs_plain w us _ fun v hv => h v (by simp [hv])⟩
theorem narrow_units {l : List Nat} (h : narrowR l = true) : ∀ u ∈ units l, 0 ≤ u ∧ u < 256 := by
  intro u hu
  obtain ⟨v, hv, hu⟩ := List.mem_flatMap.1 hu
  have := List.all_eq_true.1 h v hv
  simp only [decide_eq_true_eq] at this
  rw [u16, if_pos (by omega)] at hu
  simp at hu; omega
theorem plain_units {l : List Nat} (hg : goodR l) : ∀ u ∈ units l, 0 ≤ u ∧ u < (if (!narrowR l) = true then 65536 else 256) := by
  rcases Bool.eq_false_or_eq_true (narrowR l) with h | h
  · rw [h]; exact narrow_units h
  · rw [h]; exact units_rng hg
theorem sb_enB (w : Bool) : ∀ us : List Int, (us.map fun u => (⟨w, false, u⟩ : En)).flatMap enB = us.flatMap (ub (!w))
  | [] => rfl
  | u :: us => by rw [List.map_cons, List.flatMap_cons, List.flatMap_cons, sb_enB w us]; rfl
theorem Get_row (B : List UInt8) (p : Nat) (l : List Nat) (post : List UInt8) (hB : B.drop p = sbytes l ++ post) (hg : goodR l) (hs : (encs l).length ≤ 1000000) (hu : (units l).length ≤ 1000) (hbl : B.length ≤ 1000000) :
    ansOf E F_str_Get [.a [.p (.sl 1 (ofBytes B)), .p (.int .i64 p)], .w (.p (.sl 1 []))] = some ([(false, [.p (.str (encs l))]), (true, [.p (.sl 1 (ofBytes B)), .p (.int .i64 ((p + szR l : Nat) : Int))]), (false, [.p (.int .i64 0)])], []) := by
  have hw : (if narrowR l then (0 : UInt8) else 1) = wb (!narrowR l) := by cases narrowR l <;> rfl
  have hnn : (!(!narrowR l)) = narrowR l := by cases narrowR l <;> rfl
  have he := sb_enB (!narrowR l) (units l)
  rw [hnn] at he
  have h := Get_good p B [] (by8 ((units l).length : Int)) (by8 (((units l).length : Int) / 256)) (!narrowR l) ((units l).map fun u => ⟨!narrowR l, false, u⟩) post l (by rw [hB, he, sbytes, hw]; rfl) hbl (by simp)
    (by rw [by8_nat, by8_nat, List.length_map]; omega) (by rw [List.length_map]; exact hu) (okEs_plain _ _ _ (plain_units hg)) (by rw [List.map_map]; exact List.map_id' _) hg hs
  have hl := sbytes_len l
  have hl2 : (sbytes l).length = 3 + ((units l).flatMap (ub (narrowR l))).length := by rw [sbytes, List.length_cons, List.length_cons, List.length_cons]; omega
  rw [he, Nat.add_assoc, ← hl2, hl] at h
  exact h
end Go.Pv.Cb
