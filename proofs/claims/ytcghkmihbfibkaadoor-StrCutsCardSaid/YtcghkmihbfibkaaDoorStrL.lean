/- What the functions that StrCuts reaches compute: a part. -/
import Derived.Test.YtcghkmihbfibkaaDoorStrJ
set_option linter.all false
namespace Go.Pv.Cb
open Go.Pv
set_option maxRecDepth 10000
set_option maxHeartbeats 8000000
set_option linter.unusedSimpArgs false
/-- Where flags stand. -/
def cutsOf : Nat → List En → List Int
  | _, [] => []
  | p, e :: es => (if e.fl then [(p : Int)] else []) ++ cutsOf (p + (enB e).length) es
theorem cutsOf_snoc : ∀ (es : List En) (p : Nat) (e : En), cutsOf p (es ++ [e]) = cutsOf p es ++ (if e.fl then [((p + (es.flatMap enB).length : Nat) : Int)] else [])
  | [], p, e => by simp [cutsOf]
  | a :: es, p, e => by
    rw [List.cons_append, cutsOf, cutsOf, cutsOf_snoc es, List.append_assoc, List.flatMap_cons, List.length_append, Nat.add_assoc]
theorem cutsOf_ge : ∀ (es : List En) (p : Nat), ∀ c ∈ cutsOf p es, (p : Int) ≤ c
  | [], _, c, h => by simp [cutsOf] at h
  | e :: es, p, c, h => by
    rw [cutsOf] at h
    rcases List.mem_append.1 h with q | q
    · split at q
      · simp at q; omega
      · simp at q
    · have := cutsOf_ge es _ c q
      omega
theorem cutsOf_len : ∀ (es : List En) (p : Nat), (cutsOf p es).length ≤ es.length
  | [], _ => by simp [cutsOf]
  | e :: es, p => by
    rw [cutsOf, List.length_append, List.length_cons]
    have := cutsOf_len es (p + (enB e).length)
    split <;> simp <;> omega
def wch : Bool → List En → Prop
  | _, [] => True
  | w, e :: es => (e.fl = false → e.w = w) ∧ wch e.w es
def wend : Bool → List En → Bool
  | w, [] => w
  | _, e :: es => wend e.w es
theorem wch_snoc : ∀ (es : List En) (w : Bool) (e : En), wch w es → (e.fl = false → e.w = wend w es) → wch w (es ++ [e])
  | [], w, e, _, h => ⟨h, trivial⟩
  | a :: es, w, e, h, h2 => ⟨h.1, wch_snoc es a.w e h.2 h2⟩
theorem wend_snoc : ∀ (es : List En) (w : Bool) (e : En), wend w (es ++ [e]) = e.w
  | [], _, _ => rfl
  | a :: es, _, e => wend_snoc es a.w e
def bnd (e : En) : Prop := 0 ≤ e.u ∧ e.u < (if e.w then 65536 else 256)
theorem enB_len (e : En) : (enB e).length = (if e.fl then 1 else 0) + (if e.w then 2 else 1) := by
  unfold enB ub; cases e.fl <;> cases e.w <;> rfl
theorem okEs_cuts : ∀ (es : List En) (p : Nat) (w : Bool) (C : List Int), (∀ c ∈ C, c < (p : Int)) → wch w es → (∀ e ∈ es, bnd e) → okEs (C ++ cutsOf p es) p w es
  | [], _, _, _, _, _, _ => trivial
  | e :: es, p, w, C, hC, hw, hb => by
    have hl := enB_len e
    have hY := cutsOf_ge es (p + (enB e).length)
    obtain ⟨b1, b2⟩ := hb e (by simp)
    have ih := okEs_cuts es (p + (enB e).length) e.w (C ++ (if e.fl then [(p : Int)] else [])) (fun c hc => by
      rcases List.mem_append.1 hc with q | q
      · have := hC c q
        omega
      · split at q
        · simp at q
          have : 1 ≤ (enB e).length := by rw [hl]; split <;> split <;> omega
          omega
        · simp at q) hw.2 fun x hx => hb x (by simp [hx])
    rw [cutsOf]
    rw [List.append_assoc] at ih
    have hpos : 1 ≤ (enB e).length := by rw [hl]; split <;> split <;> omega
    refine ⟨⟨fun q => ?_, fun q => ?_⟩, hw.1, fun q1 q => ?_, b1, b2, ih⟩
    · rcases List.mem_append.1 q with q | q
      · have := hC _ q; omega
      rcases List.mem_append.1 q with q | q
      · split at q
        · assumption
        · simp at q
      · have := hY _ q; omega
    · rw [if_pos q]; simp
    · rw [q1, if_pos rfl] at hl
      rcases List.mem_append.1 q with q | q
      · have := hC _ q; omega
      rcases List.mem_append.1 q with q | q
      · split at q
        · simp at q; omega
        · simp at q
      · have := hY _ q
        push_cast at this
        omega
/-- What stands behind the number of units. -/
def bsE (w0 : Bool) (es : List En) : List UInt8 := if es = [] then [] else wb w0 :: es.flatMap enB
theorem bsE_nil (w0 : Bool) : bsE w0 [] = [] := rfl
theorem bsE_one (w : Bool) (u : Int) : bsE w [⟨w, false, u⟩] = wb w :: ub (!w) u := by simp [bsE, enB]
theorem bsE_snoc (w0 : Bool) (es : List En) (e : En) (h : es ≠ []) : bsE w0 (es ++ [e]) = bsE w0 es ++ enB e := by
  rw [bsE, bsE, if_neg h, if_neg (by simp), List.flatMap_append, List.flatMap_cons, List.flatMap_nil, List.append_nil, List.cons_append]
theorem bsE_len (w0 : Bool) (es : List En) (h : es ≠ []) : (bsE w0 es).length = 1 + (es.flatMap enB).length := by
  rw [bsE, if_neg h, List.length_cons, Nat.add_comm]
theorem es_len (es : List En) : (es.flatMap enB).length ≤ 3 * es.length := by
  induction es with
  | nil => simp
  | cons e es ih =>
    rw [List.flatMap_cons, List.length_append, List.length_cons, enB_len]
    split <;> split <;> omega
theorem p_u80 (X : List UInt8) (r : List (List OV)) : plains (ofBytes X) ++ [OV.p (.int .u8 0)] :: r = plains (ofBytes (X ++ [0])) ++ r := by simp [plains, ofBytes]
theorem p_u7 (X : List UInt8) (r : List (List OV)) : plains (ofBytes X) ++ [OV.p (.int .u8 7)] :: r = plains (ofBytes (X ++ [7])) ++ r := by simp [plains, ofBytes]
theorem tmod_nat (a b : Nat) : ((a : Int).tmod (b : Int)) = ((a % b : Nat) : Int) := rfl
theorem tmod_2 (b : UInt8) : ((b.toNat : Int).tmod 2) = ((b.toNat % 2 : Nat) : Int) := rfl
theorem StrCuts_spec (s at_ wide : List UInt8) : ansOf E F_law6_StrCuts [.w (.p (.str s)), .w (.p (.sl 1 (ofBytes at_))), .w (.p (.sl 1 (ofBytes wide)))] = some ([(false, [.p (.bool true)])], []) := by
  refine law6_StrCuts_ans rfl rfl ?_
  by_cases h1 : (s.length : Int) > 300
  · repeat' (first | (apply wpS_label1) | (apply wpS_skip1) | (apply wpS_block) | ((first | apply wpS_seq_goto | apply wpS_seq_exit | apply wpS_seq_ret); (try simp only [thenS, blockS, ↓reduceIte, Nat.reduceEqDiff])) | (apply wpS_seq_cond) | (apply wpS_seq_block) | (apply wpS_seq_loop) | (apply wpS_seq_scope) | (apply wpS_seq_seq) | ((first | apply wpS_stepT | apply wpS_stepDT | refine wpS_regL rfl ?_ | refine wpS_drawL rfl ?_ | apply wpS_condT); intro rr hrr; (simp -implicitDefEqProofs +contextual (maxSteps := 10000000) (disch := first | assumption | with_unfolding_all exact id rfl | omega | decide) only [go_sem, Int.reduceToNat, Int.reduceAdd, Int.reduceSub, Int.reduceMul, Int.reduceNeg, Int.reducePow, Int.reduceLT, Int.reduceLE, Int.reduceEq, Int.reduceNe, Int.reduceBEq, Int.reduceBNe, Int.reduceDiv, Int.reduceMod, Nat.reducePow, ↓reduceIte, reduceCtorEq, Nat.reduceEqDiff, Nat.reduceLT, Nat.reduceLeDiff, Nat.reduceAdd, Nat.reduceSub, Nat.reduceMul, Nat.reduceBEq, Nat.reduceBNe, known_spec, h1]); (first | ((with_reducible apply oThen_intro; (first | (refine hrr _ _ (by kernel_rfl) ?_) | (refine hrr _ ?_ ?_) | (refine hrr _ ?_)) <;> clear hrr rr); (try dsimp only [thenS, blockS])) | (with_reducible apply oThen_gcond))) | ((first | apply wpS_skip | apply wpS_exit | apply wpS_goto | apply wpS_ret); (try simp only [thenS, blockS, ↓reduceIte, Nat.reduceEqDiff])) | (with_reducible apply oThen_intro; (first | (refine hrr _ _ (by kernel_rfl) ?_) | (refine hrr _ ?_ ?_) | (refine hrr _ ?_)) <;> clear hrr rr) | (with_reducible apply oThen_gcond) | (intro hb; first | (exact absurd hb (by decide)) | (simp only [decide_eq_true_eq, decide_eq_false_iff_not, beq_iff_eq, bne_iff_ne, ne_eq, beq_eq_false_iff_ne, bne_eq_false_iff_eq, Bool.not_eq_true', Bool.not_eq_false', Bool.not_eq_eq_eq_not, Bool.not_true, Bool.not_false, Int.not_lt, Int.not_le, gt_iff_lt, ge_iff_le, Bool.or_eq_true, Bool.and_eq_true, Bool.or_eq_false_iff, Decidable.not_not] at hb) | skip))
    (refine ⟨by simp, ?_⟩; (simp -implicitDefEqProofs +contextual (maxSteps := 10000000) (disch := first | assumption | with_unfolding_all exact id rfl | omega | decide) only [go_sem, Int.reduceToNat, Int.reduceAdd, Int.reduceSub, Int.reduceMul, Int.reduceNeg, Int.reducePow, Int.reduceLT, Int.reduceLE, Int.reduceEq, Int.reduceNe, Int.reduceBEq, Int.reduceBNe, Int.reduceDiv, Int.reduceMod, Nat.reducePow, ↓reduceIte, reduceCtorEq, Nat.reduceEqDiff, Nat.reduceLT, Nat.reduceLeDiff, Nat.reduceAdd, Nat.reduceSub, Nat.reduceMul, Nat.reduceBEq, Nat.reduceBNe, law6_StrCuts]))
  by_cases h2 : (at_.length : Int) > 20
  · repeat' (first | (apply wpS_label1) | (apply wpS_skip1) | (apply wpS_block) | ((first | apply wpS_seq_goto | apply wpS_seq_exit | apply wpS_seq_ret); (try simp only [thenS, blockS, ↓reduceIte, Nat.reduceEqDiff])) | (apply wpS_seq_cond) | (apply wpS_seq_block) | (apply wpS_seq_loop) | (apply wpS_seq_scope) | (apply wpS_seq_seq) | ((first | apply wpS_stepT | apply wpS_stepDT | refine wpS_regL rfl ?_ | refine wpS_drawL rfl ?_ | apply wpS_condT); intro rr hrr; (simp -implicitDefEqProofs +contextual (maxSteps := 10000000) (disch := first | assumption | with_unfolding_all exact id rfl | omega | decide) only [go_sem, Int.reduceToNat, Int.reduceAdd, Int.reduceSub, Int.reduceMul, Int.reduceNeg, Int.reducePow, Int.reduceLT, Int.reduceLE, Int.reduceEq, Int.reduceNe, Int.reduceBEq, Int.reduceBNe, Int.reduceDiv, Int.reduceMod, Nat.reducePow, ↓reduceIte, reduceCtorEq, Nat.reduceEqDiff, Nat.reduceLT, Nat.reduceLeDiff, Nat.reduceAdd, Nat.reduceSub, Nat.reduceMul, Nat.reduceBEq, Nat.reduceBNe, known_spec, h1, h2]); (first | ((with_reducible apply oThen_intro; (first | (refine hrr _ _ (by kernel_rfl) ?_) | (refine hrr _ ?_ ?_) | (refine hrr _ ?_)) <;> clear hrr rr); (try dsimp only [thenS, blockS])) | (with_reducible apply oThen_gcond))) | ((first | apply wpS_skip | apply wpS_exit | apply wpS_goto | apply wpS_ret); (try simp only [thenS, blockS, ↓reduceIte, Nat.reduceEqDiff])) | (with_reducible apply oThen_intro; (first | (refine hrr _ _ (by kernel_rfl) ?_) | (refine hrr _ ?_ ?_) | (refine hrr _ ?_)) <;> clear hrr rr) | (with_reducible apply oThen_gcond) | (intro hb; first | (exact absurd hb (by decide)) | (simp only [decide_eq_true_eq, decide_eq_false_iff_not, beq_iff_eq, bne_iff_ne, ne_eq, beq_eq_false_iff_ne, bne_eq_false_iff_eq, Bool.not_eq_true', Bool.not_eq_false', Bool.not_eq_eq_eq_not, Bool.not_true, Bool.not_false, Int.not_lt, Int.not_le, gt_iff_lt, ge_iff_le, Bool.or_eq_true, Bool.and_eq_true, Bool.or_eq_false_iff, Decidable.not_not] at hb) | skip))
    (refine ⟨by simp, ?_⟩; (simp -implicitDefEqProofs +contextual (maxSteps := 10000000) (disch := first | assumption | with_unfolding_all exact id rfl | omega | decide) only [go_sem, Int.reduceToNat, Int.reduceAdd, Int.reduceSub, Int.reduceMul, Int.reduceNeg, Int.reducePow, Int.reduceLT, Int.reduceLE, Int.reduceEq, Int.reduceNe, Int.reduceBEq, Int.reduceBNe, Int.reduceDiv, Int.reduceMod, Nat.reducePow, ↓reduceIte, reduceCtorEq, Nat.reduceEqDiff, Nat.reduceLT, Nat.reduceLeDiff, Nat.reduceAdd, Nat.reduceSub, Nat.reduceMul, Nat.reduceBEq, Nat.reduceBNe, law6_StrCuts]))
  by_cases h3 : (wide.length : Int) = 0
  · repeat' (first | (apply wpS_label1) | (apply wpS_skip1) | (apply wpS_block) | ((first | apply wpS_seq_goto | apply wpS_seq_exit | apply wpS_seq_ret); (try simp only [thenS, blockS, ↓reduceIte, Nat.reduceEqDiff])) | (apply wpS_seq_cond) | (apply wpS_seq_block) | (apply wpS_seq_loop) | (apply wpS_seq_scope) | (apply wpS_seq_seq) | ((first | apply wpS_stepT | apply wpS_stepDT | refine wpS_regL rfl ?_ | refine wpS_drawL rfl ?_ | apply wpS_condT); intro rr hrr; (simp -implicitDefEqProofs +contextual (maxSteps := 10000000) (disch := first | assumption | with_unfolding_all exact id rfl | omega | decide) only [go_sem, Int.reduceToNat, Int.reduceAdd, Int.reduceSub, Int.reduceMul, Int.reduceNeg, Int.reducePow, Int.reduceLT, Int.reduceLE, Int.reduceEq, Int.reduceNe, Int.reduceBEq, Int.reduceBNe, Int.reduceDiv, Int.reduceMod, Nat.reducePow, ↓reduceIte, reduceCtorEq, Nat.reduceEqDiff, Nat.reduceLT, Nat.reduceLeDiff, Nat.reduceAdd, Nat.reduceSub, Nat.reduceMul, Nat.reduceBEq, Nat.reduceBNe, known_spec, h1, h2, h3]); (first | ((with_reducible apply oThen_intro; (first | (refine hrr _ _ (by kernel_rfl) ?_) | (refine hrr _ ?_ ?_) | (refine hrr _ ?_)) <;> clear hrr rr); (try dsimp only [thenS, blockS])) | (with_reducible apply oThen_gcond))) | ((first | apply wpS_skip | apply wpS_exit | apply wpS_goto | apply wpS_ret); (try simp only [thenS, blockS, ↓reduceIte, Nat.reduceEqDiff])) | (with_reducible apply oThen_intro; (first | (refine hrr _ _ (by kernel_rfl) ?_) | (refine hrr _ ?_ ?_) | (refine hrr _ ?_)) <;> clear hrr rr) | (with_reducible apply oThen_gcond) | (intro hb; first | (exact absurd hb (by decide)) | (simp only [decide_eq_true_eq, decide_eq_false_iff_not, beq_iff_eq, bne_iff_ne, ne_eq, beq_eq_false_iff_ne, bne_eq_false_iff_eq, Bool.not_eq_true', Bool.not_eq_false', Bool.not_eq_eq_eq_not, Bool.not_true, Bool.not_false, Int.not_lt, Int.not_le, gt_iff_lt, ge_iff_le, Bool.or_eq_true, Bool.and_eq_true, Bool.or_eq_false_iff, Decidable.not_not] at hb) | skip))
    (refine ⟨by simp, ?_⟩; (simp -implicitDefEqProofs +contextual (maxSteps := 10000000) (disch := first | assumption | with_unfolding_all exact id rfl | omega | decide) only [go_sem, Int.reduceToNat, Int.reduceAdd, Int.reduceSub, Int.reduceMul, Int.reduceNeg, Int.reducePow, Int.reduceLT, Int.reduceLE, Int.reduceEq, Int.reduceNe, Int.reduceBEq, Int.reduceBNe, Int.reduceDiv, Int.reduceMod, Nat.reducePow, ↓reduceIte, reduceCtorEq, Nat.reduceEqDiff, Nat.reduceLT, Nat.reduceLeDiff, Nat.reduceAdd, Nat.reduceSub, Nat.reduceMul, Nat.reduceBEq, Nat.reduceBNe, law6_StrCuts]))
  rcases (valid_cases s).symm with ⟨hv, _⟩ | ⟨l, hg, rfl, _⟩
  · have hR := Runes_bad s (by omega) hv
    repeat' (first | (apply wpS_label1) | (apply wpS_skip1) | (apply wpS_block) | ((first | apply wpS_seq_goto | apply wpS_seq_exit | apply wpS_seq_ret); (try simp only [thenS, blockS, ↓reduceIte, Nat.reduceEqDiff])) | (apply wpS_seq_cond) | (apply wpS_seq_block) | (apply wpS_seq_loop) | (apply wpS_seq_scope) | (apply wpS_seq_seq) | ((first | apply wpS_stepT | apply wpS_stepDT | refine wpS_regL rfl ?_ | refine wpS_drawL rfl ?_ | apply wpS_condT); intro rr hrr; (simp -implicitDefEqProofs +contextual (maxSteps := 10000000) (disch := first | assumption | with_unfolding_all exact id rfl | omega | decide) only [go_sem, Int.reduceToNat, Int.reduceAdd, Int.reduceSub, Int.reduceMul, Int.reduceNeg, Int.reducePow, Int.reduceLT, Int.reduceLE, Int.reduceEq, Int.reduceNe, Int.reduceBEq, Int.reduceBNe, Int.reduceDiv, Int.reduceMod, Nat.reducePow, ↓reduceIte, reduceCtorEq, Nat.reduceEqDiff, Nat.reduceLT, Nat.reduceLeDiff, Nat.reduceAdd, Nat.reduceSub, Nat.reduceMul, Nat.reduceBEq, Nat.reduceBNe, known_spec, h1, h2, h3, hR]); (first | ((with_reducible apply oThen_intro; (first | (refine hrr _ _ (by kernel_rfl) ?_) | (refine hrr _ ?_ ?_) | (refine hrr _ ?_)) <;> clear hrr rr); (try dsimp only [thenS, blockS])) | (with_reducible apply oThen_gcond))) | ((first | apply wpS_skip | apply wpS_exit | apply wpS_goto | apply wpS_ret); (try simp only [thenS, blockS, ↓reduceIte, Nat.reduceEqDiff])) | (with_reducible apply oThen_intro; (first | (refine hrr _ _ (by kernel_rfl) ?_) | (refine hrr _ ?_ ?_) | (refine hrr _ ?_)) <;> clear hrr rr) | (with_reducible apply oThen_gcond) | (intro hb; first | (exact absurd hb (by decide)) | (simp only [decide_eq_true_eq, decide_eq_false_iff_not, beq_iff_eq, bne_iff_ne, ne_eq, beq_eq_false_iff_ne, bne_eq_false_iff_eq, Bool.not_eq_true', Bool.not_eq_false', Bool.not_eq_eq_eq_not, Bool.not_true, Bool.not_false, Int.not_lt, Int.not_le, gt_iff_lt, ge_iff_le, Bool.or_eq_true, Bool.and_eq_true, Bool.or_eq_false_iff, Decidable.not_not] at hb) | skip))
    (refine ⟨by simp, ?_⟩; (simp -implicitDefEqProofs +contextual (maxSteps := 10000000) (disch := first | assumption | with_unfolding_all exact id rfl | omega | decide) only [go_sem, Int.reduceToNat, Int.reduceAdd, Int.reduceSub, Int.reduceMul, Int.reduceNeg, Int.reducePow, Int.reduceLT, Int.reduceLE, Int.reduceEq, Int.reduceNe, Int.reduceBEq, Int.reduceBNe, Int.reduceDiv, Int.reduceMod, Nat.reducePow, ↓reduceIte, reduceCtorEq, Nat.reduceEqDiff, Nat.reduceLT, Nat.reduceLeDiff, Nat.reduceAdd, Nat.reduceSub, Nat.reduceMul, Nat.reduceBEq, Nat.reduceBNe, law6_StrCuts]))
  have hR := Runes_good l hg (by omega)
  repeat' (first | (apply wpS_label1) | (apply wpS_skip1) | (apply wpS_block) | ((first | apply wpS_seq_goto | apply wpS_seq_exit | apply wpS_seq_ret); (try simp only [thenS, blockS, ↓reduceIte, Nat.reduceEqDiff])) | (apply wpS_seq_cond) | (apply wpS_seq_block) | (apply wpS_seq_loop) | (apply wpS_seq_scope) | (apply wpS_seq_seq) | ((first | apply wpS_stepT | apply wpS_stepDT | refine wpS_regL rfl ?_ | refine wpS_drawL rfl ?_ | apply wpS_condT); intro rr hrr; (simp -implicitDefEqProofs +contextual (maxSteps := 10000000) (disch := first | assumption | with_unfolding_all exact id rfl | omega | decide) only [go_sem, Int.reduceToNat, Int.reduceAdd, Int.reduceSub, Int.reduceMul, Int.reduceNeg, Int.reducePow, Int.reduceLT, Int.reduceLE, Int.reduceEq, Int.reduceNe, Int.reduceBEq, Int.reduceBNe, Int.reduceDiv, Int.reduceMod, Nat.reducePow, ↓reduceIte, reduceCtorEq, Nat.reduceEqDiff, Nat.reduceLT, Nat.reduceLeDiff, Nat.reduceAdd, Nat.reduceSub, Nat.reduceMul, Nat.reduceBEq, Nat.reduceBNe, known_spec, h1, h2, h3, hR]); (first | ((with_reducible apply oThen_intro; (first | (refine hrr _ _ (by kernel_rfl) ?_) | (refine hrr _ ?_ ?_) | (refine hrr _ ?_)) <;> clear hrr rr); (try dsimp only [thenS, blockS])) | (with_reducible apply oThen_gcond))) | ((first | apply wpS_skip | apply wpS_exit | apply wpS_goto | apply wpS_ret); (try simp only [thenS, blockS, ↓reduceIte, Nat.reduceEqDiff])) | (with_reducible apply oThen_intro; (first | (refine hrr _ _ (by kernel_rfl) ?_) | (refine hrr _ ?_ ?_) | (refine hrr _ ?_)) <;> clear hrr rr) | (with_reducible apply oThen_gcond) | (intro hb; first | (exact absurd hb (by decide)) | (simp only [decide_eq_true_eq, decide_eq_false_iff_not, beq_iff_eq, bne_iff_ne, ne_eq, beq_eq_false_iff_ne, bne_eq_false_iff_eq, Bool.not_eq_true', Bool.not_eq_false', Bool.not_eq_eq_eq_not, Bool.not_true, Bool.not_false, Int.not_lt, Int.not_le, gt_iff_lt, ge_iff_le, Bool.or_eq_true, Bool.and_eq_true, Bool.or_eq_false_iff, Decidable.not_not] at hb) | skip))
  have hol := ofN_len l
  have hll := encs_len_ge l
  refine wpS_loop_inv (fun x : List Nat × List Nat => [(0, .w (.p (.str (encs l)))), (1, .w (.p (.sl 1 (ofBytes at_)))), (2, .w (.p (.sl 1 (ofBytes wide)))), (7, .w (.own 1 (plains (eI (ofN l))))), (9, .w (.own 1 (plains (eI (units x.1))))), (10, .w (.p (.int .i64 x.1.length)))]) (fun x => l = x.1 ++ x.2) (fun x => x.2.length) ([], l) rfl rfl ?_
  rintro ⟨a, b⟩ hl ih
  dsimp only at hl ih ⊢
  cases b with
  | cons v b =>
    have hv : okR v := goodR_mid (hl ▸ hg)
    unfold okR at hv
    have hlen := congrArg List.length hl
    rw [List.length_append, List.length_cons] at hlen
    have hul := units_len_le a
    have hlt : (a.length : Int) < l.length := by omega
    have hget : (ofN l)[a.length]? = some (v : Int) := by rw [hl]; simp [ofN]
    have := ih (a ++ [v], b) (by simp) (by simp [hl])
    dsimp only at this
    clear ih
    by_cases h255 : 65536 ≤ (v : Int)
    · have e : units (a ++ [v]) = units a ++ [55296 + ((v : Int) - 65536) / 1024, 56320 + ((v : Int) - 65536) % 1024] := by rw [units_snoc, u16, if_neg (by omega)]
      rw [e, List.length_append, List.length_singleton] at this
      repeat' (first | (apply wpS_label1) | (apply wpS_skip1) | (apply wpS_block) | ((first | apply wpS_seq_goto | apply wpS_seq_exit | apply wpS_seq_ret); (try simp only [thenS, blockS, ↓reduceIte, Nat.reduceEqDiff])) | (apply wpS_seq_cond) | (apply wpS_seq_block) | (apply wpS_seq_loop) | (apply wpS_seq_scope) | (apply wpS_seq_seq) | ((first | apply wpS_stepT | apply wpS_stepDT | refine wpS_regL rfl ?_ | refine wpS_drawL rfl ?_ | apply wpS_condT); intro rr hrr; (simp -implicitDefEqProofs +contextual (maxSteps := 10000000) (disch := first | assumption | with_unfolding_all exact id rfl | omega | decide) only [go_sem, Int.reduceToNat, Int.reduceAdd, Int.reduceSub, Int.reduceMul, Int.reduceNeg, Int.reducePow, Int.reduceLT, Int.reduceLE, Int.reduceEq, Int.reduceNe, Int.reduceBEq, Int.reduceBNe, Int.reduceDiv, Int.reduceMod, Nat.reducePow, ↓reduceIte, reduceCtorEq, Nat.reduceEqDiff, Nat.reduceLT, Nat.reduceLeDiff, Nat.reduceAdd, Nat.reduceSub, Nat.reduceMul, Nat.reduceBEq, Nat.reduceBNe, hlt, hol, hget, h255]); (first | ((with_reducible apply oThen_intro; (first | (refine hrr _ _ (by kernel_rfl) ?_) | (refine hrr _ ?_ ?_) | (refine hrr _ ?_)) <;> clear hrr rr); (try dsimp only [thenS, blockS])) | (with_reducible apply oThen_gcond))) | ((first | apply wpS_skip | apply wpS_exit | apply wpS_goto | apply wpS_ret); (try simp only [thenS, blockS, ↓reduceIte, Nat.reduceEqDiff])) | (with_reducible apply oThen_intro; (first | (refine hrr _ _ (by kernel_rfl) ?_) | (refine hrr _ ?_ ?_) | (refine hrr _ ?_)) <;> clear hrr rr) | (with_reducible apply oThen_gcond) | (intro hb; first | (exact absurd hb (by decide)) | (simp only [decide_eq_true_eq, decide_eq_false_iff_not, beq_iff_eq, bne_iff_ne, ne_eq, beq_eq_false_iff_ne, bne_eq_false_iff_eq, Bool.not_eq_true', Bool.not_eq_false', Bool.not_eq_eq_eq_not, Bool.not_true, Bool.not_false, Int.not_lt, Int.not_le, gt_iff_lt, ge_iff_le, Bool.or_eq_true, Bool.and_eq_true, Bool.or_eq_false_iff, Decidable.not_not] at hb) | skip))
      exact WpS.keepE [0, 1, 2, 7, 9, 10] this rfl
    · have e : units (a ++ [v]) = units a ++ [(v : Int)] := by rw [units_snoc, u16, if_pos (by omega)]
      rw [e, List.length_append, List.length_singleton] at this
      repeat' (first | (apply wpS_label1) | (apply wpS_skip1) | (apply wpS_block) | ((first | apply wpS_seq_goto | apply wpS_seq_exit | apply wpS_seq_ret); (try simp only [thenS, blockS, ↓reduceIte, Nat.reduceEqDiff])) | (apply wpS_seq_cond) | (apply wpS_seq_block) | (apply wpS_seq_loop) | (apply wpS_seq_scope) | (apply wpS_seq_seq) | ((first | apply wpS_stepT | apply wpS_stepDT | refine wpS_regL rfl ?_ | refine wpS_drawL rfl ?_ | apply wpS_condT); intro rr hrr; (simp -implicitDefEqProofs +contextual (maxSteps := 10000000) (disch := first | assumption | with_unfolding_all exact id rfl | omega | decide) only [go_sem, Int.reduceToNat, Int.reduceAdd, Int.reduceSub, Int.reduceMul, Int.reduceNeg, Int.reducePow, Int.reduceLT, Int.reduceLE, Int.reduceEq, Int.reduceNe, Int.reduceBEq, Int.reduceBNe, Int.reduceDiv, Int.reduceMod, Nat.reducePow, ↓reduceIte, reduceCtorEq, Nat.reduceEqDiff, Nat.reduceLT, Nat.reduceLeDiff, Nat.reduceAdd, Nat.reduceSub, Nat.reduceMul, Nat.reduceBEq, Nat.reduceBNe, hlt, hol, hget, h255]); (first | ((with_reducible apply oThen_intro; (first | (refine hrr _ _ (by kernel_rfl) ?_) | (refine hrr _ ?_ ?_) | (refine hrr _ ?_)) <;> clear hrr rr); (try dsimp only [thenS, blockS])) | (with_reducible apply oThen_gcond))) | ((first | apply wpS_skip | apply wpS_exit | apply wpS_goto | apply wpS_ret); (try simp only [thenS, blockS, ↓reduceIte, Nat.reduceEqDiff])) | (with_reducible apply oThen_intro; (first | (refine hrr _ _ (by kernel_rfl) ?_) | (refine hrr _ ?_ ?_) | (refine hrr _ ?_)) <;> clear hrr rr) | (with_reducible apply oThen_gcond) | (intro hb; first | (exact absurd hb (by decide)) | (simp only [decide_eq_true_eq, decide_eq_false_iff_not, beq_iff_eq, bne_iff_ne, ne_eq, beq_eq_false_iff_ne, bne_eq_false_iff_eq, Bool.not_eq_true', Bool.not_eq_false', Bool.not_eq_eq_eq_not, Bool.not_true, Bool.not_false, Int.not_lt, Int.not_le, gt_iff_lt, ge_iff_le, Bool.or_eq_true, Bool.and_eq_true, Bool.or_eq_false_iff, Decidable.not_not] at hb) | skip))
      exact WpS.keepE [0, 1, 2, 7, 9, 10] this rfl
  | nil =>
    rw [List.append_nil] at hl
    subst hl
    clear ih
    have hge : ¬ (l.length : Int) < l.length := by omega
    have hul := units_enc l
    repeat' (first | (apply wpS_label1) | (apply wpS_skip1) | (apply wpS_block) | ((first | apply wpS_seq_goto | apply wpS_seq_exit | apply wpS_seq_ret); (try simp only [thenS, blockS, ↓reduceIte, Nat.reduceEqDiff])) | (apply wpS_seq_cond) | (apply wpS_seq_block) | (apply wpS_seq_loop) | (apply wpS_seq_scope) | (apply wpS_seq_seq) | ((first | apply wpS_stepT | apply wpS_stepDT | refine wpS_regL rfl ?_ | refine wpS_drawL rfl ?_ | apply wpS_condT); intro rr hrr; (simp -implicitDefEqProofs +contextual (maxSteps := 10000000) (disch := first | assumption | with_unfolding_all exact id rfl | omega | decide) only [go_sem, Int.reduceToNat, Int.reduceAdd, Int.reduceSub, Int.reduceMul, Int.reduceNeg, Int.reducePow, Int.reduceLT, Int.reduceLE, Int.reduceEq, Int.reduceNe, Int.reduceBEq, Int.reduceBNe, Int.reduceDiv, Int.reduceMod, Nat.reducePow, ↓reduceIte, reduceCtorEq, Nat.reduceEqDiff, Nat.reduceLT, Nat.reduceLeDiff, Nat.reduceAdd, Nat.reduceSub, Nat.reduceMul, Nat.reduceBEq, Nat.reduceBNe, hge, hol]); (first | ((with_reducible apply oThen_intro; (first | (refine hrr _ _ (by kernel_rfl) ?_) | (refine hrr _ ?_ ?_) | (refine hrr _ ?_)) <;> clear hrr rr); (try dsimp only [thenS, blockS])) | (with_reducible apply oThen_gcond))) | ((first | apply wpS_skip | apply wpS_exit | apply wpS_goto | apply wpS_ret); (try simp only [thenS, blockS, ↓reduceIte, Nat.reduceEqDiff])) | (with_reducible apply oThen_intro; (first | (refine hrr _ _ (by kernel_rfl) ?_) | (refine hrr _ ?_ ?_) | (refine hrr _ ?_)) <;> clear hrr rr) | (with_reducible apply oThen_gcond) | (intro hb; first | (exact absurd hb (by decide)) | (simp only [decide_eq_true_eq, decide_eq_false_iff_not, beq_iff_eq, bne_iff_ne, ne_eq, beq_eq_false_iff_ne, bne_eq_false_iff_eq, Bool.not_eq_true', Bool.not_eq_false', Bool.not_eq_eq_eq_not, Bool.not_true, Bool.not_false, Int.not_lt, Int.not_le, gt_iff_lt, ge_iff_le, Bool.or_eq_true, Bool.and_eq_true, Bool.or_eq_false_iff, Decidable.not_not] at hb) | skip))
    -- LOOP B
    have hN : (units l).length ≤ 600 := by omega
    have hm1 : ((((units l).length : Nat) : Int)) % 256 + (((units l).length : Nat) : Int) / 256 % 256 * 256 = (((units l).length : Nat) : Int) := by omega
    refine wpS_loop_inv (fun x : List En × List Int × Nat × Nat × Bool => [(0, .w (.p (.str (encs l)))), (1, .w (.p (.sl 1 (ofBytes at_)))), (2, .w (.p (.sl 1 (ofBytes wide)))), (9, .w (.own 1 (plains (eI (units l))))),
      (12, .w (.own 1 (plains (ofBytes ([by8 (units l).length, by8 ((units l).length / 256)] ++ bsE x.2.2.2.2 x.1))))), (13, .w (.own 1 (plains (eI (cutsOf 3 x.1))))), (14, .w (.p (.int .i64 (x.2.2.2.1 : Nat)))), (15, .w (.p (.int .i64 (x.2.2.1 : Nat)))), (16, .w (.p (.int .i64 x.1.length)))])
      (fun x => units l = x.1.map En.u ++ x.2.1 ∧ wch x.2.2.2.2 x.1 ∧ (x.1 ≠ [] → wend x.2.2.2.2 x.1 = decide (x.2.2.1 = 1)) ∧ (∀ e ∈ x.1, bnd e) ∧ x.2.2.1 ≤ 1 ∧ x.2.2.2.1 ≤ x.1.length ∧
        (x.1 ≠ [] → x.2.2.1 = 0 → ∀ (k : Nat) (u : Int), x.1.length ≤ k → (units l)[k]? = some u → (∀ j : Nat, x.1.length ≤ j → j ≤ k → (j : Int) ∉ at_.map (fun b => (b.toNat : Int))) → u ≤ 255))
      (fun x => x.2.1.length) ([], units l, 0, 0, false) rfl ⟨rfl, trivial, fun h => absurd rfl h, by simp, by simp, by simp, fun h => absurd rfl h⟩ ?_
    rintro ⟨es, rest, m, part, w0⟩ ⟨hu, hwch, hwend, hbnd, hm, hpart, hnar⟩ ih
    dsimp only at hu hwch hwend hbnd hm hpart hnar ih ⊢
    have hd2 : [by8 ((units l).length : Int), by8 (((units l).length : Int) / 256)].length = 2 := rfl
    obtain ⟨hd, hhd⟩ : ∃ hd : List UInt8, [by8 ((units l).length : Int), by8 (((units l).length : Int) / 256)] = hd := ⟨_, rfl⟩
    rw [hhd] at ih hd2 ⊢
    have hul2 := congrArg List.length hu
    rw [List.length_append, List.length_map] at hul2
    have hle : (es.length : Int) ≤ (units l).length := by omega
    have hesl := es_len es
    have hcl := cutsOf_len es 3
    have hbl : (bsE w0 es).length ≤ 1 + 3 * es.length := by
      by_cases h0 : es = []
      · subst h0; simp [bsE]
      · rw [bsE_len _ _ h0]; omega
    repeat' (first | (apply wpS_label1) | (apply wpS_skip1) | (apply wpS_block) | ((first | apply wpS_seq_goto | apply wpS_seq_exit | apply wpS_seq_ret); (try simp only [thenS, blockS, ↓reduceIte, Nat.reduceEqDiff])) | (apply wpS_seq_cond) | (apply wpS_seq_block) | (apply wpS_seq_loop) | (apply wpS_seq_scope) | (apply wpS_seq_seq) | ((first | apply wpS_stepT | apply wpS_stepDT | refine wpS_regL rfl ?_ | refine wpS_drawL rfl ?_ | apply wpS_condT); intro rr hrr; (simp -implicitDefEqProofs +contextual (maxSteps := 10000000) (disch := first | assumption | with_unfolding_all exact id rfl | omega | decide) only [go_sem, Int.reduceToNat, Int.reduceAdd, Int.reduceSub, Int.reduceMul, Int.reduceNeg, Int.reducePow, Int.reduceLT, Int.reduceLE, Int.reduceEq, Int.reduceNe, Int.reduceBEq, Int.reduceBNe, Int.reduceDiv, Int.reduceMod, Nat.reducePow, ↓reduceIte, reduceCtorEq, Nat.reduceEqDiff, Nat.reduceLT, Nat.reduceLeDiff, Nat.reduceAdd, Nat.reduceSub, Nat.reduceMul, Nat.reduceBEq, Nat.reduceBNe, hle]); (first | ((with_reducible apply oThen_intro; (first | (refine hrr _ _ (by kernel_rfl) ?_) | (refine hrr _ ?_ ?_) | (refine hrr _ ?_)) <;> clear hrr rr); (try dsimp only [thenS, blockS])) | (with_reducible apply oThen_gcond))) | ((first | apply wpS_skip | apply wpS_exit | apply wpS_goto | apply wpS_ret); (try simp only [thenS, blockS, ↓reduceIte, Nat.reduceEqDiff])) | (with_reducible apply oThen_intro; (first | (refine hrr _ _ (by kernel_rfl) ?_) | (refine hrr _ ?_ ?_) | (refine hrr _ ?_)) <;> clear hrr rr) | (with_reducible apply oThen_gcond) | (intro hb; first | (exact absurd hb (by decide)) | (simp only [decide_eq_true_eq, decide_eq_false_iff_not, beq_iff_eq, bne_iff_ne, ne_eq, beq_eq_false_iff_ne, bne_eq_false_iff_eq, Bool.not_eq_true', Bool.not_eq_false', Bool.not_eq_eq_eq_not, Bool.not_true, Bool.not_false, Int.not_lt, Int.not_le, gt_iff_lt, ge_iff_le, Bool.or_eq_true, Bool.and_eq_true, Bool.or_eq_false_iff, Decidable.not_not] at hb) | skip))
    -- LOOP C
    refine wpS_loop_inv (fun x : Nat × Bool => [(0, .w (.p (.str (encs l)))), (1, .w (.p (.sl 1 (ofBytes at_)))), (2, .w (.p (.sl 1 (ofBytes wide)))), (9, .w (.own 1 (plains (eI (units l))))),
      (12, .w (.own 1 (plains (ofBytes (hd ++ bsE w0 es))))), (13, .w (.own 1 (plains (eI (cutsOf 3 es))))), (14, .w (.p (.int .i64 (part : Nat)))), (15, .w (.p (.int .i64 (m : Nat)))), (16, .w (.p (.int .i64 es.length))), (17, .w (.p (.bool x.2))), (18, .w (.p (.int .i64 x.1)))])
      (fun x => x.1 ≤ at_.length ∧ (x.2 = true ↔ (es.length : Int) ∈ (at_.take x.1).map (fun b => (b.toNat : Int)))) (fun x => at_.length - x.1) (0, false) rfl ⟨by omega, by simp⟩ ?_
    rintro ⟨k, c⟩ ⟨hk, hc⟩ ihc
    dsimp only at hk hc ihc ⊢
    rcases Nat.lt_or_ge k at_.length with hlt | hge
    · obtain ⟨y, hy⟩ := get_lt hlt
      have hlt' : (k : Int) < at_.length := by omega
      have g := u8_lt y
      have htk : at_.take (k + 1) = at_.take k ++ [y] := by rw [List.take_succ, hy]; rfl
      cases c with
      | true =>
        have := ihc (k + 1, true) (by dsimp only; omega) ⟨by dsimp only; omega, by rw [htk, List.map_append]; simp only [true_iff, List.mem_append]; exact .inl (hc.1 rfl)⟩
        dsimp only at this
        repeat' (first | (apply wpS_label1) | (apply wpS_skip1) | (apply wpS_block) | ((first | apply wpS_seq_goto | apply wpS_seq_exit | apply wpS_seq_ret); (try simp only [thenS, blockS, ↓reduceIte, Nat.reduceEqDiff])) | (apply wpS_seq_cond) | (apply wpS_seq_block) | (apply wpS_seq_loop) | (apply wpS_seq_scope) | (apply wpS_seq_seq) | ((first | apply wpS_stepT | apply wpS_stepDT | refine wpS_regL rfl ?_ | refine wpS_drawL rfl ?_ | apply wpS_condT); intro rr hrr; (simp -implicitDefEqProofs +contextual (maxSteps := 10000000) (disch := first | assumption | with_unfolding_all exact id rfl | omega | decide) only [go_sem, Int.reduceToNat, Int.reduceAdd, Int.reduceSub, Int.reduceMul, Int.reduceNeg, Int.reducePow, Int.reduceLT, Int.reduceLE, Int.reduceEq, Int.reduceNe, Int.reduceBEq, Int.reduceBNe, Int.reduceDiv, Int.reduceMod, Nat.reducePow, ↓reduceIte, reduceCtorEq, Nat.reduceEqDiff, Nat.reduceLT, Nat.reduceLeDiff, Nat.reduceAdd, Nat.reduceSub, Nat.reduceMul, Nat.reduceBEq, Nat.reduceBNe, hlt']); (first | ((with_reducible apply oThen_intro; (first | (refine hrr _ _ (by kernel_rfl) ?_) | (refine hrr _ ?_ ?_) | (refine hrr _ ?_)) <;> clear hrr rr); (try dsimp only [thenS, blockS])) | (with_reducible apply oThen_gcond))) | ((first | apply wpS_skip | apply wpS_exit | apply wpS_goto | apply wpS_ret); (try simp only [thenS, blockS, ↓reduceIte, Nat.reduceEqDiff])) | (with_reducible apply oThen_intro; (first | (refine hrr _ _ (by kernel_rfl) ?_) | (refine hrr _ ?_ ?_) | (refine hrr _ ?_)) <;> clear hrr rr) | (with_reducible apply oThen_gcond) | (intro hb; first | (exact absurd hb (by decide)) | (simp only [decide_eq_true_eq, decide_eq_false_iff_not, beq_iff_eq, bne_iff_ne, ne_eq, beq_eq_false_iff_ne, bne_eq_false_iff_eq, Bool.not_eq_true', Bool.not_eq_false', Bool.not_eq_eq_eq_not, Bool.not_true, Bool.not_false, Int.not_lt, Int.not_le, gt_iff_lt, ge_iff_le, Bool.or_eq_true, Bool.and_eq_true, Bool.or_eq_false_iff, Decidable.not_not] at hb) | skip))
        exact WpS.keepE [0, 1, 2, 9, 12, 13, 14, 15, 16, 17, 18] this rfl
      | false =>
        have hno : ¬ (es.length : Int) ∈ (at_.take k).map (fun b => (b.toNat : Int)) := fun q => by simpa using hc.2 q
        by_cases hyk : (y.toNat : Int) = es.length
        · have hyk' : ((y.toNat : Int) = es.length) = True := eq_true hyk
          have := ihc (k + 1, true) (by dsimp only; omega) ⟨by dsimp only; omega, by rw [htk, List.map_append]; simp [hyk]⟩
          dsimp only at this
          repeat' (first | (apply wpS_label1) | (apply wpS_skip1) | (apply wpS_block) | ((first | apply wpS_seq_goto | apply wpS_seq_exit | apply wpS_seq_ret); (try simp only [thenS, blockS, ↓reduceIte, Nat.reduceEqDiff])) | (apply wpS_seq_cond) | (apply wpS_seq_block) | (apply wpS_seq_loop) | (apply wpS_seq_scope) | (apply wpS_seq_seq) | ((first | apply wpS_stepT | apply wpS_stepDT | refine wpS_regL rfl ?_ | refine wpS_drawL rfl ?_ | apply wpS_condT); intro rr hrr; (simp -implicitDefEqProofs +contextual (maxSteps := 10000000) (disch := first | assumption | with_unfolding_all exact id rfl | omega | decide) only [go_sem, Int.reduceToNat, Int.reduceAdd, Int.reduceSub, Int.reduceMul, Int.reduceNeg, Int.reducePow, Int.reduceLT, Int.reduceLE, Int.reduceEq, Int.reduceNe, Int.reduceBEq, Int.reduceBNe, Int.reduceDiv, Int.reduceMod, Nat.reducePow, ↓reduceIte, reduceCtorEq, Nat.reduceEqDiff, Nat.reduceLT, Nat.reduceLeDiff, Nat.reduceAdd, Nat.reduceSub, Nat.reduceMul, Nat.reduceBEq, Nat.reduceBNe, hlt', hy, hyk']); (first | ((with_reducible apply oThen_intro; (first | (refine hrr _ _ (by kernel_rfl) ?_) | (refine hrr _ ?_ ?_) | (refine hrr _ ?_)) <;> clear hrr rr); (try dsimp only [thenS, blockS])) | (with_reducible apply oThen_gcond))) | ((first | apply wpS_skip | apply wpS_exit | apply wpS_goto | apply wpS_ret); (try simp only [thenS, blockS, ↓reduceIte, Nat.reduceEqDiff])) | (with_reducible apply oThen_intro; (first | (refine hrr _ _ (by kernel_rfl) ?_) | (refine hrr _ ?_ ?_) | (refine hrr _ ?_)) <;> clear hrr rr) | (with_reducible apply oThen_gcond) | (intro hb; first | (exact absurd hb (by decide)) | (simp only [decide_eq_true_eq, decide_eq_false_iff_not, beq_iff_eq, bne_iff_ne, ne_eq, beq_eq_false_iff_ne, bne_eq_false_iff_eq, Bool.not_eq_true', Bool.not_eq_false', Bool.not_eq_eq_eq_not, Bool.not_true, Bool.not_false, Int.not_lt, Int.not_le, gt_iff_lt, ge_iff_le, Bool.or_eq_true, Bool.and_eq_true, Bool.or_eq_false_iff, Decidable.not_not] at hb) | skip))
          exact WpS.keepE [0, 1, 2, 9, 12, 13, 14, 15, 16, 17, 18] this rfl
        · have hyk' : ((y.toNat : Int) = es.length) = False := eq_false hyk
          have := ihc (k + 1, false) (by dsimp only; omega) ⟨by dsimp only; omega, by
            rw [htk, List.map_append]
            simp only [Bool.false_eq_true, false_iff, List.mem_append, not_or]
            exact ⟨hno, by simpa using fun e => hyk e.symm⟩⟩
          dsimp only at this
          repeat' (first | (apply wpS_label1) | (apply wpS_skip1) | (apply wpS_block) | ((first | apply wpS_seq_goto | apply wpS_seq_exit | apply wpS_seq_ret); (try simp only [thenS, blockS, ↓reduceIte, Nat.reduceEqDiff])) | (apply wpS_seq_cond) | (apply wpS_seq_block) | (apply wpS_seq_loop) | (apply wpS_seq_scope) | (apply wpS_seq_seq) | ((first | apply wpS_stepT | apply wpS_stepDT | refine wpS_regL rfl ?_ | refine wpS_drawL rfl ?_ | apply wpS_condT); intro rr hrr; (simp -implicitDefEqProofs +contextual (maxSteps := 10000000) (disch := first | assumption | with_unfolding_all exact id rfl | omega | decide) only [go_sem, Int.reduceToNat, Int.reduceAdd, Int.reduceSub, Int.reduceMul, Int.reduceNeg, Int.reducePow, Int.reduceLT, Int.reduceLE, Int.reduceEq, Int.reduceNe, Int.reduceBEq, Int.reduceBNe, Int.reduceDiv, Int.reduceMod, Nat.reducePow, ↓reduceIte, reduceCtorEq, Nat.reduceEqDiff, Nat.reduceLT, Nat.reduceLeDiff, Nat.reduceAdd, Nat.reduceSub, Nat.reduceMul, Nat.reduceBEq, Nat.reduceBNe, hlt', hy, hyk']); (first | ((with_reducible apply oThen_intro; (first | (refine hrr _ _ (by kernel_rfl) ?_) | (refine hrr _ ?_ ?_) | (refine hrr _ ?_)) <;> clear hrr rr); (try dsimp only [thenS, blockS])) | (with_reducible apply oThen_gcond))) | ((first | apply wpS_skip | apply wpS_exit | apply wpS_goto | apply wpS_ret); (try simp only [thenS, blockS, ↓reduceIte, Nat.reduceEqDiff])) | (with_reducible apply oThen_intro; (first | (refine hrr _ _ (by kernel_rfl) ?_) | (refine hrr _ ?_ ?_) | (refine hrr _ ?_)) <;> clear hrr rr) | (with_reducible apply oThen_gcond) | (intro hb; first | (exact absurd hb (by decide)) | (simp only [decide_eq_true_eq, decide_eq_false_iff_not, beq_iff_eq, bne_iff_ne, ne_eq, beq_eq_false_iff_ne, bne_eq_false_iff_eq, Bool.not_eq_true', Bool.not_eq_false', Bool.not_eq_eq_eq_not, Bool.not_true, Bool.not_false, Int.not_lt, Int.not_le, gt_iff_lt, ge_iff_le, Bool.or_eq_true, Bool.and_eq_true, Bool.or_eq_false_iff, Decidable.not_not] at hb) | skip))
          exact WpS.keepE [0, 1, 2, 9, 12, 13, 14, 15, 16, 17, 18] this rfl
    have hge' : ¬ (k : Int) < at_.length := by omega
    rw [List.take_of_length_le hge] at hc
    clear ihc
    cases rest with
    | nil =>
      -- THE END
      rw [List.append_nil] at hu
      rw [List.length_nil, Nat.add_zero] at hul2
      have hin : ((es.length : Int) = (units l).length) = True := eq_true (by omega)
      have hG : ∀ (w : Bool), wch w es → ansOf E F_str_Get [.a [.p (.sl 1 (ofBytes (hd ++ (wb w :: (es.flatMap enB ++ [7]))))), .p (.int .i64 0)], .w (.p (.sl 1 (eI (cutsOf 3 es))))] = some ([(false, [.p (.str (encs l))]), (true, [.p (.sl 1 (ofBytes (hd ++ (wb w :: (es.flatMap enB ++ [7]))))), .p (.int .i64 ((2 + ((es.flatMap enB).length + 1) : Nat) : Int))]), (false, [.p (.int .i64 0)])], []) := by
        intro w hw
        have h := Get_good 0 (hd ++ (wb w :: (es.flatMap enB ++ [7]))) (cutsOf 3 es) _ _ w es [7] l (by rw [← hhd]; rfl) (by rw [List.length_append, List.length_cons, List.length_append, List.length_singleton]; omega) (by omega)
          (by rw [by8_nat, by8_nat]; omega) (by omega) (okEs_cuts es 3 w [] (by simp) hw hbnd) hu.symm hg (by omega)
        rw [show 0 + 3 + (es.flatMap enB).length = 2 + ((es.flatMap enB).length + 1) by omega] at h
        exact h
      by_cases h0 : es = []
      · have h0' : ((es.length : Int) = 0) = True := eq_true (by rw [h0]; rfl)
        have hG := hG false (by rw [h0]; trivial)
        have hf0 : es.flatMap enB = [] := by rw [h0]; rfl
        have hb0 : bsE w0 es = [] := by rw [h0]; rfl
        have hw0 : wb false = 0 := rfl
        rw [hf0, hw0] at hG
        simp only [List.nil_append, List.length_nil, Nat.zero_add, Nat.reduceAdd] at hG
        rw [hb0, List.append_nil]
        repeat' (first | (apply wpS_label1) | (apply wpS_skip1) | (apply wpS_block) | ((first | apply wpS_seq_goto | apply wpS_seq_exit | apply wpS_seq_ret); (try simp only [thenS, blockS, ↓reduceIte, Nat.reduceEqDiff])) | (apply wpS_seq_cond) | (apply wpS_seq_block) | (apply wpS_seq_loop) | (apply wpS_seq_scope) | (apply wpS_seq_seq) | ((first | apply wpS_stepT | apply wpS_stepDT | refine wpS_regL rfl ?_ | refine wpS_drawL rfl ?_ | apply wpS_condT); intro rr hrr; (simp -implicitDefEqProofs +contextual (maxSteps := 10000000) (disch := first | assumption | with_unfolding_all exact id rfl | omega | decide) only [go_sem, Int.reduceToNat, Int.reduceAdd, Int.reduceSub, Int.reduceMul, Int.reduceNeg, Int.reducePow, Int.reduceLT, Int.reduceLE, Int.reduceEq, Int.reduceNe, Int.reduceBEq, Int.reduceBNe, Int.reduceDiv, Int.reduceMod, Nat.reducePow, ↓reduceIte, reduceCtorEq, Nat.reduceEqDiff, Nat.reduceLT, Nat.reduceLeDiff, Nat.reduceAdd, Nat.reduceSub, Nat.reduceMul, Nat.reduceBEq, Nat.reduceBNe, hge', hin, h0', p_u80, p_u7, hG, hd2]); (first | ((with_reducible apply oThen_intro; (first | (refine hrr _ _ (by kernel_rfl) ?_) | (refine hrr _ ?_ ?_) | (refine hrr _ ?_)) <;> clear hrr rr); (try dsimp only [thenS, blockS])) | (with_reducible apply oThen_gcond))) | ((first | apply wpS_skip | apply wpS_exit | apply wpS_goto | apply wpS_ret); (try simp only [thenS, blockS, ↓reduceIte, Nat.reduceEqDiff])) | (with_reducible apply oThen_intro; (first | (refine hrr _ _ (by kernel_rfl) ?_) | (refine hrr _ ?_ ?_) | (refine hrr _ ?_)) <;> clear hrr rr) | (with_reducible apply oThen_gcond) | (intro hb; first | (exact absurd hb (by decide)) | (simp only [decide_eq_true_eq, decide_eq_false_iff_not, beq_iff_eq, bne_iff_ne, ne_eq, beq_eq_false_iff_ne, bne_eq_false_iff_eq, Bool.not_eq_true', Bool.not_eq_false', Bool.not_eq_eq_eq_not, Bool.not_true, Bool.not_false, Int.not_lt, Int.not_le, gt_iff_lt, ge_iff_le, Bool.or_eq_true, Bool.and_eq_true, Bool.or_eq_false_iff, Decidable.not_not] at hb) | skip))
        (refine ⟨by simp, ?_⟩; (simp -implicitDefEqProofs +contextual (maxSteps := 10000000) (disch := first | assumption | with_unfolding_all exact id rfl | omega | decide) only [go_sem, Int.reduceToNat, Int.reduceAdd, Int.reduceSub, Int.reduceMul, Int.reduceNeg, Int.reducePow, Int.reduceLT, Int.reduceLE, Int.reduceEq, Int.reduceNe, Int.reduceBEq, Int.reduceBNe, Int.reduceDiv, Int.reduceMod, Nat.reducePow, ↓reduceIte, reduceCtorEq, Nat.reduceEqDiff, Nat.reduceLT, Nat.reduceLeDiff, Nat.reduceAdd, Nat.reduceSub, Nat.reduceMul, Nat.reduceBEq, Nat.reduceBNe, law6_StrCuts]))
      · have h0' : ((es.length : Int) = 0) = False := eq_false (by have := List.length_pos_iff.2 h0; omega)
        have hG := hG w0 hwch
        rw [bsE, if_neg h0]
        repeat' (first | (apply wpS_label1) | (apply wpS_skip1) | (apply wpS_block) | ((first | apply wpS_seq_goto | apply wpS_seq_exit | apply wpS_seq_ret); (try simp only [thenS, blockS, ↓reduceIte, Nat.reduceEqDiff])) | (apply wpS_seq_cond) | (apply wpS_seq_block) | (apply wpS_seq_loop) | (apply wpS_seq_scope) | (apply wpS_seq_seq) | ((first | apply wpS_stepT | apply wpS_stepDT | refine wpS_regL rfl ?_ | refine wpS_drawL rfl ?_ | apply wpS_condT); intro rr hrr; (simp -implicitDefEqProofs +contextual (maxSteps := 10000000) (disch := first | assumption | with_unfolding_all exact id rfl | omega | decide) only [go_sem, Int.reduceToNat, Int.reduceAdd, Int.reduceSub, Int.reduceMul, Int.reduceNeg, Int.reducePow, Int.reduceLT, Int.reduceLE, Int.reduceEq, Int.reduceNe, Int.reduceBEq, Int.reduceBNe, Int.reduceDiv, Int.reduceMod, Nat.reducePow, ↓reduceIte, reduceCtorEq, Nat.reduceEqDiff, Nat.reduceLT, Nat.reduceLeDiff, Nat.reduceAdd, Nat.reduceSub, Nat.reduceMul, Nat.reduceBEq, Nat.reduceBNe, hge', hin, h0', p_u7, hG, hd2]); (first | ((with_reducible apply oThen_intro; (first | (refine hrr _ _ (by kernel_rfl) ?_) | (refine hrr _ ?_ ?_) | (refine hrr _ ?_)) <;> clear hrr rr); (try dsimp only [thenS, blockS])) | (with_reducible apply oThen_gcond))) | ((first | apply wpS_skip | apply wpS_exit | apply wpS_goto | apply wpS_ret); (try simp only [thenS, blockS, ↓reduceIte, Nat.reduceEqDiff])) | (with_reducible apply oThen_intro; (first | (refine hrr _ _ (by kernel_rfl) ?_) | (refine hrr _ ?_ ?_) | (refine hrr _ ?_)) <;> clear hrr rr) | (with_reducible apply oThen_gcond) | (intro hb; first | (exact absurd hb (by decide)) | (simp only [decide_eq_true_eq, decide_eq_false_iff_not, beq_iff_eq, bne_iff_ne, ne_eq, beq_eq_false_iff_ne, bne_eq_false_iff_eq, Bool.not_eq_true', Bool.not_eq_false', Bool.not_eq_eq_eq_not, Bool.not_true, Bool.not_false, Int.not_lt, Int.not_le, gt_iff_lt, ge_iff_le, Bool.or_eq_true, Bool.and_eq_true, Bool.or_eq_false_iff, Decidable.not_not] at hb) | skip))
        (refine ⟨by simp, ?_⟩; (simp -implicitDefEqProofs +contextual (maxSteps := 10000000) (disch := first | assumption | with_unfolding_all exact id rfl | omega | decide) only [go_sem, Int.reduceToNat, Int.reduceAdd, Int.reduceSub, Int.reduceMul, Int.reduceNeg, Int.reducePow, Int.reduceLT, Int.reduceLE, Int.reduceEq, Int.reduceNe, Int.reduceBEq, Int.reduceBNe, Int.reduceDiv, Int.reduceMod, Nat.reducePow, ↓reduceIte, reduceCtorEq, Nat.reduceEqDiff, Nat.reduceLT, Nat.reduceLeDiff, Nat.reduceAdd, Nat.reduceSub, Nat.reduceMul, Nat.reduceBEq, Nat.reduceBNe, law6_StrCuts]))
    | cons v rest =>
      rw [List.length_cons] at hul2
      have hin : ((es.length : Int) = (units l).length) = False := eq_false (by omega)
      have hv : (units l)[es.length]? = some v := by rw [hu, List.getElem?_append_right (by simp)]; simp
      obtain ⟨r1, r2⟩ := units_rng hg v (by rw [hu]; simp)
      have hu2 : ∀ e : En, e.u = v → units l = (es ++ [e]).map En.u ++ rest := by intro e he; rw [hu, List.map_append]; simp [he]
      obtain ⟨y, hy⟩ := get_lt (l := wide) (i := part % wide.length) (Nat.mod_lt _ (by omega))
      obtain ⟨m0, hm0, hm0'⟩ : ∃ m0 : Nat, m0 ≤ 1 ∧ ((y.toNat : Int).tmod 2) = (m0 : Int) := ⟨y.toNat % 2, by omega, rfl⟩
      have hpm : ((part : Int).tmod (wide.length : Int)) = ((part % wide.length : Nat) : Int) := rfl
      have gy := u8_lt y
      by_cases h0 : es = []
      · have h0' : ((es.length : Int) = 0) = True := eq_true (by rw [h0]; rfl)
        have hb0 : bsE w0 es = [] := by rw [h0]; rfl
        rw [hb0, List.append_nil]
        repeat' (first | (apply wpS_label1) | (apply wpS_skip1) | (apply wpS_block) | ((first | apply wpS_seq_goto | apply wpS_seq_exit | apply wpS_seq_ret); (try simp only [thenS, blockS, ↓reduceIte, Nat.reduceEqDiff])) | (apply wpS_seq_cond) | (apply wpS_seq_block) | (apply wpS_seq_loop) | (apply wpS_seq_scope) | (apply wpS_seq_seq) | ((first | apply wpS_stepT | apply wpS_stepDT | refine wpS_regL rfl ?_ | refine wpS_drawL rfl ?_ | apply wpS_condT); intro rr hrr; (simp -implicitDefEqProofs +contextual (maxSteps := 10000000) (disch := first | assumption | with_unfolding_all exact id rfl | omega | decide) only [go_sem, Int.reduceToNat, Int.reduceAdd, Int.reduceSub, Int.reduceMul, Int.reduceNeg, Int.reducePow, Int.reduceLT, Int.reduceLE, Int.reduceEq, Int.reduceNe, Int.reduceBEq, Int.reduceBNe, Int.reduceDiv, Int.reduceMod, Nat.reducePow, ↓reduceIte, reduceCtorEq, Nat.reduceEqDiff, Nat.reduceLT, Nat.reduceLeDiff, Nat.reduceAdd, Nat.reduceSub, Nat.reduceMul, Nat.reduceBEq, Nat.reduceBNe, hge', hin, h0', h3, hpm, hy, hm0']); (first | ((with_reducible apply oThen_intro; (first | (refine hrr _ _ (by kernel_rfl) ?_) | (refine hrr _ ?_ ?_) | (refine hrr _ ?_)) <;> clear hrr rr); (try dsimp only [thenS, blockS])) | (with_reducible apply oThen_gcond))) | ((first | apply wpS_skip | apply wpS_exit | apply wpS_goto | apply wpS_ret); (try simp only [thenS, blockS, ↓reduceIte, Nat.reduceEqDiff])) | (with_reducible apply oThen_intro; (first | (refine hrr _ _ (by kernel_rfl) ?_) | (refine hrr _ ?_ ?_) | (refine hrr _ ?_)) <;> clear hrr rr) | (with_reducible apply oThen_gcond) | (intro hb; first | (exact absurd hb (by decide)) | (simp only [decide_eq_true_eq, decide_eq_false_iff_not, beq_iff_eq, bne_iff_ne, ne_eq, beq_eq_false_iff_ne, bne_eq_false_iff_eq, Bool.not_eq_true', Bool.not_eq_false', Bool.not_eq_eq_eq_not, Bool.not_true, Bool.not_false, Int.not_lt, Int.not_le, gt_iff_lt, ge_iff_le, Bool.or_eq_true, Bool.and_eq_true, Bool.or_eq_false_iff, Decidable.not_not] at hb) | skip))
        have h00 : ¬ (0 : Int) < es.length := by rw [h0]; decide
        refine wpS_loop_inv (fun x : Nat × Nat => [(0, .w (.p (.str (encs l)))), (1, .w (.p (.sl 1 (ofBytes at_)))), (2, .w (.p (.sl 1 (ofBytes wide)))), (9, .w (.own 1 (plains (eI (units l))))), (12, .w (.own 1 (plains (ofBytes (hd))))), (13, .w (.own 1 (plains (eI (cutsOf 3 es))))), (14, .w (.p (.int .i64 (part : Nat)))), (15, .w (.p (.int .i64 (x.2 : Nat)))), (16, .w (.p (.int .i64 es.length))), (19, .w (.p (.int .i64 x.1)))])
          (fun x => es.length ≤ x.1 ∧ x.1 ≤ (units l).length ∧ x.2 ≤ 1 ∧ (x.2 = 0 → ∀ (q : Nat) (u : Int), es.length ≤ q → q < x.1 → (units l)[q]? = some u → u ≤ 255) ∧ (∀ j : Nat, es.length < j → j < x.1 → (j : Int) ∉ at_.map (fun b => (b.toNat : Int))))
          (fun x => (units l).length - x.1) (es.length, m0) rfl ⟨by simp, by dsimp only; omega, hm0, fun _ q u q1 q2 => by dsimp only at q2; omega, fun j j1 j2 => by dsimp only at j2; omega⟩ ?_
        rintro ⟨kk, mm⟩ ⟨d1, d2, d3, d4, d5⟩ ihd
        dsimp only at d1 d2 d3 d4 d5 ihd ⊢
        have hmm : mm = 0 ∨ mm = 1 := by omega
        by_cases hex : kk = (units l).length ∨ (es.length < kk ∧ (kk : Int) ∈ at_.map (fun b => (b.toNat : Int)))
        · have hN2 : mm = 0 → ∀ (q : Nat) (u : Int), es.length ≤ q → (units l)[q]? = some u → (∀ j : Nat, es.length < j → j ≤ q → (j : Int) ∉ at_.map (fun b => (b.toNat : Int))) → u ≤ 255 := by
            intro z q u q1 q2 q3
            have q4 := (List.getElem?_eq_some_iff.1 q2).1
            refine d4 z q u q1 ?_ q2
            rcases hex with e | ⟨e1, e2⟩
            · omega
            · rcases Nat.lt_or_ge q kk with q5 | q5
              · exact q5
              · exact absurd e2 (q3 kk e1 q5)
          have hw255 : mm = 0 → v ≤ 255 := fun z => hN2 z es.length v (Nat.le_refl _) hv (fun j j1 j2 => by omega)
          clear d4 d5 ihd
          by_cases hkn : kk = (units l).length
          · have hf : ¬ (kk : Int) < (units l).length := by omega
            rcases hmm with z | z
            · subst z
              have hz : ((0 : Nat) : Int) = 0 := rfl
              have hb1 : bsE false (es ++ [⟨false, false, v⟩]) = [0, by8 v] := by rw [h0]; rfl
              have := ih (es ++ [⟨false, false, v⟩], rest, 0, part + 1, false) (by simp) ⟨hu2 _ rfl, by dsimp only; rw [h0]; exact ⟨fun _ => rfl, trivial⟩, fun _ => by dsimp only; rw [wend_snoc]; rfl, ?B, by simp, by simp; omega, fun _ z q u q1 q2 q3 => ?N⟩
              case B =>
                intro e he
                rcases List.mem_append.1 he with q | q
                · exact hbnd e q
                · rw [List.mem_singleton] at q; subst q; exact ⟨r1, by have := hw255 rfl; show v < 256; omega⟩
              case N =>
                dsimp only at z q1 q3
                rw [List.length_append, List.length_singleton] at q1 q3
                exact hN2 z q u (by omega) q2 fun j j1 j2 => q3 j (by omega) j2
              dsimp only at this
              rw [hb1, cutsOf_snoc, if_neg Bool.false_ne_true, List.append_nil, List.length_append, List.length_singleton] at this
              repeat' (first | (apply wpS_label1) | (apply wpS_skip1) | (apply wpS_block) | ((first | apply wpS_seq_goto | apply wpS_seq_exit | apply wpS_seq_ret); (try simp only [thenS, blockS, ↓reduceIte, Nat.reduceEqDiff])) | (apply wpS_seq_cond) | (apply wpS_seq_block) | (apply wpS_seq_loop) | (apply wpS_seq_scope) | (apply wpS_seq_seq) | ((first | apply wpS_stepT | apply wpS_stepDT | refine wpS_regL rfl ?_ | refine wpS_drawL rfl ?_ | apply wpS_condT); intro rr hrr; (simp -implicitDefEqProofs +contextual (maxSteps := 10000000) (disch := first | assumption | with_unfolding_all exact id rfl | omega | decide) only [go_sem, Int.reduceToNat, Int.reduceAdd, Int.reduceSub, Int.reduceMul, Int.reduceNeg, Int.reducePow, Int.reduceLT, Int.reduceLE, Int.reduceEq, Int.reduceNe, Int.reduceBEq, Int.reduceBNe, Int.reduceDiv, Int.reduceMod, Nat.reducePow, ↓reduceIte, reduceCtorEq, Nat.reduceEqDiff, Nat.reduceLT, Nat.reduceLeDiff, Nat.reduceAdd, Nat.reduceSub, Nat.reduceMul, Nat.reduceBEq, Nat.reduceBNe, hf, hz, h00, hv, p_u80]); (first | ((with_reducible apply oThen_intro; (first | (refine hrr _ _ (by kernel_rfl) ?_) | (refine hrr _ ?_ ?_) | (refine hrr _ ?_)) <;> clear hrr rr); (try dsimp only [thenS, blockS])) | (with_reducible apply oThen_gcond))) | ((first | apply wpS_skip | apply wpS_exit | apply wpS_goto | apply wpS_ret); (try simp only [thenS, blockS, ↓reduceIte, Nat.reduceEqDiff])) | (with_reducible apply oThen_intro; (first | (refine hrr _ _ (by kernel_rfl) ?_) | (refine hrr _ ?_ ?_) | (refine hrr _ ?_)) <;> clear hrr rr) | (with_reducible apply oThen_gcond) | (intro hb; first | (exact absurd hb (by decide)) | (simp only [decide_eq_true_eq, decide_eq_false_iff_not, beq_iff_eq, bne_iff_ne, ne_eq, beq_eq_false_iff_ne, bne_eq_false_iff_eq, Bool.not_eq_true', Bool.not_eq_false', Bool.not_eq_eq_eq_not, Bool.not_true, Bool.not_false, Int.not_lt, Int.not_le, gt_iff_lt, ge_iff_le, Bool.or_eq_true, Bool.and_eq_true, Bool.or_eq_false_iff, Decidable.not_not] at hb) | skip))
              exact WpS.keepE [0, 1, 2, 9, 12, 13, 14, 15, 16] this rfl

            · subst z
              have hz : ((1 : Nat) : Int) = 1 := rfl
              have hb1 : bsE true (es ++ [⟨true, false, v⟩]) = [1, by8 v, by8 (v / 256)] := by rw [h0]; rfl
              have := ih (es ++ [⟨true, false, v⟩], rest, 1, part + 1, true) (by simp) ⟨hu2 _ rfl, by dsimp only; rw [h0]; exact ⟨fun _ => rfl, trivial⟩, fun _ => by dsimp only; rw [wend_snoc]; rfl, ?B, by simp, by simp; omega, fun _ z q u q1 q2 q3 => ?N⟩
              case B =>
                intro e he
                rcases List.mem_append.1 he with q | q
                · exact hbnd e q
                · rw [List.mem_singleton] at q; subst q; exact ⟨r1, r2⟩
              case N =>
                dsimp only at z q1 q3
                rw [List.length_append, List.length_singleton] at q1 q3
                exact hN2 z q u (by omega) q2 fun j j1 j2 => q3 j (by omega) j2
              dsimp only at this
              rw [hb1, cutsOf_snoc, if_neg Bool.false_ne_true, List.append_nil, List.length_append, List.length_singleton] at this
              repeat' (first | (apply wpS_label1) | (apply wpS_skip1) | (apply wpS_block) | ((first | apply wpS_seq_goto | apply wpS_seq_exit | apply wpS_seq_ret); (try simp only [thenS, blockS, ↓reduceIte, Nat.reduceEqDiff])) | (apply wpS_seq_cond) | (apply wpS_seq_block) | (apply wpS_seq_loop) | (apply wpS_seq_scope) | (apply wpS_seq_seq) | ((first | apply wpS_stepT | apply wpS_stepDT | refine wpS_regL rfl ?_ | refine wpS_drawL rfl ?_ | apply wpS_condT); intro rr hrr; (simp -implicitDefEqProofs +contextual (maxSteps := 10000000) (disch := first | assumption | with_unfolding_all exact id rfl | omega | decide) only [go_sem, Int.reduceToNat, Int.reduceAdd, Int.reduceSub, Int.reduceMul, Int.reduceNeg, Int.reducePow, Int.reduceLT, Int.reduceLE, Int.reduceEq, Int.reduceNe, Int.reduceBEq, Int.reduceBNe, Int.reduceDiv, Int.reduceMod, Nat.reducePow, ↓reduceIte, reduceCtorEq, Nat.reduceEqDiff, Nat.reduceLT, Nat.reduceLeDiff, Nat.reduceAdd, Nat.reduceSub, Nat.reduceMul, Nat.reduceBEq, Nat.reduceBNe, hf, hz, h00, hv, p_u81]); (first | ((with_reducible apply oThen_intro; (first | (refine hrr _ _ (by kernel_rfl) ?_) | (refine hrr _ ?_ ?_) | (refine hrr _ ?_)) <;> clear hrr rr); (try dsimp only [thenS, blockS])) | (with_reducible apply oThen_gcond))) | ((first | apply wpS_skip | apply wpS_exit | apply wpS_goto | apply wpS_ret); (try simp only [thenS, blockS, ↓reduceIte, Nat.reduceEqDiff])) | (with_reducible apply oThen_intro; (first | (refine hrr _ _ (by kernel_rfl) ?_) | (refine hrr _ ?_ ?_) | (refine hrr _ ?_)) <;> clear hrr rr) | (with_reducible apply oThen_gcond) | (intro hb; first | (exact absurd hb (by decide)) | (simp only [decide_eq_true_eq, decide_eq_false_iff_not, beq_iff_eq, bne_iff_ne, ne_eq, beq_eq_false_iff_ne, bne_eq_false_iff_eq, Bool.not_eq_true', Bool.not_eq_false', Bool.not_eq_eq_eq_not, Bool.not_true, Bool.not_false, Int.not_lt, Int.not_le, gt_iff_lt, ge_iff_le, Bool.or_eq_true, Bool.and_eq_true, Bool.or_eq_false_iff, Decidable.not_not] at hb) | skip))
              exact WpS.keepE [0, 1, 2, 9, 12, 13, 14, 15, 16] this rfl

          · have hf : (kk : Int) < (units l).length := by omega
            obtain ⟨hk1, hk2⟩ := hex.resolve_left hkn
            have hf2 : (es.length : Int) < kk := by omega
            have hI := isAt_spec at_ kk (by omega)
            rw [decide_eq_true hk2] at hI
            rcases hmm with z | z
            · subst z
              have hz : ((0 : Nat) : Int) = 0 := rfl
              have hb1 : bsE false (es ++ [⟨false, false, v⟩]) = [0, by8 v] := by rw [h0]; rfl
              have := ih (es ++ [⟨false, false, v⟩], rest, 0, part + 1, false) (by simp) ⟨hu2 _ rfl, by dsimp only; rw [h0]; exact ⟨fun _ => rfl, trivial⟩, fun _ => by dsimp only; rw [wend_snoc]; rfl, ?B, by simp, by simp; omega, fun _ z q u q1 q2 q3 => ?N⟩
              case B =>
                intro e he
                rcases List.mem_append.1 he with q | q
                · exact hbnd e q
                · rw [List.mem_singleton] at q; subst q; exact ⟨r1, by have := hw255 rfl; show v < 256; omega⟩
              case N =>
                dsimp only at z q1 q3
                rw [List.length_append, List.length_singleton] at q1 q3
                exact hN2 z q u (by omega) q2 fun j j1 j2 => q3 j (by omega) j2
              dsimp only at this
              rw [hb1, cutsOf_snoc, if_neg Bool.false_ne_true, List.append_nil, List.length_append, List.length_singleton] at this
              repeat' (first | (apply wpS_label1) | (apply wpS_skip1) | (apply wpS_block) | ((first | apply wpS_seq_goto | apply wpS_seq_exit | apply wpS_seq_ret); (try simp only [thenS, blockS, ↓reduceIte, Nat.reduceEqDiff])) | (apply wpS_seq_cond) | (apply wpS_seq_block) | (apply wpS_seq_loop) | (apply wpS_seq_scope) | (apply wpS_seq_seq) | ((first | apply wpS_stepT | apply wpS_stepDT | refine wpS_regL rfl ?_ | refine wpS_drawL rfl ?_ | apply wpS_condT); intro rr hrr; (simp -implicitDefEqProofs +contextual (maxSteps := 10000000) (disch := first | assumption | with_unfolding_all exact id rfl | omega | decide) only [go_sem, Int.reduceToNat, Int.reduceAdd, Int.reduceSub, Int.reduceMul, Int.reduceNeg, Int.reducePow, Int.reduceLT, Int.reduceLE, Int.reduceEq, Int.reduceNe, Int.reduceBEq, Int.reduceBNe, Int.reduceDiv, Int.reduceMod, Nat.reducePow, ↓reduceIte, reduceCtorEq, Nat.reduceEqDiff, Nat.reduceLT, Nat.reduceLeDiff, Nat.reduceAdd, Nat.reduceSub, Nat.reduceMul, Nat.reduceBEq, Nat.reduceBNe, hf, hf2, hI, hz, h00, hv, p_u80]); (first | ((with_reducible apply oThen_intro; (first | (refine hrr _ _ (by kernel_rfl) ?_) | (refine hrr _ ?_ ?_) | (refine hrr _ ?_)) <;> clear hrr rr); (try dsimp only [thenS, blockS])) | (with_reducible apply oThen_gcond))) | ((first | apply wpS_skip | apply wpS_exit | apply wpS_goto | apply wpS_ret); (try simp only [thenS, blockS, ↓reduceIte, Nat.reduceEqDiff])) | (with_reducible apply oThen_intro; (first | (refine hrr _ _ (by kernel_rfl) ?_) | (refine hrr _ ?_ ?_) | (refine hrr _ ?_)) <;> clear hrr rr) | (with_reducible apply oThen_gcond) | (intro hb; first | (exact absurd hb (by decide)) | (simp only [decide_eq_true_eq, decide_eq_false_iff_not, beq_iff_eq, bne_iff_ne, ne_eq, beq_eq_false_iff_ne, bne_eq_false_iff_eq, Bool.not_eq_true', Bool.not_eq_false', Bool.not_eq_eq_eq_not, Bool.not_true, Bool.not_false, Int.not_lt, Int.not_le, gt_iff_lt, ge_iff_le, Bool.or_eq_true, Bool.and_eq_true, Bool.or_eq_false_iff, Decidable.not_not] at hb) | skip))
              exact WpS.keepE [0, 1, 2, 9, 12, 13, 14, 15, 16] this rfl

            · subst z
              have hz : ((1 : Nat) : Int) = 1 := rfl
              have hb1 : bsE true (es ++ [⟨true, false, v⟩]) = [1, by8 v, by8 (v / 256)] := by rw [h0]; rfl
              have := ih (es ++ [⟨true, false, v⟩], rest, 1, part + 1, true) (by simp) ⟨hu2 _ rfl, by dsimp only; rw [h0]; exact ⟨fun _ => rfl, trivial⟩, fun _ => by dsimp only; rw [wend_snoc]; rfl, ?B, by simp, by simp; omega, fun _ z q u q1 q2 q3 => ?N⟩
              case B =>
                intro e he
                rcases List.mem_append.1 he with q | q
                · exact hbnd e q
                · rw [List.mem_singleton] at q; subst q; exact ⟨r1, r2⟩
              case N =>
                dsimp only at z q1 q3
                rw [List.length_append, List.length_singleton] at q1 q3
                exact hN2 z q u (by omega) q2 fun j j1 j2 => q3 j (by omega) j2
              dsimp only at this
              rw [hb1, cutsOf_snoc, if_neg Bool.false_ne_true, List.append_nil, List.length_append, List.length_singleton] at this
              repeat' (first | (apply wpS_label1) | (apply wpS_skip1) | (apply wpS_block) | ((first | apply wpS_seq_goto | apply wpS_seq_exit | apply wpS_seq_ret); (try simp only [thenS, blockS, ↓reduceIte, Nat.reduceEqDiff])) | (apply wpS_seq_cond) | (apply wpS_seq_block) | (apply wpS_seq_loop) | (apply wpS_seq_scope) | (apply wpS_seq_seq) | ((first | apply wpS_stepT | apply wpS_stepDT | refine wpS_regL rfl ?_ | refine wpS_drawL rfl ?_ | apply wpS_condT); intro rr hrr; (simp -implicitDefEqProofs +contextual (maxSteps := 10000000) (disch := first | assumption | with_unfolding_all exact id rfl | omega | decide) only [go_sem, Int.reduceToNat, Int.reduceAdd, Int.reduceSub, Int.reduceMul, Int.reduceNeg, Int.reducePow, Int.reduceLT, Int.reduceLE, Int.reduceEq, Int.reduceNe, Int.reduceBEq, Int.reduceBNe, Int.reduceDiv, Int.reduceMod, Nat.reducePow, ↓reduceIte, reduceCtorEq, Nat.reduceEqDiff, Nat.reduceLT, Nat.reduceLeDiff, Nat.reduceAdd, Nat.reduceSub, Nat.reduceMul, Nat.reduceBEq, Nat.reduceBNe, hf, hf2, hI, hz, h00, hv, p_u81]); (first | ((with_reducible apply oThen_intro; (first | (refine hrr _ _ (by kernel_rfl) ?_) | (refine hrr _ ?_ ?_) | (refine hrr _ ?_)) <;> clear hrr rr); (try dsimp only [thenS, blockS])) | (with_reducible apply oThen_gcond))) | ((first | apply wpS_skip | apply wpS_exit | apply wpS_goto | apply wpS_ret); (try simp only [thenS, blockS, ↓reduceIte, Nat.reduceEqDiff])) | (with_reducible apply oThen_intro; (first | (refine hrr _ _ (by kernel_rfl) ?_) | (refine hrr _ ?_ ?_) | (refine hrr _ ?_)) <;> clear hrr rr) | (with_reducible apply oThen_gcond) | (intro hb; first | (exact absurd hb (by decide)) | (simp only [decide_eq_true_eq, decide_eq_false_iff_not, beq_iff_eq, bne_iff_ne, ne_eq, beq_eq_false_iff_ne, bne_eq_false_iff_eq, Bool.not_eq_true', Bool.not_eq_false', Bool.not_eq_eq_eq_not, Bool.not_true, Bool.not_false, Int.not_lt, Int.not_le, gt_iff_lt, ge_iff_le, Bool.or_eq_true, Bool.and_eq_true, Bool.or_eq_false_iff, Decidable.not_not] at hb) | skip))
              exact WpS.keepE [0, 1, 2, 9, 12, 13, 14, 15, 16] this rfl

        · have hkn : kk < (units l).length := by
            rcases Nat.lt_or_ge kk (units l).length with q | q
            · exact q
            · exact absurd (.inl (by omega)) hex
          have hf : (kk : Int) < (units l).length := by omega
          obtain ⟨uk, huk⟩ := get_lt hkn
          have hgo : ∀ mm' : Nat, mm' ≤ 1 → (mm' = 0 → mm = 0 ∧ uk ≤ 255) → WpS E 202 law6_StrCuts_K (.loop law6_StrCuts_c75) _ _ := fun mm' g1 g2 => ihd (kk + 1, mm') (by dsimp only; omega) ⟨by dsimp only; omega, by dsimp only; omega, g1, fun z q u q1 q2 q3 => by
            dsimp only at q2
            by_cases hq : q = kk
            · subst hq; rw [huk] at q3; cases q3; exact (g2 z).2
            · exact d4 (g2 z).1 q u q1 (by omega) q3, fun j j1 j2 => by
            dsimp only at j2
            by_cases hj : j = kk
            · subst hj; exact fun q => hex (.inr ⟨j1, q⟩)
            · exact d5 j j1 (by omega)⟩
          clear ihd
          by_cases hf2 : (es.length : Int) < kk
          · have hI := isAt_spec at_ kk (by omega)
            rw [decide_eq_false (fun q => hex (.inr ⟨by omega, q⟩))] at hI
            by_cases h255 : (255 : Int) < uk
            · have := hgo 1 (by omega) (fun z => by omega)
              dsimp only at this
              repeat' (first | (apply wpS_label1) | (apply wpS_skip1) | (apply wpS_block) | ((first | apply wpS_seq_goto | apply wpS_seq_exit | apply wpS_seq_ret); (try simp only [thenS, blockS, ↓reduceIte, Nat.reduceEqDiff])) | (apply wpS_seq_cond) | (apply wpS_seq_block) | (apply wpS_seq_loop) | (apply wpS_seq_scope) | (apply wpS_seq_seq) | ((first | apply wpS_stepT | apply wpS_stepDT | refine wpS_regL rfl ?_ | refine wpS_drawL rfl ?_ | apply wpS_condT); intro rr hrr; (simp -implicitDefEqProofs +contextual (maxSteps := 10000000) (disch := first | assumption | with_unfolding_all exact id rfl | omega | decide) only [go_sem, Int.reduceToNat, Int.reduceAdd, Int.reduceSub, Int.reduceMul, Int.reduceNeg, Int.reducePow, Int.reduceLT, Int.reduceLE, Int.reduceEq, Int.reduceNe, Int.reduceBEq, Int.reduceBNe, Int.reduceDiv, Int.reduceMod, Nat.reducePow, ↓reduceIte, reduceCtorEq, Nat.reduceEqDiff, Nat.reduceLT, Nat.reduceLeDiff, Nat.reduceAdd, Nat.reduceSub, Nat.reduceMul, Nat.reduceBEq, Nat.reduceBNe, hf, hf2, hI, huk, h255]); (first | ((with_reducible apply oThen_intro; (first | (refine hrr _ _ (by kernel_rfl) ?_) | (refine hrr _ ?_ ?_) | (refine hrr _ ?_)) <;> clear hrr rr); (try dsimp only [thenS, blockS])) | (with_reducible apply oThen_gcond))) | ((first | apply wpS_skip | apply wpS_exit | apply wpS_goto | apply wpS_ret); (try simp only [thenS, blockS, ↓reduceIte, Nat.reduceEqDiff])) | (with_reducible apply oThen_intro; (first | (refine hrr _ _ (by kernel_rfl) ?_) | (refine hrr _ ?_ ?_) | (refine hrr _ ?_)) <;> clear hrr rr) | (with_reducible apply oThen_gcond) | (intro hb; first | (exact absurd hb (by decide)) | (simp only [decide_eq_true_eq, decide_eq_false_iff_not, beq_iff_eq, bne_iff_ne, ne_eq, beq_eq_false_iff_ne, bne_eq_false_iff_eq, Bool.not_eq_true', Bool.not_eq_false', Bool.not_eq_eq_eq_not, Bool.not_true, Bool.not_false, Int.not_lt, Int.not_le, gt_iff_lt, ge_iff_le, Bool.or_eq_true, Bool.and_eq_true, Bool.or_eq_false_iff, Decidable.not_not] at hb) | skip))
              exact WpS.keepE [0, 1, 2, 9, 12, 13, 14, 15, 16, 19] this rfl
            · have := hgo mm (by omega) (fun z => ⟨z, by omega⟩)
              dsimp only at this
              repeat' (first | (apply wpS_label1) | (apply wpS_skip1) | (apply wpS_block) | ((first | apply wpS_seq_goto | apply wpS_seq_exit | apply wpS_seq_ret); (try simp only [thenS, blockS, ↓reduceIte, Nat.reduceEqDiff])) | (apply wpS_seq_cond) | (apply wpS_seq_block) | (apply wpS_seq_loop) | (apply wpS_seq_scope) | (apply wpS_seq_seq) | ((first | apply wpS_stepT | apply wpS_stepDT | refine wpS_regL rfl ?_ | refine wpS_drawL rfl ?_ | apply wpS_condT); intro rr hrr; (simp -implicitDefEqProofs +contextual (maxSteps := 10000000) (disch := first | assumption | with_unfolding_all exact id rfl | omega | decide) only [go_sem, Int.reduceToNat, Int.reduceAdd, Int.reduceSub, Int.reduceMul, Int.reduceNeg, Int.reducePow, Int.reduceLT, Int.reduceLE, Int.reduceEq, Int.reduceNe, Int.reduceBEq, Int.reduceBNe, Int.reduceDiv, Int.reduceMod, Nat.reducePow, ↓reduceIte, reduceCtorEq, Nat.reduceEqDiff, Nat.reduceLT, Nat.reduceLeDiff, Nat.reduceAdd, Nat.reduceSub, Nat.reduceMul, Nat.reduceBEq, Nat.reduceBNe, hf, hf2, hI, huk, h255]); (first | ((with_reducible apply oThen_intro; (first | (refine hrr _ _ (by kernel_rfl) ?_) | (refine hrr _ ?_ ?_) | (refine hrr _ ?_)) <;> clear hrr rr); (try dsimp only [thenS, blockS])) | (with_reducible apply oThen_gcond))) | ((first | apply wpS_skip | apply wpS_exit | apply wpS_goto | apply wpS_ret); (try simp only [thenS, blockS, ↓reduceIte, Nat.reduceEqDiff])) | (with_reducible apply oThen_intro; (first | (refine hrr _ _ (by kernel_rfl) ?_) | (refine hrr _ ?_ ?_) | (refine hrr _ ?_)) <;> clear hrr rr) | (with_reducible apply oThen_gcond) | (intro hb; first | (exact absurd hb (by decide)) | (simp only [decide_eq_true_eq, decide_eq_false_iff_not, beq_iff_eq, bne_iff_ne, ne_eq, beq_eq_false_iff_ne, bne_eq_false_iff_eq, Bool.not_eq_true', Bool.not_eq_false', Bool.not_eq_eq_eq_not, Bool.not_true, Bool.not_false, Int.not_lt, Int.not_le, gt_iff_lt, ge_iff_le, Bool.or_eq_true, Bool.and_eq_true, Bool.or_eq_false_iff, Decidable.not_not] at hb) | skip))
              exact WpS.keepE [0, 1, 2, 9, 12, 13, 14, 15, 16, 19] this rfl
          · by_cases h255 : (255 : Int) < uk
            · have := hgo 1 (by omega) (fun z => by omega)
              dsimp only at this
              repeat' (first | (apply wpS_label1) | (apply wpS_skip1) | (apply wpS_block) | ((first | apply wpS_seq_goto | apply wpS_seq_exit | apply wpS_seq_ret); (try simp only [thenS, blockS, ↓reduceIte, Nat.reduceEqDiff])) | (apply wpS_seq_cond) | (apply wpS_seq_block) | (apply wpS_seq_loop) | (apply wpS_seq_scope) | (apply wpS_seq_seq) | ((first | apply wpS_stepT | apply wpS_stepDT | refine wpS_regL rfl ?_ | refine wpS_drawL rfl ?_ | apply wpS_condT); intro rr hrr; (simp -implicitDefEqProofs +contextual (maxSteps := 10000000) (disch := first | assumption | with_unfolding_all exact id rfl | omega | decide) only [go_sem, Int.reduceToNat, Int.reduceAdd, Int.reduceSub, Int.reduceMul, Int.reduceNeg, Int.reducePow, Int.reduceLT, Int.reduceLE, Int.reduceEq, Int.reduceNe, Int.reduceBEq, Int.reduceBNe, Int.reduceDiv, Int.reduceMod, Nat.reducePow, ↓reduceIte, reduceCtorEq, Nat.reduceEqDiff, Nat.reduceLT, Nat.reduceLeDiff, Nat.reduceAdd, Nat.reduceSub, Nat.reduceMul, Nat.reduceBEq, Nat.reduceBNe, hf, hf2, huk, h255]); (first | ((with_reducible apply oThen_intro; (first | (refine hrr _ _ (by kernel_rfl) ?_) | (refine hrr _ ?_ ?_) | (refine hrr _ ?_)) <;> clear hrr rr); (try dsimp only [thenS, blockS])) | (with_reducible apply oThen_gcond))) | ((first | apply wpS_skip | apply wpS_exit | apply wpS_goto | apply wpS_ret); (try simp only [thenS, blockS, ↓reduceIte, Nat.reduceEqDiff])) | (with_reducible apply oThen_intro; (first | (refine hrr _ _ (by kernel_rfl) ?_) | (refine hrr _ ?_ ?_) | (refine hrr _ ?_)) <;> clear hrr rr) | (with_reducible apply oThen_gcond) | (intro hb; first | (exact absurd hb (by decide)) | (simp only [decide_eq_true_eq, decide_eq_false_iff_not, beq_iff_eq, bne_iff_ne, ne_eq, beq_eq_false_iff_ne, bne_eq_false_iff_eq, Bool.not_eq_true', Bool.not_eq_false', Bool.not_eq_eq_eq_not, Bool.not_true, Bool.not_false, Int.not_lt, Int.not_le, gt_iff_lt, ge_iff_le, Bool.or_eq_true, Bool.and_eq_true, Bool.or_eq_false_iff, Decidable.not_not] at hb) | skip))
              exact WpS.keepE [0, 1, 2, 9, 12, 13, 14, 15, 16, 19] this rfl
            · have := hgo mm (by omega) (fun z => ⟨z, by omega⟩)
              dsimp only at this
              repeat' (first | (apply wpS_label1) | (apply wpS_skip1) | (apply wpS_block) | ((first | apply wpS_seq_goto | apply wpS_seq_exit | apply wpS_seq_ret); (try simp only [thenS, blockS, ↓reduceIte, Nat.reduceEqDiff])) | (apply wpS_seq_cond) | (apply wpS_seq_block) | (apply wpS_seq_loop) | (apply wpS_seq_scope) | (apply wpS_seq_seq) | ((first | apply wpS_stepT | apply wpS_stepDT | refine wpS_regL rfl ?_ | refine wpS_drawL rfl ?_ | apply wpS_condT); intro rr hrr; (simp -implicitDefEqProofs +contextual (maxSteps := 10000000) (disch := first | assumption | with_unfolding_all exact id rfl | omega | decide) only [go_sem, Int.reduceToNat, Int.reduceAdd, Int.reduceSub, Int.reduceMul, Int.reduceNeg, Int.reducePow, Int.reduceLT, Int.reduceLE, Int.reduceEq, Int.reduceNe, Int.reduceBEq, Int.reduceBNe, Int.reduceDiv, Int.reduceMod, Nat.reducePow, ↓reduceIte, reduceCtorEq, Nat.reduceEqDiff, Nat.reduceLT, Nat.reduceLeDiff, Nat.reduceAdd, Nat.reduceSub, Nat.reduceMul, Nat.reduceBEq, Nat.reduceBNe, hf, hf2, huk, h255]); (first | ((with_reducible apply oThen_intro; (first | (refine hrr _ _ (by kernel_rfl) ?_) | (refine hrr _ ?_ ?_) | (refine hrr _ ?_)) <;> clear hrr rr); (try dsimp only [thenS, blockS])) | (with_reducible apply oThen_gcond))) | ((first | apply wpS_skip | apply wpS_exit | apply wpS_goto | apply wpS_ret); (try simp only [thenS, blockS, ↓reduceIte, Nat.reduceEqDiff])) | (with_reducible apply oThen_intro; (first | (refine hrr _ _ (by kernel_rfl) ?_) | (refine hrr _ ?_ ?_) | (refine hrr _ ?_)) <;> clear hrr rr) | (with_reducible apply oThen_gcond) | (intro hb; first | (exact absurd hb (by decide)) | (simp only [decide_eq_true_eq, decide_eq_false_iff_not, beq_iff_eq, bne_iff_ne, ne_eq, beq_eq_false_iff_ne, bne_eq_false_iff_eq, Bool.not_eq_true', Bool.not_eq_false', Bool.not_eq_eq_eq_not, Bool.not_true, Bool.not_false, Int.not_lt, Int.not_le, gt_iff_lt, ge_iff_le, Bool.or_eq_true, Bool.and_eq_true, Bool.or_eq_false_iff, Decidable.not_not] at hb) | skip))
              exact WpS.keepE [0, 1, 2, 9, 12, 13, 14, 15, 16, 19] this rfl
      · have h0' : ((es.length : Int) = 0) = False := eq_false (by have := List.length_pos_iff.2 h0; omega)
        have h00 : (0 : Int) < es.length := by have := List.length_pos_iff.2 h0; omega
        have hbl2 := bsE_len w0 es h0
        have h3F : 3 + (es.flatMap enB).length = 2 + (1 + (es.flatMap enB).length) := by omega
        cases c with
        | true =>
          repeat' (first | (apply wpS_label1) | (apply wpS_skip1) | (apply wpS_block) | ((first | apply wpS_seq_goto | apply wpS_seq_exit | apply wpS_seq_ret); (try simp only [thenS, blockS, ↓reduceIte, Nat.reduceEqDiff])) | (apply wpS_seq_cond) | (apply wpS_seq_block) | (apply wpS_seq_loop) | (apply wpS_seq_scope) | (apply wpS_seq_seq) | ((first | apply wpS_stepT | apply wpS_stepDT | refine wpS_regL rfl ?_ | refine wpS_drawL rfl ?_ | apply wpS_condT); intro rr hrr; (simp -implicitDefEqProofs +contextual (maxSteps := 10000000) (disch := first | assumption | with_unfolding_all exact id rfl | omega | decide) only [go_sem, Int.reduceToNat, Int.reduceAdd, Int.reduceSub, Int.reduceMul, Int.reduceNeg, Int.reducePow, Int.reduceLT, Int.reduceLE, Int.reduceEq, Int.reduceNe, Int.reduceBEq, Int.reduceBNe, Int.reduceDiv, Int.reduceMod, Nat.reducePow, ↓reduceIte, reduceCtorEq, Nat.reduceEqDiff, Nat.reduceLT, Nat.reduceLeDiff, Nat.reduceAdd, Nat.reduceSub, Nat.reduceMul, Nat.reduceBEq, Nat.reduceBNe, hge', hin, h0', h3, hpm, hy, hm0']); (first | ((with_reducible apply oThen_intro; (first | (refine hrr _ _ (by kernel_rfl) ?_) | (refine hrr _ ?_ ?_) | (refine hrr _ ?_)) <;> clear hrr rr); (try dsimp only [thenS, blockS])) | (with_reducible apply oThen_gcond))) | ((first | apply wpS_skip | apply wpS_exit | apply wpS_goto | apply wpS_ret); (try simp only [thenS, blockS, ↓reduceIte, Nat.reduceEqDiff])) | (with_reducible apply oThen_intro; (first | (refine hrr _ _ (by kernel_rfl) ?_) | (refine hrr _ ?_ ?_) | (refine hrr _ ?_)) <;> clear hrr rr) | (with_reducible apply oThen_gcond) | (intro hb; first | (exact absurd hb (by decide)) | (simp only [decide_eq_true_eq, decide_eq_false_iff_not, beq_iff_eq, bne_iff_ne, ne_eq, beq_eq_false_iff_ne, bne_eq_false_iff_eq, Bool.not_eq_true', Bool.not_eq_false', Bool.not_eq_eq_eq_not, Bool.not_true, Bool.not_false, Int.not_lt, Int.not_le, gt_iff_lt, ge_iff_le, Bool.or_eq_true, Bool.and_eq_true, Bool.or_eq_false_iff, Decidable.not_not] at hb) | skip))
          refine wpS_loop_inv (fun x : Nat × Nat => [(0, .w (.p (.str (encs l)))), (1, .w (.p (.sl 1 (ofBytes at_)))), (2, .w (.p (.sl 1 (ofBytes wide)))), (9, .w (.own 1 (plains (eI (units l))))), (12, .w (.own 1 (plains (ofBytes (hd ++ bsE w0 es))))), (13, .w (.own 1 (plains (eI (cutsOf 3 es))))), (14, .w (.p (.int .i64 (part : Nat)))), (15, .w (.p (.int .i64 (x.2 : Nat)))), (16, .w (.p (.int .i64 es.length))), (19, .w (.p (.int .i64 x.1)))])
            (fun x => es.length ≤ x.1 ∧ x.1 ≤ (units l).length ∧ x.2 ≤ 1 ∧ (x.2 = 0 → ∀ (q : Nat) (u : Int), es.length ≤ q → q < x.1 → (units l)[q]? = some u → u ≤ 255) ∧ (∀ j : Nat, es.length < j → j < x.1 → (j : Int) ∉ at_.map (fun b => (b.toNat : Int))))
            (fun x => (units l).length - x.1) (es.length, m0) rfl ⟨by simp, by dsimp only; omega, hm0, fun _ q u q1 q2 => by dsimp only at q2; omega, fun j j1 j2 => by dsimp only at j2; omega⟩ ?_
          rintro ⟨kk, mm⟩ ⟨d1, d2, d3, d4, d5⟩ ihd
          dsimp only at d1 d2 d3 d4 d5 ihd ⊢
          have hmm : mm = 0 ∨ mm = 1 := by omega
          by_cases hex : kk = (units l).length ∨ (es.length < kk ∧ (kk : Int) ∈ at_.map (fun b => (b.toNat : Int)))
          · have hN2 : mm = 0 → ∀ (q : Nat) (u : Int), es.length ≤ q → (units l)[q]? = some u → (∀ j : Nat, es.length < j → j ≤ q → (j : Int) ∉ at_.map (fun b => (b.toNat : Int))) → u ≤ 255 := by
              intro z q u q1 q2 q3
              have q4 := (List.getElem?_eq_some_iff.1 q2).1
              refine d4 z q u q1 ?_ q2
              rcases hex with e | ⟨e1, e2⟩
              · omega
              · rcases Nat.lt_or_ge q kk with q5 | q5
                · exact q5
                · exact absurd e2 (q3 kk e1 q5)
            have hw255 : mm = 0 → v ≤ 255 := fun z => hN2 z es.length v (Nat.le_refl _) hv (fun j j1 j2 => by omega)
            clear d4 d5 ihd
            by_cases hkn : kk = (units l).length
            · have hf : ¬ (kk : Int) < (units l).length := by omega
              rcases hmm with z | z
              · subst z
                have hz : ((0 : Nat) : Int) = 0 := rfl
                have hb1 : bsE w0 (es ++ [⟨false, true, v⟩]) = bsE w0 es ++ [0, by8 v] := by rw [bsE_snoc _ _ _ h0]; rfl
                have := ih (es ++ [⟨false, true, v⟩], rest, 0, part + 1, w0) (by simp) ⟨hu2 _ rfl, wch_snoc es w0 _ hwch (fun h => by simp at h), fun _ => by dsimp only; rw [wend_snoc]; rfl, ?B, by simp, by simp; omega, fun _ z q u q1 q2 q3 => ?N⟩
                case B =>
                  intro e he
                  rcases List.mem_append.1 he with q | q
                  · exact hbnd e q
                  · rw [List.mem_singleton] at q; subst q; exact ⟨r1, by have := hw255 rfl; show v < 256; omega⟩
                case N =>
                  dsimp only at z q1 q3
                  rw [List.length_append, List.length_singleton] at q1 q3
                  exact hN2 z q u (by omega) q2 fun j j1 j2 => q3 j (by omega) j2
                dsimp only at this
                rw [hb1, cutsOf_snoc, if_pos rfl, h3F, List.length_append, List.length_singleton] at this
                repeat' (first | (apply wpS_label1) | (apply wpS_skip1) | (apply wpS_block) | ((first | apply wpS_seq_goto | apply wpS_seq_exit | apply wpS_seq_ret); (try simp only [thenS, blockS, ↓reduceIte, Nat.reduceEqDiff])) | (apply wpS_seq_cond) | (apply wpS_seq_block) | (apply wpS_seq_loop) | (apply wpS_seq_scope) | (apply wpS_seq_seq) | ((first | apply wpS_stepT | apply wpS_stepDT | refine wpS_regL rfl ?_ | refine wpS_drawL rfl ?_ | apply wpS_condT); intro rr hrr; (simp -implicitDefEqProofs +contextual (maxSteps := 10000000) (disch := first | assumption | with_unfolding_all exact id rfl | omega | decide) only [go_sem, Int.reduceToNat, Int.reduceAdd, Int.reduceSub, Int.reduceMul, Int.reduceNeg, Int.reducePow, Int.reduceLT, Int.reduceLE, Int.reduceEq, Int.reduceNe, Int.reduceBEq, Int.reduceBNe, Int.reduceDiv, Int.reduceMod, Nat.reducePow, ↓reduceIte, reduceCtorEq, Nat.reduceEqDiff, Nat.reduceLT, Nat.reduceLeDiff, Nat.reduceAdd, Nat.reduceSub, Nat.reduceMul, Nat.reduceBEq, Nat.reduceBNe, hf, hz, h00, hv, p_u80, hd2, hbl2]); (first | ((with_reducible apply oThen_intro; (first | (refine hrr _ _ (by kernel_rfl) ?_) | (refine hrr _ ?_ ?_) | (refine hrr _ ?_)) <;> clear hrr rr); (try dsimp only [thenS, blockS])) | (with_reducible apply oThen_gcond))) | ((first | apply wpS_skip | apply wpS_exit | apply wpS_goto | apply wpS_ret); (try simp only [thenS, blockS, ↓reduceIte, Nat.reduceEqDiff])) | (with_reducible apply oThen_intro; (first | (refine hrr _ _ (by kernel_rfl) ?_) | (refine hrr _ ?_ ?_) | (refine hrr _ ?_)) <;> clear hrr rr) | (with_reducible apply oThen_gcond) | (intro hb; first | (exact absurd hb (by decide)) | (simp only [decide_eq_true_eq, decide_eq_false_iff_not, beq_iff_eq, bne_iff_ne, ne_eq, beq_eq_false_iff_ne, bne_eq_false_iff_eq, Bool.not_eq_true', Bool.not_eq_false', Bool.not_eq_eq_eq_not, Bool.not_true, Bool.not_false, Int.not_lt, Int.not_le, gt_iff_lt, ge_iff_le, Bool.or_eq_true, Bool.and_eq_true, Bool.or_eq_false_iff, Decidable.not_not] at hb) | skip))
                exact WpS.keepE [0, 1, 2, 9, 12, 13, 14, 15, 16] this rfl

              · subst z
                have hz : ((1 : Nat) : Int) = 1 := rfl
                have hb1 : bsE w0 (es ++ [⟨true, true, v⟩]) = bsE w0 es ++ [1, by8 v, by8 (v / 256)] := by rw [bsE_snoc _ _ _ h0]; rfl
                have := ih (es ++ [⟨true, true, v⟩], rest, 1, part + 1, w0) (by simp) ⟨hu2 _ rfl, wch_snoc es w0 _ hwch (fun h => by simp at h), fun _ => by dsimp only; rw [wend_snoc]; rfl, ?B, by simp, by simp; omega, fun _ z q u q1 q2 q3 => ?N⟩
                case B =>
                  intro e he
                  rcases List.mem_append.1 he with q | q
                  · exact hbnd e q
                  · rw [List.mem_singleton] at q; subst q; exact ⟨r1, r2⟩
                case N =>
                  dsimp only at z q1 q3
                  rw [List.length_append, List.length_singleton] at q1 q3
                  exact hN2 z q u (by omega) q2 fun j j1 j2 => q3 j (by omega) j2
                dsimp only at this
                rw [hb1, cutsOf_snoc, if_pos rfl, h3F, List.length_append, List.length_singleton] at this
                repeat' (first | (apply wpS_label1) | (apply wpS_skip1) | (apply wpS_block) | ((first | apply wpS_seq_goto | apply wpS_seq_exit | apply wpS_seq_ret); (try simp only [thenS, blockS, ↓reduceIte, Nat.reduceEqDiff])) | (apply wpS_seq_cond) | (apply wpS_seq_block) | (apply wpS_seq_loop) | (apply wpS_seq_scope) | (apply wpS_seq_seq) | ((first | apply wpS_stepT | apply wpS_stepDT | refine wpS_regL rfl ?_ | refine wpS_drawL rfl ?_ | apply wpS_condT); intro rr hrr; (simp -implicitDefEqProofs +contextual (maxSteps := 10000000) (disch := first | assumption | with_unfolding_all exact id rfl | omega | decide) only [go_sem, Int.reduceToNat, Int.reduceAdd, Int.reduceSub, Int.reduceMul, Int.reduceNeg, Int.reducePow, Int.reduceLT, Int.reduceLE, Int.reduceEq, Int.reduceNe, Int.reduceBEq, Int.reduceBNe, Int.reduceDiv, Int.reduceMod, Nat.reducePow, ↓reduceIte, reduceCtorEq, Nat.reduceEqDiff, Nat.reduceLT, Nat.reduceLeDiff, Nat.reduceAdd, Nat.reduceSub, Nat.reduceMul, Nat.reduceBEq, Nat.reduceBNe, hf, hz, h00, hv, p_u81, hd2, hbl2]); (first | ((with_reducible apply oThen_intro; (first | (refine hrr _ _ (by kernel_rfl) ?_) | (refine hrr _ ?_ ?_) | (refine hrr _ ?_)) <;> clear hrr rr); (try dsimp only [thenS, blockS])) | (with_reducible apply oThen_gcond))) | ((first | apply wpS_skip | apply wpS_exit | apply wpS_goto | apply wpS_ret); (try simp only [thenS, blockS, ↓reduceIte, Nat.reduceEqDiff])) | (with_reducible apply oThen_intro; (first | (refine hrr _ _ (by kernel_rfl) ?_) | (refine hrr _ ?_ ?_) | (refine hrr _ ?_)) <;> clear hrr rr) | (with_reducible apply oThen_gcond) | (intro hb; first | (exact absurd hb (by decide)) | (simp only [decide_eq_true_eq, decide_eq_false_iff_not, beq_iff_eq, bne_iff_ne, ne_eq, beq_eq_false_iff_ne, bne_eq_false_iff_eq, Bool.not_eq_true', Bool.not_eq_false', Bool.not_eq_eq_eq_not, Bool.not_true, Bool.not_false, Int.not_lt, Int.not_le, gt_iff_lt, ge_iff_le, Bool.or_eq_true, Bool.and_eq_true, Bool.or_eq_false_iff, Decidable.not_not] at hb) | skip))
                exact WpS.keepE [0, 1, 2, 9, 12, 13, 14, 15, 16] this rfl

            · have hf : (kk : Int) < (units l).length := by omega
              obtain ⟨hk1, hk2⟩ := hex.resolve_left hkn
              have hf2 : (es.length : Int) < kk := by omega
              have hI := isAt_spec at_ kk (by omega)
              rw [decide_eq_true hk2] at hI
              rcases hmm with z | z
              · subst z
                have hz : ((0 : Nat) : Int) = 0 := rfl
                have hb1 : bsE w0 (es ++ [⟨false, true, v⟩]) = bsE w0 es ++ [0, by8 v] := by rw [bsE_snoc _ _ _ h0]; rfl
                have := ih (es ++ [⟨false, true, v⟩], rest, 0, part + 1, w0) (by simp) ⟨hu2 _ rfl, wch_snoc es w0 _ hwch (fun h => by simp at h), fun _ => by dsimp only; rw [wend_snoc]; rfl, ?B, by simp, by simp; omega, fun _ z q u q1 q2 q3 => ?N⟩
                case B =>
                  intro e he
                  rcases List.mem_append.1 he with q | q
                  · exact hbnd e q
                  · rw [List.mem_singleton] at q; subst q; exact ⟨r1, by have := hw255 rfl; show v < 256; omega⟩
                case N =>
                  dsimp only at z q1 q3
                  rw [List.length_append, List.length_singleton] at q1 q3
                  exact hN2 z q u (by omega) q2 fun j j1 j2 => q3 j (by omega) j2
                dsimp only at this
                rw [hb1, cutsOf_snoc, if_pos rfl, h3F, List.length_append, List.length_singleton] at this
                repeat' (first | (apply wpS_label1) | (apply wpS_skip1) | (apply wpS_block) | ((first | apply wpS_seq_goto | apply wpS_seq_exit | apply wpS_seq_ret); (try simp only [thenS, blockS, ↓reduceIte, Nat.reduceEqDiff])) | (apply wpS_seq_cond) | (apply wpS_seq_block) | (apply wpS_seq_loop) | (apply wpS_seq_scope) | (apply wpS_seq_seq) | ((first | apply wpS_stepT | apply wpS_stepDT | refine wpS_regL rfl ?_ | refine wpS_drawL rfl ?_ | apply wpS_condT); intro rr hrr; (simp -implicitDefEqProofs +contextual (maxSteps := 10000000) (disch := first | assumption | with_unfolding_all exact id rfl | omega | decide) only [go_sem, Int.reduceToNat, Int.reduceAdd, Int.reduceSub, Int.reduceMul, Int.reduceNeg, Int.reducePow, Int.reduceLT, Int.reduceLE, Int.reduceEq, Int.reduceNe, Int.reduceBEq, Int.reduceBNe, Int.reduceDiv, Int.reduceMod, Nat.reducePow, ↓reduceIte, reduceCtorEq, Nat.reduceEqDiff, Nat.reduceLT, Nat.reduceLeDiff, Nat.reduceAdd, Nat.reduceSub, Nat.reduceMul, Nat.reduceBEq, Nat.reduceBNe, hf, hf2, hI, hz, h00, hv, p_u80, hd2, hbl2]); (first | ((with_reducible apply oThen_intro; (first | (refine hrr _ _ (by kernel_rfl) ?_) | (refine hrr _ ?_ ?_) | (refine hrr _ ?_)) <;> clear hrr rr); (try dsimp only [thenS, blockS])) | (with_reducible apply oThen_gcond))) | ((first | apply wpS_skip | apply wpS_exit | apply wpS_goto | apply wpS_ret); (try simp only [thenS, blockS, ↓reduceIte, Nat.reduceEqDiff])) | (with_reducible apply oThen_intro; (first | (refine hrr _ _ (by kernel_rfl) ?_) | (refine hrr _ ?_ ?_) | (refine hrr _ ?_)) <;> clear hrr rr) | (with_reducible apply oThen_gcond) | (intro hb; first | (exact absurd hb (by decide)) | (simp only [decide_eq_true_eq, decide_eq_false_iff_not, beq_iff_eq, bne_iff_ne, ne_eq, beq_eq_false_iff_ne, bne_eq_false_iff_eq, Bool.not_eq_true', Bool.not_eq_false', Bool.not_eq_eq_eq_not, Bool.not_true, Bool.not_false, Int.not_lt, Int.not_le, gt_iff_lt, ge_iff_le, Bool.or_eq_true, Bool.and_eq_true, Bool.or_eq_false_iff, Decidable.not_not] at hb) | skip))
                exact WpS.keepE [0, 1, 2, 9, 12, 13, 14, 15, 16] this rfl

              · subst z
                have hz : ((1 : Nat) : Int) = 1 := rfl
                have hb1 : bsE w0 (es ++ [⟨true, true, v⟩]) = bsE w0 es ++ [1, by8 v, by8 (v / 256)] := by rw [bsE_snoc _ _ _ h0]; rfl
                have := ih (es ++ [⟨true, true, v⟩], rest, 1, part + 1, w0) (by simp) ⟨hu2 _ rfl, wch_snoc es w0 _ hwch (fun h => by simp at h), fun _ => by dsimp only; rw [wend_snoc]; rfl, ?B, by simp, by simp; omega, fun _ z q u q1 q2 q3 => ?N⟩
                case B =>
                  intro e he
                  rcases List.mem_append.1 he with q | q
                  · exact hbnd e q
                  · rw [List.mem_singleton] at q; subst q; exact ⟨r1, r2⟩
                case N =>
                  dsimp only at z q1 q3
                  rw [List.length_append, List.length_singleton] at q1 q3
                  exact hN2 z q u (by omega) q2 fun j j1 j2 => q3 j (by omega) j2
                dsimp only at this
                rw [hb1, cutsOf_snoc, if_pos rfl, h3F, List.length_append, List.length_singleton] at this
                repeat' (first | (apply wpS_label1) | (apply wpS_skip1) | (apply wpS_block) | ((first | apply wpS_seq_goto | apply wpS_seq_exit | apply wpS_seq_ret); (try simp only [thenS, blockS, ↓reduceIte, Nat.reduceEqDiff])) | (apply wpS_seq_cond) | (apply wpS_seq_block) | (apply wpS_seq_loop) | (apply wpS_seq_scope) | (apply wpS_seq_seq) | ((first | apply wpS_stepT | apply wpS_stepDT | refine wpS_regL rfl ?_ | refine wpS_drawL rfl ?_ | apply wpS_condT); intro rr hrr; (simp -implicitDefEqProofs +contextual (maxSteps := 10000000) (disch := first | assumption | with_unfolding_all exact id rfl | omega | decide) only [go_sem, Int.reduceToNat, Int.reduceAdd, Int.reduceSub, Int.reduceMul, Int.reduceNeg, Int.reducePow, Int.reduceLT, Int.reduceLE, Int.reduceEq, Int.reduceNe, Int.reduceBEq, Int.reduceBNe, Int.reduceDiv, Int.reduceMod, Nat.reducePow, ↓reduceIte, reduceCtorEq, Nat.reduceEqDiff, Nat.reduceLT, Nat.reduceLeDiff, Nat.reduceAdd, Nat.reduceSub, Nat.reduceMul, Nat.reduceBEq, Nat.reduceBNe, hf, hf2, hI, hz, h00, hv, p_u81, hd2, hbl2]); (first | ((with_reducible apply oThen_intro; (first | (refine hrr _ _ (by kernel_rfl) ?_) | (refine hrr _ ?_ ?_) | (refine hrr _ ?_)) <;> clear hrr rr); (try dsimp only [thenS, blockS])) | (with_reducible apply oThen_gcond))) | ((first | apply wpS_skip | apply wpS_exit | apply wpS_goto | apply wpS_ret); (try simp only [thenS, blockS, ↓reduceIte, Nat.reduceEqDiff])) | (with_reducible apply oThen_intro; (first | (refine hrr _ _ (by kernel_rfl) ?_) | (refine hrr _ ?_ ?_) | (refine hrr _ ?_)) <;> clear hrr rr) | (with_reducible apply oThen_gcond) | (intro hb; first | (exact absurd hb (by decide)) | (simp only [decide_eq_true_eq, decide_eq_false_iff_not, beq_iff_eq, bne_iff_ne, ne_eq, beq_eq_false_iff_ne, bne_eq_false_iff_eq, Bool.not_eq_true', Bool.not_eq_false', Bool.not_eq_eq_eq_not, Bool.not_true, Bool.not_false, Int.not_lt, Int.not_le, gt_iff_lt, ge_iff_le, Bool.or_eq_true, Bool.and_eq_true, Bool.or_eq_false_iff, Decidable.not_not] at hb) | skip))
                exact WpS.keepE [0, 1, 2, 9, 12, 13, 14, 15, 16] this rfl

          · have hkn : kk < (units l).length := by
              rcases Nat.lt_or_ge kk (units l).length with q | q
              · exact q
              · exact absurd (.inl (by omega)) hex
            have hf : (kk : Int) < (units l).length := by omega
            obtain ⟨uk, huk⟩ := get_lt hkn
            have hgo : ∀ mm' : Nat, mm' ≤ 1 → (mm' = 0 → mm = 0 ∧ uk ≤ 255) → WpS E 202 law6_StrCuts_K (.loop law6_StrCuts_c75) _ _ := fun mm' g1 g2 => ihd (kk + 1, mm') (by dsimp only; omega) ⟨by dsimp only; omega, by dsimp only; omega, g1, fun z q u q1 q2 q3 => by
              dsimp only at q2
              by_cases hq : q = kk
              · subst hq; rw [huk] at q3; cases q3; exact (g2 z).2
              · exact d4 (g2 z).1 q u q1 (by omega) q3, fun j j1 j2 => by
              dsimp only at j2
              by_cases hj : j = kk
              · subst hj; exact fun q => hex (.inr ⟨j1, q⟩)
              · exact d5 j j1 (by omega)⟩
            clear ihd
            by_cases hf2 : (es.length : Int) < kk
            · have hI := isAt_spec at_ kk (by omega)
              rw [decide_eq_false (fun q => hex (.inr ⟨by omega, q⟩))] at hI
              by_cases h255 : (255 : Int) < uk
              · have := hgo 1 (by omega) (fun z => by omega)
                dsimp only at this
                repeat' (first | (apply wpS_label1) | (apply wpS_skip1) | (apply wpS_block) | ((first | apply wpS_seq_goto | apply wpS_seq_exit | apply wpS_seq_ret); (try simp only [thenS, blockS, ↓reduceIte, Nat.reduceEqDiff])) | (apply wpS_seq_cond) | (apply wpS_seq_block) | (apply wpS_seq_loop) | (apply wpS_seq_scope) | (apply wpS_seq_seq) | ((first | apply wpS_stepT | apply wpS_stepDT | refine wpS_regL rfl ?_ | refine wpS_drawL rfl ?_ | apply wpS_condT); intro rr hrr; (simp -implicitDefEqProofs +contextual (maxSteps := 10000000) (disch := first | assumption | with_unfolding_all exact id rfl | omega | decide) only [go_sem, Int.reduceToNat, Int.reduceAdd, Int.reduceSub, Int.reduceMul, Int.reduceNeg, Int.reducePow, Int.reduceLT, Int.reduceLE, Int.reduceEq, Int.reduceNe, Int.reduceBEq, Int.reduceBNe, Int.reduceDiv, Int.reduceMod, Nat.reducePow, ↓reduceIte, reduceCtorEq, Nat.reduceEqDiff, Nat.reduceLT, Nat.reduceLeDiff, Nat.reduceAdd, Nat.reduceSub, Nat.reduceMul, Nat.reduceBEq, Nat.reduceBNe, hf, hf2, hI, huk, h255]); (first | ((with_reducible apply oThen_intro; (first | (refine hrr _ _ (by kernel_rfl) ?_) | (refine hrr _ ?_ ?_) | (refine hrr _ ?_)) <;> clear hrr rr); (try dsimp only [thenS, blockS])) | (with_reducible apply oThen_gcond))) | ((first | apply wpS_skip | apply wpS_exit | apply wpS_goto | apply wpS_ret); (try simp only [thenS, blockS, ↓reduceIte, Nat.reduceEqDiff])) | (with_reducible apply oThen_intro; (first | (refine hrr _ _ (by kernel_rfl) ?_) | (refine hrr _ ?_ ?_) | (refine hrr _ ?_)) <;> clear hrr rr) | (with_reducible apply oThen_gcond) | (intro hb; first | (exact absurd hb (by decide)) | (simp only [decide_eq_true_eq, decide_eq_false_iff_not, beq_iff_eq, bne_iff_ne, ne_eq, beq_eq_false_iff_ne, bne_eq_false_iff_eq, Bool.not_eq_true', Bool.not_eq_false', Bool.not_eq_eq_eq_not, Bool.not_true, Bool.not_false, Int.not_lt, Int.not_le, gt_iff_lt, ge_iff_le, Bool.or_eq_true, Bool.and_eq_true, Bool.or_eq_false_iff, Decidable.not_not] at hb) | skip))
                exact WpS.keepE [0, 1, 2, 9, 12, 13, 14, 15, 16, 19] this rfl
              · have := hgo mm (by omega) (fun z => ⟨z, by omega⟩)
                dsimp only at this
                repeat' (first | (apply wpS_label1) | (apply wpS_skip1) | (apply wpS_block) | ((first | apply wpS_seq_goto | apply wpS_seq_exit | apply wpS_seq_ret); (try simp only [thenS, blockS, ↓reduceIte, Nat.reduceEqDiff])) | (apply wpS_seq_cond) | (apply wpS_seq_block) | (apply wpS_seq_loop) | (apply wpS_seq_scope) | (apply wpS_seq_seq) | ((first | apply wpS_stepT | apply wpS_stepDT | refine wpS_regL rfl ?_ | refine wpS_drawL rfl ?_ | apply wpS_condT); intro rr hrr; (simp -implicitDefEqProofs +contextual (maxSteps := 10000000) (disch := first | assumption | with_unfolding_all exact id rfl | omega | decide) only [go_sem, Int.reduceToNat, Int.reduceAdd, Int.reduceSub, Int.reduceMul, Int.reduceNeg, Int.reducePow, Int.reduceLT, Int.reduceLE, Int.reduceEq, Int.reduceNe, Int.reduceBEq, Int.reduceBNe, Int.reduceDiv, Int.reduceMod, Nat.reducePow, ↓reduceIte, reduceCtorEq, Nat.reduceEqDiff, Nat.reduceLT, Nat.reduceLeDiff, Nat.reduceAdd, Nat.reduceSub, Nat.reduceMul, Nat.reduceBEq, Nat.reduceBNe, hf, hf2, hI, huk, h255]); (first | ((with_reducible apply oThen_intro; (first | (refine hrr _ _ (by kernel_rfl) ?_) | (refine hrr _ ?_ ?_) | (refine hrr _ ?_)) <;> clear hrr rr); (try dsimp only [thenS, blockS])) | (with_reducible apply oThen_gcond))) | ((first | apply wpS_skip | apply wpS_exit | apply wpS_goto | apply wpS_ret); (try simp only [thenS, blockS, ↓reduceIte, Nat.reduceEqDiff])) | (with_reducible apply oThen_intro; (first | (refine hrr _ _ (by kernel_rfl) ?_) | (refine hrr _ ?_ ?_) | (refine hrr _ ?_)) <;> clear hrr rr) | (with_reducible apply oThen_gcond) | (intro hb; first | (exact absurd hb (by decide)) | (simp only [decide_eq_true_eq, decide_eq_false_iff_not, beq_iff_eq, bne_iff_ne, ne_eq, beq_eq_false_iff_ne, bne_eq_false_iff_eq, Bool.not_eq_true', Bool.not_eq_false', Bool.not_eq_eq_eq_not, Bool.not_true, Bool.not_false, Int.not_lt, Int.not_le, gt_iff_lt, ge_iff_le, Bool.or_eq_true, Bool.and_eq_true, Bool.or_eq_false_iff, Decidable.not_not] at hb) | skip))
                exact WpS.keepE [0, 1, 2, 9, 12, 13, 14, 15, 16, 19] this rfl
            · by_cases h255 : (255 : Int) < uk
              · have := hgo 1 (by omega) (fun z => by omega)
                dsimp only at this
                repeat' (first | (apply wpS_label1) | (apply wpS_skip1) | (apply wpS_block) | ((first | apply wpS_seq_goto | apply wpS_seq_exit | apply wpS_seq_ret); (try simp only [thenS, blockS, ↓reduceIte, Nat.reduceEqDiff])) | (apply wpS_seq_cond) | (apply wpS_seq_block) | (apply wpS_seq_loop) | (apply wpS_seq_scope) | (apply wpS_seq_seq) | ((first | apply wpS_stepT | apply wpS_stepDT | refine wpS_regL rfl ?_ | refine wpS_drawL rfl ?_ | apply wpS_condT); intro rr hrr; (simp -implicitDefEqProofs +contextual (maxSteps := 10000000) (disch := first | assumption | with_unfolding_all exact id rfl | omega | decide) only [go_sem, Int.reduceToNat, Int.reduceAdd, Int.reduceSub, Int.reduceMul, Int.reduceNeg, Int.reducePow, Int.reduceLT, Int.reduceLE, Int.reduceEq, Int.reduceNe, Int.reduceBEq, Int.reduceBNe, Int.reduceDiv, Int.reduceMod, Nat.reducePow, ↓reduceIte, reduceCtorEq, Nat.reduceEqDiff, Nat.reduceLT, Nat.reduceLeDiff, Nat.reduceAdd, Nat.reduceSub, Nat.reduceMul, Nat.reduceBEq, Nat.reduceBNe, hf, hf2, huk, h255]); (first | ((with_reducible apply oThen_intro; (first | (refine hrr _ _ (by kernel_rfl) ?_) | (refine hrr _ ?_ ?_) | (refine hrr _ ?_)) <;> clear hrr rr); (try dsimp only [thenS, blockS])) | (with_reducible apply oThen_gcond))) | ((first | apply wpS_skip | apply wpS_exit | apply wpS_goto | apply wpS_ret); (try simp only [thenS, blockS, ↓reduceIte, Nat.reduceEqDiff])) | (with_reducible apply oThen_intro; (first | (refine hrr _ _ (by kernel_rfl) ?_) | (refine hrr _ ?_ ?_) | (refine hrr _ ?_)) <;> clear hrr rr) | (with_reducible apply oThen_gcond) | (intro hb; first | (exact absurd hb (by decide)) | (simp only [decide_eq_true_eq, decide_eq_false_iff_not, beq_iff_eq, bne_iff_ne, ne_eq, beq_eq_false_iff_ne, bne_eq_false_iff_eq, Bool.not_eq_true', Bool.not_eq_false', Bool.not_eq_eq_eq_not, Bool.not_true, Bool.not_false, Int.not_lt, Int.not_le, gt_iff_lt, ge_iff_le, Bool.or_eq_true, Bool.and_eq_true, Bool.or_eq_false_iff, Decidable.not_not] at hb) | skip))
                exact WpS.keepE [0, 1, 2, 9, 12, 13, 14, 15, 16, 19] this rfl
              · have := hgo mm (by omega) (fun z => ⟨z, by omega⟩)
                dsimp only at this
                repeat' (first | (apply wpS_label1) | (apply wpS_skip1) | (apply wpS_block) | ((first | apply wpS_seq_goto | apply wpS_seq_exit | apply wpS_seq_ret); (try simp only [thenS, blockS, ↓reduceIte, Nat.reduceEqDiff])) | (apply wpS_seq_cond) | (apply wpS_seq_block) | (apply wpS_seq_loop) | (apply wpS_seq_scope) | (apply wpS_seq_seq) | ((first | apply wpS_stepT | apply wpS_stepDT | refine wpS_regL rfl ?_ | refine wpS_drawL rfl ?_ | apply wpS_condT); intro rr hrr; (simp -implicitDefEqProofs +contextual (maxSteps := 10000000) (disch := first | assumption | with_unfolding_all exact id rfl | omega | decide) only [go_sem, Int.reduceToNat, Int.reduceAdd, Int.reduceSub, Int.reduceMul, Int.reduceNeg, Int.reducePow, Int.reduceLT, Int.reduceLE, Int.reduceEq, Int.reduceNe, Int.reduceBEq, Int.reduceBNe, Int.reduceDiv, Int.reduceMod, Nat.reducePow, ↓reduceIte, reduceCtorEq, Nat.reduceEqDiff, Nat.reduceLT, Nat.reduceLeDiff, Nat.reduceAdd, Nat.reduceSub, Nat.reduceMul, Nat.reduceBEq, Nat.reduceBNe, hf, hf2, huk, h255]); (first | ((with_reducible apply oThen_intro; (first | (refine hrr _ _ (by kernel_rfl) ?_) | (refine hrr _ ?_ ?_) | (refine hrr _ ?_)) <;> clear hrr rr); (try dsimp only [thenS, blockS])) | (with_reducible apply oThen_gcond))) | ((first | apply wpS_skip | apply wpS_exit | apply wpS_goto | apply wpS_ret); (try simp only [thenS, blockS, ↓reduceIte, Nat.reduceEqDiff])) | (with_reducible apply oThen_intro; (first | (refine hrr _ _ (by kernel_rfl) ?_) | (refine hrr _ ?_ ?_) | (refine hrr _ ?_)) <;> clear hrr rr) | (with_reducible apply oThen_gcond) | (intro hb; first | (exact absurd hb (by decide)) | (simp only [decide_eq_true_eq, decide_eq_false_iff_not, beq_iff_eq, bne_iff_ne, ne_eq, beq_eq_false_iff_ne, bne_eq_false_iff_eq, Bool.not_eq_true', Bool.not_eq_false', Bool.not_eq_eq_eq_not, Bool.not_true, Bool.not_false, Int.not_lt, Int.not_le, gt_iff_lt, ge_iff_le, Bool.or_eq_true, Bool.and_eq_true, Bool.or_eq_false_iff, Decidable.not_not] at hb) | skip))
                exact WpS.keepE [0, 1, 2, 9, 12, 13, 14, 15, 16, 19] this rfl
        | false =>
          have hnoc : ¬ (es.length : Int) ∈ at_.map (fun b => (b.toNat : Int)) := fun q => by simpa using hc.2 q
          have hmm : m = 0 ∨ m = 1 := by omega
          rcases hmm with z | z
          · subst z
            have hz : ((0 : Nat) : Int) = 0 := rfl
            have hwe : wend w0 es = false := hwend h0
            have hb1 : bsE w0 (es ++ [⟨false, false, v⟩]) = bsE w0 es ++ [by8 v] := by rw [bsE_snoc _ _ _ h0]; rfl
            have := ih (es ++ [⟨false, false, v⟩], rest, 0, part, w0) (by simp) ⟨hu2 _ rfl, wch_snoc es w0 _ hwch (fun _ => hwe.symm), fun _ => by dsimp only; rw [wend_snoc]; rfl, ?B, by simp, by simp; omega, fun _ z q u q1 q2 q3 => ?N⟩
            case B =>
              intro e he
              rcases List.mem_append.1 he with q | q
              · exact hbnd e q
              · rw [List.mem_singleton] at q; subst q; exact ⟨r1, by have := hnar h0 rfl es.length v (Nat.le_refl _) hv (fun j j1 j2 => by rw [show j = es.length by omega]; exact hnoc); show v < 256; omega⟩
            case N =>
              dsimp only at z q1 q3
              rw [List.length_append, List.length_singleton] at q1 q3
              exact hnar h0 z q u (by omega) q2 fun j j1 j2 => by
                by_cases hj : j = es.length
                · subst hj; exact hnoc
                · exact q3 j (by omega) j2
            dsimp only at this
            rw [hb1, cutsOf_snoc, if_neg Bool.false_ne_true, List.append_nil, List.length_append, List.length_singleton] at this
            repeat' (first | (apply wpS_label1) | (apply wpS_skip1) | (apply wpS_block) | ((first | apply wpS_seq_goto | apply wpS_seq_exit | apply wpS_seq_ret); (try simp only [thenS, blockS, ↓reduceIte, Nat.reduceEqDiff])) | (apply wpS_seq_cond) | (apply wpS_seq_block) | (apply wpS_seq_loop) | (apply wpS_seq_scope) | (apply wpS_seq_seq) | ((first | apply wpS_stepT | apply wpS_stepDT | refine wpS_regL rfl ?_ | refine wpS_drawL rfl ?_ | apply wpS_condT); intro rr hrr; (simp -implicitDefEqProofs +contextual (maxSteps := 10000000) (disch := first | assumption | with_unfolding_all exact id rfl | omega | decide) only [go_sem, Int.reduceToNat, Int.reduceAdd, Int.reduceSub, Int.reduceMul, Int.reduceNeg, Int.reducePow, Int.reduceLT, Int.reduceLE, Int.reduceEq, Int.reduceNe, Int.reduceBEq, Int.reduceBNe, Int.reduceDiv, Int.reduceMod, Nat.reducePow, ↓reduceIte, reduceCtorEq, Nat.reduceEqDiff, Nat.reduceLT, Nat.reduceLeDiff, Nat.reduceAdd, Nat.reduceSub, Nat.reduceMul, Nat.reduceBEq, Nat.reduceBNe, hge', hin, h0', hz, hv]); (first | ((with_reducible apply oThen_intro; (first | (refine hrr _ _ (by kernel_rfl) ?_) | (refine hrr _ ?_ ?_) | (refine hrr _ ?_)) <;> clear hrr rr); (try dsimp only [thenS, blockS])) | (with_reducible apply oThen_gcond))) | ((first | apply wpS_skip | apply wpS_exit | apply wpS_goto | apply wpS_ret); (try simp only [thenS, blockS, ↓reduceIte, Nat.reduceEqDiff])) | (with_reducible apply oThen_intro; (first | (refine hrr _ _ (by kernel_rfl) ?_) | (refine hrr _ ?_ ?_) | (refine hrr _ ?_)) <;> clear hrr rr) | (with_reducible apply oThen_gcond) | (intro hb; first | (exact absurd hb (by decide)) | (simp only [decide_eq_true_eq, decide_eq_false_iff_not, beq_iff_eq, bne_iff_ne, ne_eq, beq_eq_false_iff_ne, bne_eq_false_iff_eq, Bool.not_eq_true', Bool.not_eq_false', Bool.not_eq_eq_eq_not, Bool.not_true, Bool.not_false, Int.not_lt, Int.not_le, gt_iff_lt, ge_iff_le, Bool.or_eq_true, Bool.and_eq_true, Bool.or_eq_false_iff, Decidable.not_not] at hb) | skip))
            exact WpS.keepE [0, 1, 2, 9, 12, 13, 14, 15, 16] this rfl

          · subst z
            have hz : ((1 : Nat) : Int) = 1 := rfl
            have hwe : wend w0 es = true := hwend h0
            have hb1 : bsE w0 (es ++ [⟨true, false, v⟩]) = bsE w0 es ++ [by8 v, by8 (v / 256)] := by rw [bsE_snoc _ _ _ h0]; rfl
            have := ih (es ++ [⟨true, false, v⟩], rest, 1, part, w0) (by simp) ⟨hu2 _ rfl, wch_snoc es w0 _ hwch (fun _ => hwe.symm), fun _ => by dsimp only; rw [wend_snoc]; rfl, ?B, by simp, by simp; omega, fun _ z q u q1 q2 q3 => ?N⟩
            case B =>
              intro e he
              rcases List.mem_append.1 he with q | q
              · exact hbnd e q
              · rw [List.mem_singleton] at q; subst q; exact ⟨r1, r2⟩
            case N =>
              dsimp only at z q1 q3
              rw [List.length_append, List.length_singleton] at q1 q3
              exact hnar h0 z q u (by omega) q2 fun j j1 j2 => by
                by_cases hj : j = es.length
                · subst hj; exact hnoc
                · exact q3 j (by omega) j2
            dsimp only at this
            rw [hb1, cutsOf_snoc, if_neg Bool.false_ne_true, List.append_nil, List.length_append, List.length_singleton] at this
            repeat' (first | (apply wpS_label1) | (apply wpS_skip1) | (apply wpS_block) | ((first | apply wpS_seq_goto | apply wpS_seq_exit | apply wpS_seq_ret); (try simp only [thenS, blockS, ↓reduceIte, Nat.reduceEqDiff])) | (apply wpS_seq_cond) | (apply wpS_seq_block) | (apply wpS_seq_loop) | (apply wpS_seq_scope) | (apply wpS_seq_seq) | ((first | apply wpS_stepT | apply wpS_stepDT | refine wpS_regL rfl ?_ | refine wpS_drawL rfl ?_ | apply wpS_condT); intro rr hrr; (simp -implicitDefEqProofs +contextual (maxSteps := 10000000) (disch := first | assumption | with_unfolding_all exact id rfl | omega | decide) only [go_sem, Int.reduceToNat, Int.reduceAdd, Int.reduceSub, Int.reduceMul, Int.reduceNeg, Int.reducePow, Int.reduceLT, Int.reduceLE, Int.reduceEq, Int.reduceNe, Int.reduceBEq, Int.reduceBNe, Int.reduceDiv, Int.reduceMod, Nat.reducePow, ↓reduceIte, reduceCtorEq, Nat.reduceEqDiff, Nat.reduceLT, Nat.reduceLeDiff, Nat.reduceAdd, Nat.reduceSub, Nat.reduceMul, Nat.reduceBEq, Nat.reduceBNe, hge', hin, h0', hz, hv]); (first | ((with_reducible apply oThen_intro; (first | (refine hrr _ _ (by kernel_rfl) ?_) | (refine hrr _ ?_ ?_) | (refine hrr _ ?_)) <;> clear hrr rr); (try dsimp only [thenS, blockS])) | (with_reducible apply oThen_gcond))) | ((first | apply wpS_skip | apply wpS_exit | apply wpS_goto | apply wpS_ret); (try simp only [thenS, blockS, ↓reduceIte, Nat.reduceEqDiff])) | (with_reducible apply oThen_intro; (first | (refine hrr _ _ (by kernel_rfl) ?_) | (refine hrr _ ?_ ?_) | (refine hrr _ ?_)) <;> clear hrr rr) | (with_reducible apply oThen_gcond) | (intro hb; first | (exact absurd hb (by decide)) | (simp only [decide_eq_true_eq, decide_eq_false_iff_not, beq_iff_eq, bne_iff_ne, ne_eq, beq_eq_false_iff_ne, bne_eq_false_iff_eq, Bool.not_eq_true', Bool.not_eq_false', Bool.not_eq_eq_eq_not, Bool.not_true, Bool.not_false, Int.not_lt, Int.not_le, gt_iff_lt, ge_iff_le, Bool.or_eq_true, Bool.and_eq_true, Bool.or_eq_false_iff, Decidable.not_not] at hb) | skip))
            exact WpS.keepE [0, 1, 2, 9, 12, 13, 14, 15, 16] this rfl

end Go.Pv.Cb
