/- What the functions that StrCuts reaches compute: a part. -/
import Derived.Test.YtcghkmihbfibkaaDoorStrF
set_option linter.all false
namespace Go.Pv.Cb
open Go.Pv
set_option maxRecDepth 10000
set_option maxHeartbeats 4000000
set_option linter.unusedSimpArgs false
/-- A unit in bytes as it stands in a text: whether wide, whether flags stand ahead of it. -/
structure En where
  w : Bool
  fl : Bool
  u : Int
def wb (w : Bool) : UInt8 := if w then 1 else 0
def enB (e : En) : List UInt8 := (if e.fl then [wb e.w] else []) ++ ub (!e.w) e.u
/-- Each part begins where the cuts say; no cut parts a unit. -/
def okEs (cuts : List Int) : Nat → Bool → List En → Prop
  | _, _, [] => True
  | p, w, e :: es => ((p : Int) ∈ cuts ↔ e.fl = true) ∧ (e.fl = false → e.w = w) ∧ (e.w = true → (((p + (if e.fl then 1 else 0) + 1 : Nat) : Int)) ∉ cuts) ∧ 0 ≤ e.u ∧ e.u < (if e.w then 65536 else 256) ∧ okEs cuts (p + (enB e).length) e.w es
theorem by8_nat (x : Int) : ((by8 x).toNat : Int) = x % 256 := by
  unfold by8
  rw [UInt8.toNat_ofNat']; omega
theorem wb_nat (w : Bool) : ((wb w).toNat : Int) = if w then 1 else 0 := by cases w <;> rfl
theorem Get_good (p : Nat) (B : List UInt8) (cuts : List Int) (x y : UInt8) (w : Bool) (es : List En) (post : List UInt8) (l : List Nat) (hB : B.drop p = x :: y :: wb w :: (es.flatMap enB ++ post)) (hbl : B.length ≤ 1000000) (hcl : cuts.length ≤ 1000000)
    (hn : (x.toNat : Int) + (y.toNat : Int) * 256 = es.length) (hes : es.length ≤ 1000) (hok : okEs cuts (p + 3) w es) (hl : es.map En.u = units l) (hg : goodR l) (hel : (encs l).length ≤ 1000000) :
    ansOf E F_str_Get [.a [.p (.sl 1 (ofBytes B)), .p (.int .i64 p)], .w (.p (.sl 1 (eI cuts)))] = some ([(false, [.p (.str (encs l))]), (true, [.p (.sl 1 (ofBytes B)), .p (.int .i64 ((p + 3 + (es.flatMap enB).length : Nat) : Int))]), (false, [.p (.int .i64 0)])], []) := by
  have hd : ∀ k, B[p + k]? = (x :: y :: wb w :: (es.flatMap enB ++ post))[k]? := fun k => by rw [← hB, List.getElem?_drop]
  have D0 : B[p]? = some x := hd 0
  have D1 : B[p + 1]? = some y := hd 1
  have D2 : B[p + 2]? = some (wb w) := hd 2
  have hU := U16_ok B p x y D0 D1 hbl
  have hF := flags_ok B (p + 2) (wb w) D2 (by cases w <;> decide) hbl
  rw [hn] at hU
  have hw := wb_nat w
  refine str_Get_ans rfl rfl ?_
  repeat' (first | (apply wpS_label1) | (apply wpS_skip1) | (apply wpS_block) | ((first | apply wpS_seq_goto | apply wpS_seq_exit | apply wpS_seq_ret); (try simp only [thenS, blockS, ↓reduceIte, Nat.reduceEqDiff])) | (apply wpS_seq_cond) | (apply wpS_seq_block) | (apply wpS_seq_loop) | (apply wpS_seq_scope) | (apply wpS_seq_seq) | ((first | apply wpS_stepT | apply wpS_stepDT | refine wpS_regL rfl ?_ | refine wpS_drawL rfl ?_ | apply wpS_condT); intro rr hrr; (simp -implicitDefEqProofs +contextual (maxSteps := 10000000) (disch := first | assumption | with_unfolding_all exact id rfl | omega | decide) only [go_sem, Int.reduceToNat, Int.reduceAdd, Int.reduceSub, Int.reduceMul, Int.reduceNeg, Int.reducePow, Int.reduceLT, Int.reduceLE, Int.reduceEq, Int.reduceNe, Int.reduceBEq, Int.reduceBNe, Int.reduceDiv, Int.reduceMod, Nat.reducePow, ↓reduceIte, reduceCtorEq, Nat.reduceEqDiff, Nat.reduceLT, Nat.reduceLeDiff, Nat.reduceAdd, Nat.reduceSub, Nat.reduceMul, Nat.reduceBEq, Nat.reduceBNe]); (first | ((with_reducible apply oThen_intro; (first | (refine hrr _ _ (by kernel_rfl) ?_) | (refine hrr _ ?_ ?_) | (refine hrr _ ?_)) <;> clear hrr rr); (try dsimp only [thenS, blockS])) | (with_reducible apply oThen_gcond))) | ((first | apply wpS_skip | apply wpS_exit | apply wpS_goto | apply wpS_ret); (try simp only [thenS, blockS, ↓reduceIte, Nat.reduceEqDiff])) | (with_reducible apply oThen_intro; (first | (refine hrr _ _ (by kernel_rfl) ?_) | (refine hrr _ ?_ ?_) | (refine hrr _ ?_)) <;> clear hrr rr) | (with_reducible apply oThen_gcond) | (intro hb; first | (exact absurd hb (by decide)) | (simp only [decide_eq_true_eq, decide_eq_false_iff_not, beq_iff_eq, bne_iff_ne, ne_eq, beq_eq_false_iff_ne, bne_eq_false_iff_eq, Bool.not_eq_true', Bool.not_eq_false', Bool.not_eq_eq_eq_not, Bool.not_true, Bool.not_false, Int.not_lt, Int.not_le, gt_iff_lt, ge_iff_le, Bool.or_eq_true, Bool.and_eq_true, Bool.or_eq_false_iff, Decidable.not_not] at hb) | skip))
  apply wpS_scope
  repeat' (first | (apply wpS_label1) | (apply wpS_skip1) | (apply wpS_block) | ((first | apply wpS_seq_goto | apply wpS_seq_exit | apply wpS_seq_ret); (try simp only [thenS, blockS, ↓reduceIte, Nat.reduceEqDiff])) | (apply wpS_seq_cond) | (apply wpS_seq_block) | (apply wpS_seq_loop) | (apply wpS_seq_scope) | (apply wpS_seq_seq) | ((first | apply wpS_stepT | apply wpS_stepDT | refine wpS_regL rfl ?_ | refine wpS_drawL rfl ?_ | apply wpS_condT); intro rr hrr; (simp -implicitDefEqProofs +contextual (maxSteps := 10000000) (disch := first | assumption | with_unfolding_all exact id rfl | omega | decide) only [go_sem, Int.reduceToNat, Int.reduceAdd, Int.reduceSub, Int.reduceMul, Int.reduceNeg, Int.reducePow, Int.reduceLT, Int.reduceLE, Int.reduceEq, Int.reduceNe, Int.reduceBEq, Int.reduceBNe, Int.reduceDiv, Int.reduceMod, Nat.reducePow, ↓reduceIte, reduceCtorEq, Nat.reduceEqDiff, Nat.reduceLT, Nat.reduceLeDiff, Nat.reduceAdd, Nat.reduceSub, Nat.reduceMul, Nat.reduceBEq, Nat.reduceBNe, hU, hF, hw]); (first | ((with_reducible apply oThen_intro; (first | (refine hrr _ _ (by kernel_rfl) ?_) | (refine hrr _ ?_ ?_) | (refine hrr _ ?_)) <;> clear hrr rr); (try dsimp only [thenS, blockS])) | (with_reducible apply oThen_gcond))) | ((first | apply wpS_skip | apply wpS_exit | apply wpS_goto | apply wpS_ret); (try simp only [thenS, blockS, ↓reduceIte, Nat.reduceEqDiff])) | (with_reducible apply oThen_intro; (first | (refine hrr _ _ (by kernel_rfl) ?_) | (refine hrr _ ?_ ?_) | (refine hrr _ ?_)) <;> clear hrr rr) | (with_reducible apply oThen_gcond) | (intro hb; first | (exact absurd hb (by decide)) | (simp only [decide_eq_true_eq, decide_eq_false_iff_not, beq_iff_eq, bne_iff_ne, ne_eq, beq_eq_false_iff_ne, bne_eq_false_iff_eq, Bool.not_eq_true', Bool.not_eq_false', Bool.not_eq_eq_eq_not, Bool.not_true, Bool.not_false, Int.not_lt, Int.not_le, gt_iff_lt, ge_iff_le, Bool.or_eq_true, Bool.and_eq_true, Bool.or_eq_false_iff, Decidable.not_not] at hb) | skip))
  all_goals first | (exfalso; omega) | skip
  refine WpS.keepE [1, 2, 5, 7, 8, 9] ?_ rfl
  have hbp := congrArg List.length hB
  rw [List.length_drop] at hbp
  simp only [List.length_cons, List.length_append] at hbp
  clear hU hF D0 D1 D2 hd hw
  refine wpS_loop_inv (fun x : List En × List En × Bool => [(1, .w (.p (.sl 1 (eI cuts)))), (2, .box [.p (.sl 1 (ofBytes B)), .p (.int .i64 p)]), (5, .box [.p (.sl 1 (ofBytes B)), .p (.int .i64 ((p + 3 + (x.1.flatMap enB).length : Nat) : Int))]), (7, .w (.p (.int .i64 es.length))), (8, .w (.p (.int .i64 (if x.2.2 = true then 1 else 0)))), (9, .w (.own 1 (plains (eI (x.1.map En.u)))))])
    (fun x => es = x.1 ++ x.2.1 ∧ okEs cuts (p + 3 + (x.1.flatMap enB).length) x.2.2 x.2.1) (fun x => x.2.1.length) ([], es, w) rfl ⟨rfl, hok⟩ ?_
  rintro ⟨a, b, cw⟩ ⟨hab, hok'⟩ ih
  dsimp only at hab hok' ih ⊢
  have hal := congrArg List.length hab
  rw [List.length_append] at hal
  have hml : (a.map En.u).length = a.length := by simp
  cases b with
  | nil =>
    rw [List.append_nil] at hab
    subst hab
    have hge : ¬ (es.length : Int) < es.length := by omega
    have hT := text_good l hg hel
    rw [← hl] at hT
    repeat' (first | (apply wpS_label1) | (apply wpS_skip1) | (apply wpS_block) | ((first | apply wpS_seq_goto | apply wpS_seq_exit | apply wpS_seq_ret); (try simp only [thenS, blockS, ↓reduceIte, Nat.reduceEqDiff])) | (apply wpS_seq_cond) | (apply wpS_seq_block) | (apply wpS_seq_loop) | (apply wpS_seq_scope) | (apply wpS_seq_seq) | ((first | apply wpS_stepT | apply wpS_stepDT | refine wpS_regL rfl ?_ | refine wpS_drawL rfl ?_ | apply wpS_condT); intro rr hrr; (simp -implicitDefEqProofs +contextual (maxSteps := 10000000) (disch := first | assumption | with_unfolding_all exact id rfl | omega | decide) only [go_sem, Int.reduceToNat, Int.reduceAdd, Int.reduceSub, Int.reduceMul, Int.reduceNeg, Int.reducePow, Int.reduceLT, Int.reduceLE, Int.reduceEq, Int.reduceNe, Int.reduceBEq, Int.reduceBNe, Int.reduceDiv, Int.reduceMod, Nat.reducePow, ↓reduceIte, reduceCtorEq, Nat.reduceEqDiff, Nat.reduceLT, Nat.reduceLeDiff, Nat.reduceAdd, Nat.reduceSub, Nat.reduceMul, Nat.reduceBEq, Nat.reduceBNe, hge, hml, hT]); (first | ((with_reducible apply oThen_intro; (first | (refine hrr _ _ (by kernel_rfl) ?_) | (refine hrr _ ?_ ?_) | (refine hrr _ ?_)) <;> clear hrr rr); (try dsimp only [thenS, blockS])) | (with_reducible apply oThen_gcond))) | ((first | apply wpS_skip | apply wpS_exit | apply wpS_goto | apply wpS_ret); (try simp only [thenS, blockS, ↓reduceIte, Nat.reduceEqDiff])) | (with_reducible apply oThen_intro; (first | (refine hrr _ _ (by kernel_rfl) ?_) | (refine hrr _ ?_ ?_) | (refine hrr _ ?_)) <;> clear hrr rr) | (with_reducible apply oThen_gcond) | (intro hb; first | (exact absurd hb (by decide)) | (simp only [decide_eq_true_eq, decide_eq_false_iff_not, beq_iff_eq, bne_iff_ne, ne_eq, beq_eq_false_iff_ne, bne_eq_false_iff_eq, Bool.not_eq_true', Bool.not_eq_false', Bool.not_eq_eq_eq_not, Bool.not_true, Bool.not_false, Int.not_lt, Int.not_le, gt_iff_lt, ge_iff_le, Bool.or_eq_true, Bool.and_eq_true, Bool.or_eq_false_iff, Decidable.not_not] at hb) | skip))
    apply lpS_ret
    (refine ⟨by simp, ?_⟩; (simp -implicitDefEqProofs +contextual (maxSteps := 10000000) (disch := first | assumption | with_unfolding_all exact id rfl | omega | decide) only [go_sem, Int.reduceToNat, Int.reduceAdd, Int.reduceSub, Int.reduceMul, Int.reduceNeg, Int.reducePow, Int.reduceLT, Int.reduceLE, Int.reduceEq, Int.reduceNe, Int.reduceBEq, Int.reduceBNe, Int.reduceDiv, Int.reduceMod, Nat.reducePow, ↓reduceIte, reduceCtorEq, Nat.reduceEqDiff, Nat.reduceLT, Nat.reduceLeDiff, Nat.reduceAdd, Nat.reduceSub, Nat.reduceMul, Nat.reduceBEq, Nat.reduceBNe, str_Get]))
  | cons e b =>
    obtain ⟨hok1, hok2, hok3, hok4, hok5, hok6⟩ := hok'
    have hdP : B.drop (p + 3 + (a.flatMap enB).length) = enB e ++ (b.flatMap enB ++ post) := by
      have e1 := congrArg (List.drop (3 + (a.flatMap enB).length)) hB
      rw [List.drop_drop, ← Nat.add_assoc] at e1
      rw [e1, hab]
      show List.drop _ _ = _
      rw [Nat.add_comm 3, show List.drop ((a.flatMap enB).length + 3) (x :: y :: wb w :: ((a ++ e :: b).flatMap enB ++ post)) = List.drop (a.flatMap enB).length ((a ++ e :: b).flatMap enB ++ post) from rfl, List.flatMap_append, List.append_assoc, List.drop_left, List.flatMap_cons, List.append_assoc]
    have hih := ih (a ++ [e], b, e.w) (by simp) ⟨by simp [hab], by rw [List.flatMap_append, List.length_append]; simpa [Nat.add_assoc] using hok6⟩
    dsimp only at hih
    rw [List.flatMap_append, List.length_append, List.flatMap_cons, List.flatMap_nil, List.append_nil, List.map_append, List.map_cons, List.map_nil, ← Nat.add_assoc] at hih
    clear ih
    have hlt : (a.length : Int) < es.length := by rw [List.length_cons] at hal; omega
    obtain ⟨P, hP⟩ : ∃ P, p + 3 + (a.flatMap enB).length = P := ⟨_, rfl⟩
    rw [hP] at hdP hok1 hok3 hok6 hih ⊢
    have dP : ∀ k, k < (enB e).length → B[P + k]? = (enB e)[k]? := fun k hk => by
      have := congrArg (fun z => z[k]?) hdP
      simp only [List.getElem?_drop] at this
      rw [this, List.getElem?_append_left hk]
    obtain ⟨ew, fl, u⟩ := e
    dsimp only at hok1 hok2 hok3 hok4 hok5 hok6 hih dP ⊢
    cases fl with
    | true =>
      rw [if_pos rfl] at hok3
      cases ew with
      | true =>
        rw [if_pos rfl] at hok5
        have huv : u % 256 + u / 256 % 256 * 256 = u := by omega
        have hok3 := hok3 rfl
        have heB : enB ⟨true, true, u⟩ = [wb true, by8 u, by8 (u / 256)] := rfl
        rw [heB] at dP hih hok6
        have D0 : B[P]? = some (wb true) := dP 0 (by simp)
        have hPb : P < B.length := (List.getElem?_eq_some_iff.1 D0).1
        have D1 : B[P + 1]? = some (by8 u) := dP 1 (by simp)
        have D2 : B[P + 2]? = some (by8 (u / 256)) := dP 2 (by simp)
        have hF := flags_ok B P (wb true) D0 (by decide) hbl
        rw [wb_nat] at hF
        have c0 : ((P : Int) ∈ cuts) = True := eq_true (hok1.2 rfl)
        have c1 : (((P + 1 + 1 : Nat) : Int) ∈ cuts) = False := eq_false hok3
        have hU := U16_ok B (P + 1) _ _ D1 D2 hbl
        rw [by8_nat, by8_nat, huv] at hU
        repeat' (first | (apply wpS_label1) | (apply wpS_skip1) | (apply wpS_block) | ((first | apply wpS_seq_goto | apply wpS_seq_exit | apply wpS_seq_ret); (try simp only [thenS, blockS, ↓reduceIte, Nat.reduceEqDiff])) | (apply wpS_seq_cond) | (apply wpS_seq_block) | (apply wpS_seq_loop) | (apply wpS_seq_scope) | (apply wpS_seq_seq) | ((first | apply wpS_stepT | apply wpS_stepDT | refine wpS_regL rfl ?_ | refine wpS_drawL rfl ?_ | apply wpS_condT); intro rr hrr; (simp -implicitDefEqProofs +contextual (maxSteps := 10000000) (disch := first | assumption | with_unfolding_all exact id rfl | omega | decide) only [go_sem, Int.reduceToNat, Int.reduceAdd, Int.reduceSub, Int.reduceMul, Int.reduceNeg, Int.reducePow, Int.reduceLT, Int.reduceLE, Int.reduceEq, Int.reduceNe, Int.reduceBEq, Int.reduceBNe, Int.reduceDiv, Int.reduceMod, Nat.reducePow, ↓reduceIte, reduceCtorEq, Nat.reduceEqDiff, Nat.reduceLT, Nat.reduceLeDiff, Nat.reduceAdd, Nat.reduceSub, Nat.reduceMul, Nat.reduceBEq, Nat.reduceBNe, hlt, Contains_spec, hF, c0, c1, hU]); (first | ((with_reducible apply oThen_intro; (first | (refine hrr _ _ (by kernel_rfl) ?_) | (refine hrr _ ?_ ?_) | (refine hrr _ ?_)) <;> clear hrr rr); (try dsimp only [thenS, blockS])) | (with_reducible apply oThen_gcond))) | ((first | apply wpS_skip | apply wpS_exit | apply wpS_goto | apply wpS_ret); (try simp only [thenS, blockS, ↓reduceIte, Nat.reduceEqDiff])) | (with_reducible apply oThen_intro; (first | (refine hrr _ _ (by kernel_rfl) ?_) | (refine hrr _ ?_ ?_) | (refine hrr _ ?_)) <;> clear hrr rr) | (with_reducible apply oThen_gcond) | (intro hb; first | (exact absurd hb (by decide)) | (simp only [decide_eq_true_eq, decide_eq_false_iff_not, beq_iff_eq, bne_iff_ne, ne_eq, beq_eq_false_iff_ne, bne_eq_false_iff_eq, Bool.not_eq_true', Bool.not_eq_false', Bool.not_eq_eq_eq_not, Bool.not_true, Bool.not_false, Int.not_lt, Int.not_le, gt_iff_lt, ge_iff_le, Bool.or_eq_true, Bool.and_eq_true, Bool.or_eq_false_iff, Decidable.not_not] at hb) | skip))
        all_goals first | (exfalso; omega) | skip
        all_goals exact WpS.keepE [1, 2, 5, 7, 8, 9] hih rfl
      | false =>
        rw [if_neg (by decide)] at hok5
        have huv : u % 256 = u := by omega
        have heB : enB ⟨false, true, u⟩ = [wb false, by8 u] := rfl
        rw [heB] at dP hih hok6
        have D0 : B[P]? = some (wb false) := dP 0 (by simp)
        have hPb : P < B.length := (List.getElem?_eq_some_iff.1 D0).1
        have D1 : B[P + 1]? = some (by8 u) := dP 1 (by simp)
        have hF := flags_ok B P (wb false) D0 (by decide) hbl
        rw [wb_nat] at hF
        have c0 : ((P : Int) ∈ cuts) = True := eq_true (hok1.2 rfl)
        have hU := U8_ok B (P + 1) _ D1 hbl
        rw [by8_nat, huv] at hU
        repeat' (first | (apply wpS_label1) | (apply wpS_skip1) | (apply wpS_block) | ((first | apply wpS_seq_goto | apply wpS_seq_exit | apply wpS_seq_ret); (try simp only [thenS, blockS, ↓reduceIte, Nat.reduceEqDiff])) | (apply wpS_seq_cond) | (apply wpS_seq_block) | (apply wpS_seq_loop) | (apply wpS_seq_scope) | (apply wpS_seq_seq) | ((first | apply wpS_stepT | apply wpS_stepDT | refine wpS_regL rfl ?_ | refine wpS_drawL rfl ?_ | apply wpS_condT); intro rr hrr; (simp -implicitDefEqProofs +contextual (maxSteps := 10000000) (disch := first | assumption | with_unfolding_all exact id rfl | omega | decide) only [go_sem, Int.reduceToNat, Int.reduceAdd, Int.reduceSub, Int.reduceMul, Int.reduceNeg, Int.reducePow, Int.reduceLT, Int.reduceLE, Int.reduceEq, Int.reduceNe, Int.reduceBEq, Int.reduceBNe, Int.reduceDiv, Int.reduceMod, Nat.reducePow, ↓reduceIte, reduceCtorEq, Nat.reduceEqDiff, Nat.reduceLT, Nat.reduceLeDiff, Nat.reduceAdd, Nat.reduceSub, Nat.reduceMul, Nat.reduceBEq, Nat.reduceBNe, hlt, Contains_spec, hF, c0, hU]); (first | ((with_reducible apply oThen_intro; (first | (refine hrr _ _ (by kernel_rfl) ?_) | (refine hrr _ ?_ ?_) | (refine hrr _ ?_)) <;> clear hrr rr); (try dsimp only [thenS, blockS])) | (with_reducible apply oThen_gcond))) | ((first | apply wpS_skip | apply wpS_exit | apply wpS_goto | apply wpS_ret); (try simp only [thenS, blockS, ↓reduceIte, Nat.reduceEqDiff])) | (with_reducible apply oThen_intro; (first | (refine hrr _ _ (by kernel_rfl) ?_) | (refine hrr _ ?_ ?_) | (refine hrr _ ?_)) <;> clear hrr rr) | (with_reducible apply oThen_gcond) | (intro hb; first | (exact absurd hb (by decide)) | (simp only [decide_eq_true_eq, decide_eq_false_iff_not, beq_iff_eq, bne_iff_ne, ne_eq, beq_eq_false_iff_ne, bne_eq_false_iff_eq, Bool.not_eq_true', Bool.not_eq_false', Bool.not_eq_eq_eq_not, Bool.not_true, Bool.not_false, Int.not_lt, Int.not_le, gt_iff_lt, ge_iff_le, Bool.or_eq_true, Bool.and_eq_true, Bool.or_eq_false_iff, Decidable.not_not] at hb) | skip))
        all_goals first | (exfalso; omega) | skip
        all_goals exact WpS.keepE [1, 2, 5, 7, 8, 9] hih rfl
    | false =>
      rw [if_neg (by decide), Nat.add_zero] at hok3
      obtain rfl := hok2 rfl
      cases ew with
      | true =>
        rw [if_pos rfl] at hok5
        have huv : u % 256 + u / 256 % 256 * 256 = u := by omega
        have hok3 := hok3 rfl
        have heB : enB ⟨true, false, u⟩ = [by8 u, by8 (u / 256)] := rfl
        rw [heB] at dP hih hok6
        have D0 : B[P]? = some (by8 u) := dP 0 (by simp)
        have hPb : P < B.length := (List.getElem?_eq_some_iff.1 D0).1
        have D1 : B[P + 1]? = some (by8 (u / 256)) := dP 1 (by simp)
        have c0 : ((P : Int) ∈ cuts) = False := eq_false (fun q => by simpa using hok1.1 q)
        have c1 : (((P + 1 : Nat) : Int) ∈ cuts) = False := eq_false hok3
        have hU := U16_ok B (P) _ _ D0 D1 hbl
        rw [by8_nat, by8_nat, huv] at hU
        repeat' (first | (apply wpS_label1) | (apply wpS_skip1) | (apply wpS_block) | ((first | apply wpS_seq_goto | apply wpS_seq_exit | apply wpS_seq_ret); (try simp only [thenS, blockS, ↓reduceIte, Nat.reduceEqDiff])) | (apply wpS_seq_cond) | (apply wpS_seq_block) | (apply wpS_seq_loop) | (apply wpS_seq_scope) | (apply wpS_seq_seq) | ((first | apply wpS_stepT | apply wpS_stepDT | refine wpS_regL rfl ?_ | refine wpS_drawL rfl ?_ | apply wpS_condT); intro rr hrr; (simp -implicitDefEqProofs +contextual (maxSteps := 10000000) (disch := first | assumption | with_unfolding_all exact id rfl | omega | decide) only [go_sem, Int.reduceToNat, Int.reduceAdd, Int.reduceSub, Int.reduceMul, Int.reduceNeg, Int.reducePow, Int.reduceLT, Int.reduceLE, Int.reduceEq, Int.reduceNe, Int.reduceBEq, Int.reduceBNe, Int.reduceDiv, Int.reduceMod, Nat.reducePow, ↓reduceIte, reduceCtorEq, Nat.reduceEqDiff, Nat.reduceLT, Nat.reduceLeDiff, Nat.reduceAdd, Nat.reduceSub, Nat.reduceMul, Nat.reduceBEq, Nat.reduceBNe, hlt, Contains_spec, c0, c1, hU]); (first | ((with_reducible apply oThen_intro; (first | (refine hrr _ _ (by kernel_rfl) ?_) | (refine hrr _ ?_ ?_) | (refine hrr _ ?_)) <;> clear hrr rr); (try dsimp only [thenS, blockS])) | (with_reducible apply oThen_gcond))) | ((first | apply wpS_skip | apply wpS_exit | apply wpS_goto | apply wpS_ret); (try simp only [thenS, blockS, ↓reduceIte, Nat.reduceEqDiff])) | (with_reducible apply oThen_intro; (first | (refine hrr _ _ (by kernel_rfl) ?_) | (refine hrr _ ?_ ?_) | (refine hrr _ ?_)) <;> clear hrr rr) | (with_reducible apply oThen_gcond) | (intro hb; first | (exact absurd hb (by decide)) | (simp only [decide_eq_true_eq, decide_eq_false_iff_not, beq_iff_eq, bne_iff_ne, ne_eq, beq_eq_false_iff_ne, bne_eq_false_iff_eq, Bool.not_eq_true', Bool.not_eq_false', Bool.not_eq_eq_eq_not, Bool.not_true, Bool.not_false, Int.not_lt, Int.not_le, gt_iff_lt, ge_iff_le, Bool.or_eq_true, Bool.and_eq_true, Bool.or_eq_false_iff, Decidable.not_not] at hb) | skip))
        all_goals first | (exfalso; omega) | skip
        all_goals exact WpS.keepE [1, 2, 5, 7, 8, 9] hih rfl
      | false =>
        rw [if_neg (by decide)] at hok5
        have huv : u % 256 = u := by omega
        have heB : enB ⟨false, false, u⟩ = [by8 u] := rfl
        rw [heB] at dP hih hok6
        have D0 : B[P]? = some (by8 u) := dP 0 (by simp)
        have hPb : P < B.length := (List.getElem?_eq_some_iff.1 D0).1
        have c0 : ((P : Int) ∈ cuts) = False := eq_false (fun q => by simpa using hok1.1 q)
        have hU := U8_ok B (P) _ D0 hbl
        rw [by8_nat, huv] at hU
        repeat' (first | (apply wpS_label1) | (apply wpS_skip1) | (apply wpS_block) | ((first | apply wpS_seq_goto | apply wpS_seq_exit | apply wpS_seq_ret); (try simp only [thenS, blockS, ↓reduceIte, Nat.reduceEqDiff])) | (apply wpS_seq_cond) | (apply wpS_seq_block) | (apply wpS_seq_loop) | (apply wpS_seq_scope) | (apply wpS_seq_seq) | ((first | apply wpS_stepT | apply wpS_stepDT | refine wpS_regL rfl ?_ | refine wpS_drawL rfl ?_ | apply wpS_condT); intro rr hrr; (simp -implicitDefEqProofs +contextual (maxSteps := 10000000) (disch := first | assumption | with_unfolding_all exact id rfl | omega | decide) only [go_sem, Int.reduceToNat, Int.reduceAdd, Int.reduceSub, Int.reduceMul, Int.reduceNeg, Int.reducePow, Int.reduceLT, Int.reduceLE, Int.reduceEq, Int.reduceNe, Int.reduceBEq, Int.reduceBNe, Int.reduceDiv, Int.reduceMod, Nat.reducePow, ↓reduceIte, reduceCtorEq, Nat.reduceEqDiff, Nat.reduceLT, Nat.reduceLeDiff, Nat.reduceAdd, Nat.reduceSub, Nat.reduceMul, Nat.reduceBEq, Nat.reduceBNe, hlt, Contains_spec, c0, hU]); (first | ((with_reducible apply oThen_intro; (first | (refine hrr _ _ (by kernel_rfl) ?_) | (refine hrr _ ?_ ?_) | (refine hrr _ ?_)) <;> clear hrr rr); (try dsimp only [thenS, blockS])) | (with_reducible apply oThen_gcond))) | ((first | apply wpS_skip | apply wpS_exit | apply wpS_goto | apply wpS_ret); (try simp only [thenS, blockS, ↓reduceIte, Nat.reduceEqDiff])) | (with_reducible apply oThen_intro; (first | (refine hrr _ _ (by kernel_rfl) ?_) | (refine hrr _ ?_ ?_) | (refine hrr _ ?_)) <;> clear hrr rr) | (with_reducible apply oThen_gcond) | (intro hb; first | (exact absurd hb (by decide)) | (simp only [decide_eq_true_eq, decide_eq_false_iff_not, beq_iff_eq, bne_iff_ne, ne_eq, beq_eq_false_iff_ne, bne_eq_false_iff_eq, Bool.not_eq_true', Bool.not_eq_false', Bool.not_eq_eq_eq_not, Bool.not_true, Bool.not_false, Int.not_lt, Int.not_le, gt_iff_lt, ge_iff_le, Bool.or_eq_true, Bool.and_eq_true, Bool.or_eq_false_iff, Decidable.not_not] at hb) | skip))
        all_goals first | (exfalso; omega) | skip
        all_goals exact WpS.keepE [1, 2, 5, 7, 8, 9] hih rfl
end Go.Pv.Cb
