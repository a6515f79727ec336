/- What the functions that EnvTakes reaches compute: a part. -/
import Derived.Test.YtfckadoadmdgjaaDoorEI
import Derived.Test.YtfckadoadmdgjaaDoorFnsEOk
import Derived.Test.YtfckadoadmdgjaaDoorPvd
set_option linter.all false
namespace Go.Pv.Cb
set_option linter.unusedSimpArgs false
open Go.Pv Go.Proofs Go.RowKit
set_option maxRecDepth 100000
theorem each_of {α : Type} {p : List PV → Prop} (f : α → List PV) (h : ∀ el, p el → ∃ x, el = f x) : ∀ {els : List (List PV)}, (∀ el ∈ els, p el) → ∃ l : List α, els = l.map f
  | [], _ => ⟨[], rfl⟩
  | e :: els, hs => by
    obtain ⟨x, rfl⟩ := h e (hs e (by simp))
    obtain ⟨l, rfl⟩ := each_of f h (els := els) fun el hel => hs el (by simp [hel])
    exact ⟨x :: l, rfl⟩
theorem ty_int {n : Nat} {el : List PV} (h : TyOk Tryd.prog n 3 el) : ∃ i : Int, el = [.int .i64 i] := by
  cases n with
  | zero => exact h.elim
  | succ n =>
    simp only [TyOk, Tryd.underlying3] at h
    obtain ⟨i, rfl, _⟩ := h
    exact ⟨i, rfl⟩
theorem ty_i64 {n : Nat} {el : List PV} (h : TyOk Tryd.prog n 2 el) : ∃ i : Int, el = [.int .i64 i] := by
  cases n with
  | zero => exact h.elim
  | succ n =>
    simp only [TyOk, Tryd.underlying2] at h
    obtain ⟨i, rfl, _⟩ := h
    exact ⟨i, rfl⟩
theorem ty_bool {n : Nat} {el : List PV} (h : TyOk Tryd.prog n 4 el) : ∃ b : Bool, el = [.bool b] := by
  cases n with
  | zero => exact h.elim
  | succ n => simpa only [TyOk, Tryd.underlying4] using h
theorem ty_str {n : Nat} {el : List PV} (h : TyOk Tryd.prog n 9 el) : ∃ s : List UInt8, el = [.str s] := by
  cases n with
  | zero => exact h.elim
  | succ n =>
    simp only [TyOk, Tryd.underlying9] at h
    obtain ⟨s, rfl, _⟩ := h
    exact ⟨s, rfl⟩
theorem ty_dec {n : Nat} {el : List PV} (h : TyOk Tryd.prog n 23 el) : ∃ m c : Int, el = [.int .i64 m, .int .i64 c] := by
  cases n with
  | zero => exact h.elim
  | succ n =>
    simp only [TyOk, Tryd.underlying23, TyFs] at h
    obtain ⟨a, b, rfl, ha, a2, b2, rfl, hb, rfl⟩ := h
    obtain ⟨i, rfl⟩ := ty_i64 ha
    obtain ⟨j, rfl⟩ := ty_int hb
    exact ⟨i, j, rfl⟩
theorem ty_val {n : Nat} {el : List PV} (h : TyOk Tryd.prog n 25 el) : ∃ v : Vl, el = cV v := by
  cases n with
  | zero => exact h.elim
  | succ n =>
    simp only [TyOk, Tryd.underlying25, TyFs] at h
    obtain ⟨a, b, rfl, ha, a2, b2, rfl, hb, a3, b3, rfl, hc, a4, b4, rfl, hd, a5, b5, rfl, he, rfl⟩ := h
    obtain ⟨k, rfl⟩ := ty_int ha
    obtain ⟨m, c, rfl⟩ := ty_dec hb
    obtain ⟨s, rfl⟩ := ty_str hc
    obtain ⟨x, rfl⟩ := ty_bool hd
    obtain ⟨e, rfl⟩ := ty_int he
    exact ⟨⟨k, m, c, s, x, e⟩, rfl⟩
theorem ty_ref {n : Nat} {el : List PV} (h : TyOk Tryd.prog n 27 el) : ∃ r : Rf, el = cR r := by
  cases n with
  | zero => exact h.elim
  | succ n =>
    simp only [TyOk, Tryd.underlying27, TyFs] at h
    obtain ⟨a, b, rfl, ha, a2, b2, rfl, hb, a3, b3, rfl, hc, a4, b4, rfl, hd, rfl⟩ := h
    obtain ⟨i, rfl⟩ := ty_int ha
    obtain ⟨j, rfl⟩ := ty_int hb
    obtain ⟨x, rfl⟩ := ty_bool hc
    obtain ⟨y, rfl⟩ := ty_bool hd
    exact ⟨⟨i, j, x, y⟩, rfl⟩
theorem ty_area {n : Nat} {el : List PV} (h : TyOk Tryd.prog n 29 el) : ∃ r : Ar, el = cA r := by
  cases n with
  | zero => exact h.elim
  | succ n =>
    simp only [TyOk, Tryd.underlying29, TyFs] at h
    obtain ⟨a, b, rfl, ha, a2, b2, rfl, hb, rfl⟩ := h
    obtain ⟨i, rfl⟩ := ty_ref ha
    obtain ⟨j, rfl⟩ := ty_ref hb
    exact ⟨⟨i, j⟩, by simp [cA]⟩
theorem ty_tr : ∀ {n : Nat} {el : List PV}, TyOk Tryd.prog n 32 el → ∃ t : Tr, el = cT t
  | 0, _, h => h.elim
  | 1, el, h => by
    simp only [TyOk, Tryd.underlying32, TyFs] at h
    obtain ⟨_, _, _, h, _⟩ := h
    exact h.elim
  | n + 2, el, h => by
    rw [TyOk] at h
    simp only [Tryd.underlying32, TyFs] at h
    obtain ⟨a, b, rfl, ha, a2, b2, rfl, hb, a3, b3, rfl, hc, a4, b4, rfl, hd, a5, b5, rfl, he, a6, b6, rfl, hf, rfl⟩ := h
    obtain ⟨k, rfl⟩ := ty_int ha
    obtain ⟨v, rfl⟩ := ty_val hb
    obtain ⟨r, rfl⟩ := ty_area hc
    obtain ⟨sh, rfl⟩ := ty_int hd
    obtain ⟨op, rfl⟩ := ty_int he
    rw [TyOk] at hf
    simp only [Tryd.underlying30] at hf
    obtain ⟨els, rfl, _, h3⟩ := hf
    obtain ⟨l, rfl⟩ := each_of cT (fun el hel => ty_tr hel) h3
    refine ⟨.mk k v r sh op l, ?_⟩
    rw [cT, cTs_eq]
    show _ = _
    simp
    rfl
theorem ty_trs {n : Nat} {el : List PV} (h : TyOk Tryd.prog n 30 el) : ∃ l : List Tr, el = [.sl 18 (l.map cT)] := by
  cases n with
  | zero => exact h.elim
  | succ n =>
    rw [TyOk] at h
    simp only [Tryd.underlying30] at h
    obtain ⟨els, rfl, _, h3⟩ := h
    obtain ⟨l, rfl⟩ := each_of cT (fun el hel => ty_tr hel) h3
    exact ⟨l, rfl⟩
theorem ty_cell {n : Nat} {el : List PV} (h : TyOk Tryd.prog n 66 el) : ∃ r c : Int, el = [.int .i64 r, .int .i64 c] := by
  cases n with
  | zero => exact h.elim
  | succ n =>
    simp only [TyOk, Tryd.underlying66, TyFs] at h
    obtain ⟨a, b, rfl, ha, a2, b2, rfl, hb, rfl⟩ := h
    obtain ⟨i, rfl⟩ := ty_int ha
    obtain ⟨j, rfl⟩ := ty_int hb
    exact ⟨i, j, rfl⟩
theorem ty_pl {n : Nat} {el : List PV} (h : TyOk Tryd.prog n 68 el) : ∃ p : Pl, el = cP p := by
  cases n with
  | zero => exact h.elim
  | succ n =>
    simp only [TyOk, Tryd.underlying68, TyFs] at h
    obtain ⟨a, b, rfl, ha, a2, b2, rfl, hb, rfl⟩ := h
    obtain ⟨i, rfl⟩ := ty_int ha
    obtain ⟨r, c, rfl⟩ := ty_cell hb
    exact ⟨⟨i, r, c⟩, rfl⟩
theorem ty_pdec {n : Nat} {el : List PV} (h : TyOk Tryd.prog n 35 el) : ∃ m c : Int, el = [.int .i64 m, .int .i64 c] := by
  cases n with
  | zero => exact h.elim
  | succ n =>
    simp only [TyOk, Tryd.underlying35, TyFs] at h
    obtain ⟨a, b, rfl, ha, a2, b2, rfl, hb, rfl⟩ := h
    obtain ⟨i, rfl⟩ := ty_i64 ha
    obtain ⟨j, rfl⟩ := ty_int hb
    exact ⟨i, j, rfl⟩
theorem ty_pval {n : Nat} {el : List PV} (h : TyOk Tryd.prog n 37 el) : ∃ v : Vl, el = cV v := by
  cases n with
  | zero => exact h.elim
  | succ n =>
    simp only [TyOk, Tryd.underlying37, TyFs] at h
    obtain ⟨a, b, rfl, ha, a2, b2, rfl, hb, a3, b3, rfl, hc, a4, b4, rfl, hd, a5, b5, rfl, he, rfl⟩ := h
    obtain ⟨k, rfl⟩ := ty_int ha
    obtain ⟨m, c, rfl⟩ := ty_pdec hb
    obtain ⟨s, rfl⟩ := ty_str hc
    obtain ⟨x, rfl⟩ := ty_bool hd
    obtain ⟨e, rfl⟩ := ty_int he
    exact ⟨⟨k, m, c, s, x, e⟩, rfl⟩
theorem ty_rcell {n : Nat} {el : List PV} (h : TyOk Tryd.prog n 82 el) : ∃ r c : Int, el = [.int .i64 r, .int .i64 c] := by
  cases n with
  | zero => exact h.elim
  | succ n =>
    simp only [TyOk, Tryd.underlying82, TyFs] at h
    obtain ⟨a, b, rfl, ha, a2, b2, rfl, hb, rfl⟩ := h
    obtain ⟨i, rfl⟩ := ty_int ha
    obtain ⟨j, rfl⟩ := ty_int hb
    exact ⟨i, j, rfl⟩
theorem ty_rpl {n : Nat} {el : List PV} (h : TyOk Tryd.prog n 84 el) : ∃ p : Pl, el = cP p := by
  cases n with
  | zero => exact h.elim
  | succ n =>
    simp only [TyOk, Tryd.underlying84, TyFs] at h
    obtain ⟨a, b, rfl, ha, a2, b2, rfl, hb, rfl⟩ := h
    obtain ⟨i, rfl⟩ := ty_int ha
    obtain ⟨r, c, rfl⟩ := ty_rcell hb
    exact ⟨⟨i, r, c⟩, rfl⟩
theorem ty_slot {n : Nat} {el : List PV} (h : TyOk Tryd.prog n 123 el) : ∃ x : Sl, el = cS x := by
  cases n with
  | zero => exact h.elim
  | succ n =>
    simp only [TyOk, Tryd.underlying123, TyFs] at h
    obtain ⟨a, b, rfl, ha, a2, b2, rfl, hb, rfl⟩ := h
    obtain ⟨p, rfl⟩ := ty_rpl ha
    obtain ⟨v, rfl⟩ := ty_val hb
    exact ⟨⟨p, v⟩, rfl⟩
theorem ty_slots {n : Nat} {el : List PV} (h : TyOk Tryd.prog n 75 el) : ∃ l : List Sl, el = [.sl 9 (l.map cS)] := by
  cases n with
  | zero => exact h.elim
  | succ n =>
    rw [TyOk] at h
    simp only [Tryd.underlying75] at h
    obtain ⟨els, rfl, _, h3⟩ := h
    obtain ⟨l, rfl⟩ := each_of cS (fun el hel => ty_slot hel) h3
    exact ⟨l, rfl⟩
def cE (e : Int × List Sl × List Tr) : List PV := [.int .i64 e.1, .sl 9 (e.2.1.map cS), .sl 18 (e.2.2.map cT)]
theorem ty_env {n : Nat} {el : List PV} (h : TyOk Tryd.prog n 77 el) : ∃ e : Int × List Sl × List Tr, el = cE e := by
  cases n with
  | zero => exact h.elim
  | succ n =>
    simp only [TyOk, Tryd.underlying77, TyFs] at h
    obtain ⟨a, b, rfl, ha, a2, b2, rfl, hb, a3, b3, rfl, hc, rfl⟩ := h
    obtain ⟨i, rfl⟩ := ty_int ha
    obtain ⟨l, rfl⟩ := ty_slots hb
    obtain ⟨t, rfl⟩ := ty_trs hc
    exact ⟨(i, l, t), rfl⟩
end Go.Pv.Cb
