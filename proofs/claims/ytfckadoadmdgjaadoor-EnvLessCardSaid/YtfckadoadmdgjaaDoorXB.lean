/- What the functions that EnvLess reaches compute: a part. -/
import Derived.Test.YtfckadoadmdgjaaDoorXA
set_option linter.all false
namespace Go.Pv.Cb
set_option linter.unusedSimpArgs false
open Go.Pv
set_option maxRecDepth 10000
set_option maxHeartbeats 4000000
abbrev oX (e : Tr) (x : OV) : List OV := [.p (.int .i64 e.k), .p (.int .i64 e.v.k), .p (.int .i64 e.v.m), .p (.int .i64 e.v.c), .p (.str e.v.s), .p (.bool e.v.b), .p (.int .i64 e.v.e), .p (.int .i64 e.a.a.row), .p (.int .i64 e.a.a.col), .p (.bool e.a.a.rr), .p (.bool e.a.a.rc), .p (.int .i64 e.a.b.row), .p (.int .i64 e.a.b.col), .p (.bool e.a.b.rr), .p (.bool e.a.b.rc), .p (.int .i64 e.sh), .p (.int .i64 e.op), x]
def fewL (f : Tr → Int → Bool × Int) : List Tr → Int → Bool × Int
  | [], n => (true, n)
  | k :: ks, n => match f k n with
    | (true, m) => fewL f ks m
    | (false, m) => (false, m)
def fewF (most : Int) : Nat → Tr → Int → Bool × Int
  | 0, _, n => (false, n + 1)
  | d + 1, e, n => if most < n + 1 ∨ 3000 < (e.v.s.length : Int) then (false, n + 1) else fewL (fewF most d) e.ks (n + 1)
theorem few_ok {most : Int} : ∀ (d : Nat) (e : Tr) (n : Int), n ≤ most → n < (fewF most d e n).2 ∧ (fewF most d e n).2 ≤ most + 1 ∧ ((fewF most d e n).1 = true → (fewF most d e n).2 ≤ most ∧ (fewF most d e n).2 = n + e.n ∧ e.st)
  | 0, e, n, h => by unfold fewF; simp only [Bool.false_eq_true, false_implies, and_true]; omega
  | d + 1, e, n, h => by
    unfold fewF
    split
    · simp only [Bool.false_eq_true, false_implies, and_true]; omega
    · rename_i h0
      have key : ∀ (l : List Tr) (m : Int), m ≤ most → m ≤ (fewL (fewF most d) l m).2 ∧ (fewL (fewF most d) l m).2 ≤ most + 1 ∧ ((fewL (fewF most d) l m).1 = true → (fewL (fewF most d) l m).2 ≤ most ∧ (fewL (fewF most d) l m).2 = m + Tr.ns l ∧ Tr.sts l) := by
        intro l
        induction l with
        | nil => intro m h1; unfold fewL Tr.ns Tr.sts; simp only; refine ⟨by omega, by omega, fun _ => ⟨by omega, by omega, trivial⟩⟩
        | cons k l ih =>
          intro m h1
          have hf := few_ok d k m h1
          unfold fewL
          split
          · rename_i m' e'
            rw [e'] at hf
            have h3 := hf.2.2 rfl
            have := ih m' h3.1
            refine ⟨by omega, by omega, fun q => ?_⟩
            have h4 := this.2.2 q
            rw [Tr.ns, Tr.sts]
            exact ⟨h4.1, by omega, h3.2.2, h4.2.2⟩
          · rename_i m' e'; rw [e'] at hf; simp only [Bool.false_eq_true, false_implies, and_true] at hf ⊢; omega
      have := key e.ks (n + 1) (by omega)
      refine ⟨by omega, by omega, fun q => ?_⟩
      have h5 := this.2.2 q
      rw [st_eq, n_eq]
      exact ⟨h5.1, by omega, by omega, h5.2.2⟩
end Go.Pv.Cb
