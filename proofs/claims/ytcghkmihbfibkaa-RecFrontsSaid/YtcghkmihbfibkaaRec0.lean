/- What the functions that RecFronts reaches compute: a part. -/
import Derived.Test.YtcghkmihbfibkaaToo
set_option linter.all false
namespace Go.Pv.Cb
open Go.Pv
/-- Cuts rise, all inside. -/
def okCuts (n : Int) : Int → List Int → Bool
  | _, [] => true
  | last, c :: cs => decide (last < c) && decide (c < n) && okCuts n c cs
/-- No part is too long. -/
def okGaps (n : Int) : Int → List Int → Bool
  | last, [] => decide (n - last ≤ 224)
  | last, c :: cs => decide (c - last ≤ 224) && okGaps n c cs
def chk (ty : Int) (data : List UInt8) (cuts : List Int) : Int :=
  if ty < 0 ∨ 65535 < ty ∨ ty = 60 then 1 else if 65536 < data.length then 4 else if okCuts data.length 0 cuts then (if okGaps data.length 0 cuts then 0 else 4) else 6
theorem okCuts_bad {n last c : Int} {cs : List Int} (h : ¬ (last < c ∧ c < n)) : okCuts n last (c :: cs) = false := by
  rw [okCuts]
  have : (decide (last < c) && decide (c < n)) = false := by
    rw [← Bool.decide_and]; exact decide_eq_false h
  rw [this, Bool.false_and]
theorem okCuts_good {n last c : Int} {cs : List Int} (h : last < c) (h2 : c < n) : okCuts n last (c :: cs) = okCuts n c cs := by
  rw [okCuts, decide_eq_true h, decide_eq_true h2]; rfl
theorem okGaps_bad {n last c : Int} {cs : List Int} (h : ¬ c - last ≤ 224) : okGaps n last (c :: cs) = false := by
  rw [okGaps, decide_eq_false h, Bool.false_and]
theorem okGaps_good {n last c : Int} {cs : List Int} (h : c - last ≤ 224) : okGaps n last (c :: cs) = okGaps n c cs := by
  rw [okGaps, decide_eq_true h, Bool.true_and]
end Go.Pv.Cb
namespace Go.Pv.Cb
theorem okCuts_mem {n : Int} : ∀ {l : List Int} {last : Int}, okCuts n last l = true → ∀ c ∈ l, last < c ∧ c < n
  | [], _, _, c, hc => by simp at hc
  | d :: l, last, h, c, hc => by
    simp only [okCuts, Bool.and_eq_true, decide_eq_true_eq] at h
    rcases List.mem_cons.1 hc with rfl | hm
    · exact h.1
    · have := okCuts_mem h.2 c hm; omega
end Go.Pv.Cb
