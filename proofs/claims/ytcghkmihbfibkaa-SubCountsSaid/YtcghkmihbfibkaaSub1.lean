/- What the functions that SubCounts reaches compute: a part. -/
import Derived.Test.YtcghkmihbfibkaaToo
set_option linter.all false
namespace Go.Pv.Cb
open Go.Pv
set_option maxRecDepth 10000
set_option maxHeartbeats 4000000
set_option linter.unusedSimpArgs false
def shortR (l : List R) : Prop := l.length ≤ 60 ∧ ∀ r ∈ l, r.data.length ≤ 3000 ∧ r.cuts.length ≤ 40
theorem Clone_i (s : List Int) (h : s.length ≤ 1000000) : ansOf E F_slices_Clone_int_int [.w (.p (.sl 1 (eI s)))] = some ([(false, [.own 1 (plains (eI s))])], []) := by
  refine ans_ext (g := cloneE 1 8) rfl ?_
  show (if _ then _ else _) = _
  rw [if_pos ⟨rfl, by rw [eI_length]; omega, by rw [eI_length]; omega⟩]
end Go.Pv.Cb
