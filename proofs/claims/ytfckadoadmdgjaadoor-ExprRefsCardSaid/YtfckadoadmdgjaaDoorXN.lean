/- What the functions that ExprRefs reaches compute: a part. -/
import Derived.Test.YtfckadoadmdgjaaDoorXM
set_option linter.all false
namespace Go.Pv.Cb
set_option linter.unusedSimpArgs false
open Go.Pv
set_option maxRecDepth 10000
set_option maxHeartbeats 4000000
mutual
theorem rf_mem : ∀ (t x : Tr), x ∈ rfT t → x.n ≤ t.n ∧ (t.st → x.st) ∧ 2 ≤ x.k ∧ x.k ≤ 6
  | .mk k v a sh op ks, x, h => by
    rw [rfT] at h
    split at h
    · rename_i hk
      rw [List.mem_singleton] at h; subst h
      exact ⟨Nat.le_refl _, id, hk.1, hk.2⟩
    · obtain ⟨h1, h2, h3⟩ := rfs_mem ks x h
      rw [Tr.n, Tr.st]
      exact ⟨by omega, fun q => h2 q.2, h3⟩
theorem rfs_mem : ∀ (l : List Tr) (x : Tr), x ∈ rfTs l → x.n ≤ Tr.ns l ∧ (Tr.sts l → x.st) ∧ 2 ≤ x.k ∧ x.k ≤ 6
  | [], x, h => by simp [rfTs] at h
  | t :: ts, x, h => by
    rw [rfTs, List.mem_append] at h
    rw [Tr.ns, Tr.sts]
    rcases h with h | h
    · obtain ⟨h1, h2, h3⟩ := rf_mem t x h
      exact ⟨by omega, fun q => h2 q.1, h3⟩
    · obtain ⟨h1, h2, h3⟩ := rfs_mem ts x h
      exact ⟨by omega, fun q => h2 q.2, h3⟩
end
end Go.Pv.Cb
