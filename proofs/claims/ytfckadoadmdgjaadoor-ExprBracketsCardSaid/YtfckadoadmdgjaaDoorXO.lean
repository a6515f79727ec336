/- What the functions that ExprBrackets reaches compute: a part. -/
import Derived.Test.YtfckadoadmdgjaaDoorXN
set_option linter.all false
namespace Go.Pv.Cb
set_option linter.unusedSimpArgs false
open Go.Pv
set_option maxRecDepth 10000
set_option maxHeartbeats 4000000
theorem dpL_get : ∀ {l : List Tr} {i : Nat} {k : Tr} {d : Int}, 0 ≤ d → l[i]? = some k → dep k ≤ dpL d l
  | t :: ts, 0, k, d, hd, h => by
    simp at h; subst h
    have := dpL_le ts (max d (dep t)) (by omega)
    rw [dpL_c]; omega
  | t :: ts, i + 1, k, d, hd, h => by
    rw [dpL_c]; exact dpL_get (by have := dep_le t; omega) (by simpa using h)
theorem ffTs_get : ∀ {l : List Tr} {i : Nat} {k : Tr} {f : Int}, ffTs f l = 0 → l[i]? = some k → ffT k = 0
  | t :: ts, i, k, f, hf, h => by
    rw [ffTs] at hf
    by_cases hz : f = 0
    · rw [if_pos hz] at hf
      cases i with
      | zero =>
        simp at h; subst h
        by_cases h2 : ffT t = 0
        · exact h2
        · rw [ffTs_ne _ _ h2] at hf; exact absurd hf h2
      | succ i => exact ffTs_get hf (by simpa using h)
    · rw [if_neg hz] at hf; exact absurd hf hz
theorem chk_kid {e k : Tr} {i : Nat} (h : e.ks[i]? = some k) (hc : chk e = 0) : chk k = 0 ∧ dep k < dep e ∧ k.n < e.n := by
  have h1 := dpL_get (d := 0) (by omega) h
  have h2 := dep_eq e
  have h3 := kid_lt h
  unfold chk at hc ⊢
  split at hc
  · omega
  · split at hc
    · omega
    · rw [ffT_eq] at hc
      split at hc
      · have := ffTs_get hc h
        rw [if_neg (by omega), if_neg (by omega)]
        exact ⟨this, by omega, h3⟩
      · omega
theorem frz_set {l : List Tr} {m : Nat} {k : Tr} (h : l[m]? = some k) : OV.frzss ((l.map wT).set m ((cT k).map OV.p)) = l.map cT := by
  rw [frzss_eq_map, List.map_set]
  have e1 : (l.map wT).map (fun x => x.map OV.frz) = l.map cT := by rw [← frzss_eq_map, wTm_frz]
  have e2 : ((cT k).map OV.p).map OV.frz = cT k := by rw [← frzs_eq_map, frzs_plain]
  rw [e1, e2]
  apply List.ext_getElem?
  intro i
  rw [List.getElem?_set]
  split
  · rename_i e; subst e
    simp only [List.getElem?_map, h, List.length_map, (List.getElem?_eq_some_iff.1 h).1, if_true, Option.map_some]
  · rfl
theorem whole_set {l : List Tr} {m : Nat} {k : Tr} : OV.wholess ((l.map wT).set m ((cT k).map OV.p)) = true := by
  rw [wholess_eq, List.all_eq_true]
  intro x hx
  rcases List.mem_or_eq_of_mem_set hx with q | rfl
  · obtain ⟨t, _, rfl⟩ := List.mem_map.1 q
    rw [← wholes_eq, wT_whole]
  · rw [← wholes_eq, wholes_plain]
end Go.Pv.Cb
