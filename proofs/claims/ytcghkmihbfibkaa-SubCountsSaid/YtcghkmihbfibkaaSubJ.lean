/- What the functions that SubCounts reaches compute: a part. -/
import Derived.Test.YtcghkmihbfibkaaKnown2
set_option linter.all false
namespace Go.Pv.Cb
open Go.Pv
set_option maxRecDepth 10000
set_option maxHeartbeats 4000000
set_option linter.unusedSimpArgs false
def oSo (s : S) : List OV := [.p (.int .i64 s.kind), .own 4 (s.recs.map oR)]
theorem oSo_frz (s : S) : OV.frzs (oSo s) = eS s := by simp only [oSo, eS, OV.frzs, OV.frz, oRs_frz]
theorem oSos_frz : ∀ (l : List S), OV.frzss (l.map oSo) = l.map eS
  | [] => rfl
  | r :: l => by simp only [List.map_cons, OV.frzss, oSo_frz, oSos_frz l]
theorem oSos_whole : ∀ (l : List S), OV.wholess (l.map oSo) = true
  | [] => rfl
  | r :: l => by simp only [List.map_cons, OV.wholess, oSos_whole l, Bool.and_true, oSo, OV.wholes, OV.whole, oRs_whole, Bool.and_self]
def flatS (s : S) : S := ⟨s.kind, s.recs.map flatR⟩
/-- All records of substreams. -/
def allR : List S → List R
  | [] => []
  | s :: t => bofR s.kind :: (s.recs.map flatR ++ (eofR :: allR t))
theorem join_ok : ∀ (l : List S) (b : List R), (join b l).2 = 0 → (join b l).1 = b ++ allR l ∧ ∀ s ∈ l, (0 ≤ s.kind ∧ s.kind ≤ 65535) ∧ s.recs.any badR = false
  | [], b, _ => ⟨by simp [join, allR], by simp⟩
  | s :: t, b, h => by
    rw [join] at h ⊢
    split at h
    · simp at h
    rename_i hk
    rw [if_neg hk]
    split at h
    · simp at h
    rename_i hb
    rw [if_neg hb]
    obtain ⟨e1, e2⟩ := join_ok t _ h
    refine ⟨by rw [e1]; simp [allR], fun x hx => ?_⟩
    rcases List.mem_cons.1 hx with rfl | hx
    · exact ⟨by omega, by simpa using hb⟩
    · exact e2 x hx
theorem join_err : ∀ (l : List S) (b : List R), (join b l).2 ≠ 0 → (join b l).1 = []
  | [], b, h => absurd rfl h
  | s :: t, b, h => by
    rw [join] at h ⊢
    split
    · rfl
    rename_i hk
    rw [if_neg hk] at h
    split
    · rfl
    rename_i hb
    rw [if_neg hb] at h
    exact join_err t _ h
theorem kind_by8 (k : Int) (h1 : 0 ≤ k) (h2 : k ≤ 65535) : kindOf [by8 k, by8 (k / 256)] = k := by
  simp only [kindOf]
  unfold by8
  rw [UInt8.toNat_ofNat', UInt8.toNat_ofNat']
  omega
theorem badR_ne {r : R} (h : badR r = false) : r.ty ≠ 2057 ∧ r.ty ≠ 10 := by
  simpa [badR] using h
theorem split_inner : ∀ (rs : List R) (acc : List S) (k : Int) (rs0 : List R) (q : Int) (rest : List R), rs.any badR = false →
    split acc (some (k, rs0, q)) (rs.map flatR ++ (eofR :: rest)) = split (acc ++ [⟨k, rs0 ++ rs.map flatR⟩]) none rest
  | [], acc, k, rs0, q, rest, _ => by
    rw [List.map_nil, List.nil_append, split_eof rfl rfl, List.append_nil]
  | r :: rs, acc, k, rs0, q, rest, h => by
    simp only [List.any_cons, Bool.or_eq_false_iff] at h
    obtain ⟨h1, h2⟩ := badR_ne h.1
    rw [List.map_cons, List.cons_append, split_rec (r := flatR r) h1 h2, split_inner rs _ _ _ _ _ h.2]
    simp
/-- What is joined without fault is parted as it was. -/
theorem join_split : ∀ (l : List S) (acc : List S), (∀ s ∈ l, (0 ≤ s.kind ∧ s.kind ≤ 65535) ∧ s.recs.any badR = false) → acc.length + l.length ≤ 9 → split acc none (allR l) = (acc ++ l.map flatS, 0, 0)
  | [], acc, _, _ => by simp [allR, split]
  | s :: t, acc, h, hl => by
    obtain ⟨⟨h1, h2⟩, h3⟩ := h s (by simp)
    simp only [List.length_cons] at hl
    rw [allR, split_bof rfl (by omega) rfl rfl, split_inner _ _ _ _ _ _ h3, join_split t _ (fun x hx => h x (by simp [hx])) (by simp; omega)]
    simp only [bofR, kind_by8 s.kind h1 h2]
    simp [flatS]
theorem allR_small : ∀ (l : List S), (∀ s ∈ l, shortR s.recs) → (∀ r ∈ allR l, r.data.length ≤ 3000 ∧ r.cuts.length ≤ 40) ∧ (allR l).length ≤ l.length * 62
  | [], _ => ⟨by simp [allR], by simp [allR]⟩
  | s :: t, h => by
    obtain ⟨h1, h2⟩ := allR_small t fun x hx => h x (by simp [hx])
    obtain ⟨g1, g2⟩ := h s (by simp)
    refine ⟨fun r hr => ?_, by simp only [allR, List.length_cons, List.length_append, List.length_map]; omega⟩
    simp only [allR, List.mem_cons, List.mem_append, List.mem_map] at hr
    rcases hr with rfl | ⟨x, hx, rfl⟩ | rfl | hr
    · simp [bofR]
    · exact g2 x hx
    · simp [eofR]
    · exact h1 r hr
def pS (s : S) : List OV := [.p (.int .i64 s.kind), .p (.sl 4 (s.recs.map (eR ∘ flatR)))]
end Go.Pv.Cb
