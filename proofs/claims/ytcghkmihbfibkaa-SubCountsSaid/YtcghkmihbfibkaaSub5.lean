/- What the functions that SubCounts reaches compute: a part. -/
import Derived.Test.YtcghkmihbfibkaaSub4
set_option linter.all false
namespace Go.Pv.Cb
open Go.Pv
set_option maxRecDepth 10000
set_option maxHeartbeats 4000000
set_option linter.unusedSimpArgs false
def pR (r : R) : List OV := [.p (.int .i64 r.ty), .p (.sl 1 (ofBytes r.data)), .p (.sl 1 (eI r.cuts)), .p (.int .i64 0)]
/-- As join, where records' rows are not copied. -/
def jx (b : List (List OV)) : List S → List (List OV) × Int
  | [] => (b, 0)
  | s :: t => if s.kind < 0 ∨ 65535 < s.kind then ([], 1) else if s.recs.any badR then ([], 6) else jx (b ++ (oR (bofR s.kind) :: s.recs.map pR ++ [oR eofR])) t
def jxR (l : List S) : List (List OV) × Int := if 9 < l.length then ([], 4) else jx [] l
theorem frzss_app : ∀ (a b : List (List OV)), OV.frzss (a ++ b) = OV.frzss a ++ OV.frzss b
  | [], b => rfl
  | x :: a, b => by simp only [List.cons_append, OV.frzss, frzss_app a b]
theorem pRs_frz : ∀ (l : List R), OV.frzss (l.map pR) = (l.map flatR).map eR
  | [] => rfl
  | r :: l => by simp only [List.map_cons, OV.frzss, pRs_frz l]; rfl
theorem pRs_whole : ∀ (l : List R), OV.wholess (l.map pR) = true
  | [] => rfl
  | r :: l => by simp only [List.map_cons, OV.wholess, pRs_whole l]; rfl
theorem wholess_app2 : ∀ (a b : List (List OV)), OV.wholess (a ++ b) = (OV.wholess a && OV.wholess b)
  | [], b => by simp [OV.wholess]
  | x :: a, b => by simp only [List.cons_append, OV.wholess, wholess_app2 a b, Bool.and_assoc]
theorem jx_join : ∀ (l : List S) (b : List (List OV)) (b' : List R), OV.frzss b = b'.map eR → OV.wholess b = true → OV.frzss (jx b l).1 = (join b' l).1.map eR ∧ (jx b l).2 = (join b' l).2 ∧ OV.wholess (jx b l).1 = true
  | [], b, b', h1, h2 => ⟨h1, rfl, h2⟩
  | s :: t, b, b', h1, h2 => by
    rw [jx, join]
    split
    · exact ⟨rfl, rfl, rfl⟩
    · split
      · exact ⟨rfl, rfl, rfl⟩
      · refine jx_join t _ _ ?_ ?_
        · rw [frzss_app, List.cons_append, OV.frzss, frzss_app, pRs_frz, h1, oR_frz]
          simp only [OV.frzss, oR_frz, List.map_append, List.map_cons, List.map_nil, List.cons_append]
        · rw [wholess_app2, h2, List.cons_append, OV.wholess, wholess_app2, pRs_whole]; rfl
theorem jxR_joinR (l : List S) : OV.frzss (jxR l).1 = (joinR l).1.map eR ∧ (jxR l).2 = (joinR l).2 ∧ OV.wholess (jxR l).1 = true := by
  unfold jxR joinR
  split
  · exact ⟨rfl, rfl, rfl⟩
  · exact jx_join l [] [] rfl rfl
theorem oS_frz (s : S) : OV.frzs (oS s) = eS s := by simp only [oS, eS, OV.frzs, OV.frz, frzss_plains]
theorem oSs_frz : ∀ (l : List S), OV.frzss (l.map oS) = l.map eS
  | [] => rfl
  | r :: l => by simp only [List.map_cons, OV.frzss, oS_frz, oSs_frz l]
theorem oSs_whole : ∀ (l : List S), OV.wholess (l.map oS) = true
  | [] => rfl
  | r :: l => by simp only [List.map_cons, OV.wholess, oSs_whole l, Bool.and_true, oS, OV.wholes, OV.whole, wholess_plains, Bool.and_self]
end Go.Pv.Cb
