/- What the functions that EnvTakes reaches compute: a part. -/
import Derived.Shelf.RegionOpenPlain
import Derived.WalkKit
import Derived.Deep.LoopGhost
import Derived.Deep.RegionLaw
import Derived.Lib.Walk
import Derived.Lib.SliceRun
import Derived.Lib.SlicesDelete
import Derived.Test.YtfckadoadmdgjaaDoorPvd
import Derived.Test.YtfckadoadmdgjaaDoorProg
set_option linter.all false
namespace Go.Proofs
set_option linter.unusedSimpArgs false
open Go.RowKit Go.Shelf Go.Pv Go.Lib
attribute [local go_sem] Oper.semAt_some
theorem run_clear_cells {P : Program} (w : World) (t e ty : TypeId) (z : Value) (ht : P.underlying t = some (.slice e)) (hv : ∀ w, (zeroValue e).run P w = .ok z w) (h1 : ∀ v ∈ z.cells.toList, v.oneCell' = true) (b o n c : Nat) (hn : 0 < n)
    (hc : ∀ j, j < n * z.cells.size → (w.cell? ⟨b, o + j, none⟩).isSome = true) (hf : ∀ j, j < n * z.cells.size → w.frozen? ⟨b, o + j, none⟩ = false) :
    (Builtin.clear_ #[t] ty #[.slice (some ⟨b, o, none⟩) n c]).run P w = .ok (.tuple #[]) (w.setCells b o (Builtin.zeroCells z.cells n).toList) := by
  have hl : (Builtin.zeroCells z.cells n).toList.length = n * z.cells.size := by simp [Builtin.zeroCells]
  have hst := run_storeCells_cells (P := P) b o (Builtin.zeroCells z.cells n).toList 0 w (by rw [hl]; simpa using hc) (by rw [hl]; simpa using hf) (by
    intro v hv'
    simp only [Builtin.zeroCells, Array.toList_map, List.mem_map] at hv'
    obtain ⟨k, hk, rfl⟩ := hv'
    have : 0 < z.cells.size := by
      rcases Nat.eq_zero_or_pos z.cells.size with h | h
      · rw [h] at hk; simp at hk
      · exact h
    rw [getElem!_pos z.cells _ (Nat.mod_lt _ this)]
    exact h1 _ (by simp))
  simp only [Nat.add_zero] at hst
  obtain ⟨m, rfl⟩ : ∃ m, n = m + 1 := ⟨n - 1, by omega⟩
  simp [Builtin.clear_, run_underlying ht, hv, hst]
theorem setCells_upd {b : Nat} : ∀ (vs : List Value) (off : Nat) (w : World), Row w b (off + vs.length) → Upd w (w.setCells b off vs) b off vs ∧ Step (· = b) w (w.setCells b off vs) ∧ (w.setCells b off vs).heap.size = w.heap.size
  | [], off, w, _ => ⟨.same (fun j v hj => by simp at hj), .refl _ _, rfl⟩
  | v :: vs, off, w, hr => by
    obtain ⟨u, hu⟩ := row_cell (o := off) hr (by simp)
    have hup := setCell_upd (v := v) hu
    obtain ⟨e2, e3, e4⟩ := setCells_upd vs (off + 1) (w.setCell ⟨b, off, none⟩ v) (hup.row _ (by simpa [Nat.add_assoc, Nat.add_comm 1] using hr))
    refine ⟨hup.cons e2, (Step.trans (w1 := w.setCell ⟨b, off, none⟩ v) ⟨rfl, rfl, rfl, by simp [World.setCell], fun b' hb hm => heap_setCell_other w _ b' v hm⟩ e3), ?_⟩
    show ((w.setCell ⟨b, off, none⟩ v).setCells b (off + 1) vs).heap.size = _
    rw [e4]; simp [World.setCell]
theorem zs_one (k : Nat) : (#[Value.int IntKind.i64 0, Value.int IntKind.i64 0, Value.int IntKind.i64 0, Value.int IntKind.i64 0, Value.int IntKind.i64 0, Value.int IntKind.i64 0, Value.string { data := #[] }, Value.bool false, Value.int IntKind.i64 0] : Array Value)[k % 9]!.oneCell' = true := by
  have h : k % 9 < 9 := Nat.mod_lt _ (by decide)
  revert h
  generalize k % 9 = m
  intro h
  match m, h with
  | 0, _ | 1, _ | 2, _ | 3, _ | 4, _ | 5, _ | 6, _ | 7, _ | 8, _ => rfl
set_option maxHeartbeats 4000000 in
set_option maxRecDepth 1000000 in
theorem del_calls {w : World} {b off cap len i j : Nat} {vs : List Value} (hij : i < j) (hj : j ≤ len) (hcap : len ≤ cap) (hvs : vs.length = len * 9) (hc : CellsAt w b off vs) (h1 : ∀ v ∈ vs, v.oneCell' = true) (hrow : Row w b (off + cap * 9))
    (i0 : TypeInfo) (hi0 : Tryd.prog.info? 72 = some i0) (hz1 : i0.size = 9) :
    Calls Tryd.prog 61 #[.slice (some ⟨b, off, none⟩) len cap, .int .i64 i, .int .i64 j] w fun e w' => e = .returned (.slice (some ⟨b, off, none⟩) (len - (j - i)) cap) ∧ ∃ zs : List Value, zs.length = (j - i) * 9 ∧ (∀ v ∈ zs, v.oneCell' = true) ∧ w' = (w.drew.setCells b (off + i * 9) (vs.drop (j * 9))).setCells b (off + (i + (len - j)) * 9) zs := by
  have mixed : Tryd.prog.follows .mixedOrders = true := by kernel_rfl
  have t58 := Tryd.underlying58; have z72 := Tryd.sizeOf72; have v72 := Tryd.zeroValue72
  obtain ⟨news, hnews⟩ : ∃ news, news = vs.drop (j * 9) := ⟨_, rfl⟩
  have hlen : news.length = (len - j) * 9 := by rw [hnews, List.length_drop, hvs]; omega
  obtain ⟨A, hA, hsrc⟩ : ∃ A : Addr, (if cap = j then some (⟨b, off, none⟩ : Addr) else some ⟨b, off + j * 9, none⟩) = some A ∧ Hid (∀ t u, news[t]? = some u → w.drew.cell? (A.add t) = some u) := by
    by_cases h : cap = j
    · refine ⟨⟨b, off, none⟩, by simp [h], fun t u hu => ?_⟩
      have h0 : news.length = 0 := by rw [hlen]; omega
      rw [List.length_eq_zero_iff.1 h0] at hu
      simp at hu
    · refine ⟨⟨b, off + j * 9, none⟩, by simp [h], fun t u hu => ?_⟩
      rw [Addr.add_lit, Nat.add_assoc]
      rw [hnews, List.getElem?_drop] at hu
      exact hc _ _ hu
  have s1 : Hid (news.length = (len - j) * 9) := hlen
  have s2 : Hid (∀ u ∈ news, u.oneCell' = true) := fun u hu => h1 u (by rw [hnews] at hu; exact List.mem_of_mem_drop hu)
  have s3 : Hid (∀ t, t < news.length → (w.drew.cell? ⟨b, off + i * 9 + t, none⟩).isSome = true ∧ w.drew.frozen? ⟨b, off + i * 9 + t, none⟩ = false) := by
    intro t ht
    rw [hlen] at ht
    obtain ⟨u, hu⟩ := row_cell (o := off + i * 9 + t) hrow (by omega)
    exact ⟨by show (w.cell? _).isSome = true; rw [hu]; rfl, row_frozen (o := off + i * 9 + t) hrow (by omega)⟩
  obtain ⟨W1, hW1⟩ : ∃ W1, W1 = w.drew.setCells b (off + i * 9) news := ⟨_, rfl⟩
  have hic : i ≤ cap := by omega
  have hjc : j ≤ cap := by omega
  have hW : Hid (W1 = w.drew.setCells b (off + i * 9) news) := hW1
  have hr1 : Row W1 b (off + cap * 9) := by
    rw [hW1]
    have hrow' : Row w.drew b (off + cap * 9) := hrow
    exact (setCells_upd news (off + i * 9) w.drew (hrow'.le (by rw [hlen]; omega))).1.row _ hrow'
  have hcl : ∀ ty, (Builtin.clear_ #[58] ty #[.slice (some ⟨b, off + (i + (len - j)) * 9, none⟩) (len - (i + (len - j))) (cap - (i + (len - j)))]).run Tryd.prog W1 = .ok (.tuple #[]) (W1.setCells b (off + (i + (len - j)) * 9) (Builtin.zeroCells _ (len - (i + (len - j)))).toList) := fun ty =>
    run_clear_cells W1 58 72 ty _ t58 v72 (by simp [Value.oneCell', Value.cells]) b _ _ _ (by omega) (fun t ht => by
      simp [Value.cells] at ht
      obtain ⟨u, hu⟩ := row_cell (o := off + (i + (len - j)) * 9 + t) hr1 (by omega)
      rw [hu]; rfl) (fun t ht => by
      simp [Value.cells] at ht
      exact row_frozen hr1 (by omega))
  clear hrow hc h1 hvs hr1 hW1
  go_enter Tryd.func61, Tryd.ntmps61
  go_wp2_with fail
  go_region_law_o (refine step_append_room rfl (.tmp 22) (.tmp 25) 58 rfl 72 i0 9 t58 hi0 hz1 b off i cap (by simp [Act.eval, Act.put]) A (len - j) (cap - j) news (by simp [Act.eval, Act.put]) s1.out hsrc.out s2.out (by omega) s3.out ?_; rw [← hW.out])
  go_wp2
  go_ret
  refine ⟨by rw [show len - (j - i) = i + (len - j) by omega]; rfl, (Builtin.zeroCells #[.int .i64 0, .int .i64 0, .int .i64 0, .int .i64 0, .int .i64 0, .int .i64 0, .string ⟨#[]⟩, .bool false, .int .i64 0] (len - (i + (len - j)))).toList, ?_, ?_, by rw [← hnews, ← hW.out]⟩
  · rw [show j - i = len - (i + (len - j)) by omega]; simp [Builtin.zeroCells, Value.cells]
  · intro v hv
    simp only [Builtin.zeroCells, Array.toList_map, List.mem_map, Value.cells] at hv
    obtain ⟨k, hk, rfl⟩ := hv
    exact zs_one k
theorem repP_int {w : World} {Fz : BSet} {k : IntKind} {n : Int} {v : Value} (h : RepP w Fz (.int k n) v) : v = .int k n := by cases h; rfl
theorem del_ok {I : World → Prop} (hfn : FnOk Tryd.prog 61) (i0 : TypeInfo) (hi0 : Tryd.prog.info? 72 = some i0) (hz1 : i0.size = 9) : ExtIs I Tryd.prog 61 delE := by
  intro xs r hr
  unfold delE at hr
  split at hr
  case h_2 => simp at hr
  rename_i z els i j
  split at hr
  case isFalse => simp at hr
  rename_i hc
  obtain ⟨rfl, hwh, h0, h1, h2⟩ := hc
  simp only [Option.some.injEq] at hr
  subst hr
  refine ⟨hfn, ?_⟩
  intro O hI vs w Fz T hO hT ha hTd hTt hFz
  obtain ⟨v, rfl, hv⟩ : ∃ v, vs = [v, .int .i64 i, .int .i64 j] ∧ RepO w Fz (.own 9 els) v (T 0) := by
    obtain ⟨hl, hv⟩ := ha
    match vs, hl, hv with
    | [v, a, b], _, hv =>
      have g0 : ArgOk w Fz (.w (.own 9 els)) v (T 0) := hv 0 _ v rfl rfl
      have g1 : ArgOk w Fz (.w (.p (.int .i64 i))) a (T 1) := hv 1 _ a rfl rfl
      have g2 : ArgOk w Fz (.w (.p (.int .i64 j))) b (T 2) := hv 2 _ b rfl rfl
      have e1 : a = .int .i64 i := by cases g1 with | p h => exact repP_int h
      have e2 : b = .int .i64 j := by cases g2 with | p h => exact repP_int h
      subst e1; subst e2
      exact ⟨v, rfl, g0⟩
  obtain ⟨i, rfl⟩ := Int.eq_ofNat_of_zero_le h0
  obtain ⟨j, rfl⟩ := Int.eq_ofNat_of_zero_le (show 0 ≤ j by omega)
  simp only [Int.toNat_natCast]
  have hij : i < j := by omega
  have hj : j ≤ els.length := by omega
  rcases repO_own.1 hv with ⟨rfl, _⟩ | ⟨a, cap, cs, T1, rfl, ht, hs, hz, hl, hcap, hrow, hcs, hL, k1, k2⟩
  · simp at hj; omega
  obtain ⟨b, off, sp⟩ := a
  simp only at hs ht hrow hcs k2
  subst hs
  have hcl : cs.length = els.length * 9 := by rw [hL.length, flatten_len hl]
  refine (del_calls hij hj hcap hcl hcs (wholes_cells hL (by
    rw [wholess_eq] at hwh
    rw [wholes_eq, List.all_flatten]; exact hwh)) hrow.1 i0 hi0 hz1).mono ?_
  rintro e W2 ⟨rfl, zs, g1, g2, hW2⟩
  have hdl : (cs.drop (j * 9)).length = (els.length - j) * 9 := by rw [List.length_drop, hcl]; omega
  have hrow' : Row w.drew b (off + cap * 9) := hrow.1
  obtain ⟨u1, u2, u3⟩ := setCells_upd (cs.drop (j * 9)) (off + i * 9) w.drew (hrow'.le (by rw [hdl]; omega))
  have hrow1 := u1.row _ hrow'
  obtain ⟨y1, y2, y3⟩ := setCells_upd zs (off + (i + (els.length - j)) * 9) _ (hrow1.le (by rw [g1]; omega))
  have hrow2 : RowZ 9 _ b (off + cap * 9) := y1.rowZ (u1.rowZ (show RowZ 9 w.drew b (off + cap * 9) from hrow))
  have hst : Step (· = b) w ((w.drew.setCells b (off + i * 9) (cs.drop (j * 9))).setCells b (off + (i + (els.length - j)) * 9) zs) := (drew_step w _).trans (u2.trans y2)
  rw [← hW2] at hst hrow2 y1
  clear y2 y3 hW2
  have hkeep : ∀ b', Fz b' ∨ T1 b' → W2.heap[b']? = w.heap[b']? := by
    intro b' hb'
    refine hst.keep b' ?_ (fun e => ?_)
    · exact hb'.elim (hFz b') (fun q => (hTt 0 b' (k1 b' q)).1)
    · subst e
      exact hb'.elim (fun q => (hTt 0 _ ht).2 q) k2
  have hsp : els.flatten = (els.take i).flatten ++ (((els.take j).drop i).flatten ++ (els.drop j).flatten) := by
    have q1 : els.take i ++ (els.take j).drop i = els.take j := by
      have := List.take_append_drop i (els.take j)
      rwa [List.take_take, Nat.min_eq_left (by omega)] at this
    have q2 : (els.take j).flatten = (els.take i).flatten ++ ((els.take j).drop i).flatten := by rw [← List.flatten_append, q1]
    have q3 : els.flatten = (els.take j).flatten ++ (els.drop j).flatten := by rw [← List.flatten_append, List.take_append_drop]
    rw [q3, q2, List.append_assoc]
  have hL' := hL
  rw [hsp] at hL'
  obtain ⟨VA, V2, U1, U2, e1, hA, hL2, m1, m2, m3⟩ := hL'.split
  obtain ⟨VC, VB, U3, U4, e2, hC, hB, n1, n2, n3⟩ := hL2.split
  have lA := hA.length
  rw [flatten_len (z := 9) (fun e he => hl e (List.mem_of_mem_take he)), List.length_take, Nat.min_eq_left (by omega)] at lA
  have lC := hC.length
  rw [flatten_len (z := 9) (fun e he => hl e (List.mem_of_mem_take (List.mem_of_mem_drop he))), List.length_drop, List.length_take, Nat.min_eq_left (by omega)] at lC
  have eB : cs.drop (j * 9) = VB := by
    rw [e1, e2, ← List.append_assoc, List.drop_left' (by simp [lA, lC]; omega)]
  have lB : VB.length = (els.length - j) * 9 := by rw [← eB]; exact hdl
  have hrep : RepO W2 Fz (.own 9 (els.take i ++ els.drop j)) (.slice (some ⟨b, off, none⟩) (els.length - (j - i)) cap) (T 0) := by
    have hlen : (els.take i ++ els.drop j).length = els.length - (j - i) := by simp; omega
    rw [← hlen]
    refine repO_own.2 (.inr ⟨⟨b, off, none⟩, cap, VA ++ VB, T1, rfl, ht, rfl, hz, ?_, by rw [hlen]; omega, hrow2, ?_, ?_, k1, k2⟩)
    · intro e he
      exact (List.mem_append.1 he).elim (fun h => hl e (List.mem_of_mem_take h)) (fun h => hl e (List.mem_of_mem_drop h))
    · intro k v hk
      show W2.cell? ⟨b, off + k, none⟩ = some v
      rw [y1.cell, if_neg (by have := (List.getElem?_eq_some_iff.1 hk).1; simp only [List.length_append, lA, lB] at this; omega), u1.cell, hdl]
      rw [List.getElem?_append] at hk
      split at hk
      · rename_i hlt
        rw [if_neg (by omega)]
        refine hcs k v ?_
        rw [e1, List.getElem?_append_left hlt]; exact hk
      · rename_i hge
        have hlt := (List.getElem?_eq_some_iff.1 hk).1
        rw [if_pos (by omega), ← hk, eB, show off + k - (off + i * 9) = k - VA.length by omega]
    · rw [List.flatten_append]
      exact (hA.append (hB.mono n2) m1 m2 m3).keep (fun _ q => q) hkeep (fun _ q => q)
  exact ⟨⟨_, Fz, T 0, fun _ _ => False, rfl, hst.mono (fun b' e => by subst e; exact ⟨0, ht⟩), fun _ h => h, fun b' h => ⟨.inl h, Nat.lt_of_lt_of_le (hFz b' h) hst.size⟩,
    ⟨[_], .inr ⟨rfl, rfl⟩, T 0, fun _ => False, hrep, trivial, fun _ h => h, fun _ h => h.elim, fun _ _ h => h.elim⟩, trivial, fun b' h => ⟨.inl ⟨0, h⟩, Nat.lt_of_lt_of_le (hTt 0 b' h).1 hst.size, (hTt 0 b' h).2⟩, fun _ _ h => h.elim, fun _ _ h => h.elim, fun _ _ _ _ h => h.elim⟩⟩
end Go.Proofs
