/- What the functions that EnvTakes reaches compute: a part. -/
import Derived.Test.YtfckadoadmdgjaaDoorIns
import Derived.Test.YtfckadoadmdgjaaDoorDel
set_option linter.all false
set_option linter.unusedVariables false
set_option linter.unusedSimpArgs false
namespace Go.Proofs
set_option linter.unusedSimpArgs false
open Go.Shelf Go.RowKit Go.Lib Go.Pv
theorem plain_flat {els : List (List OV)} (h : els.all plainAll = true) : plainAll els.flatten = true := by
  unfold plainAll at h ⊢
  rw [List.all_eq_true] at h ⊢
  intro c hc
  obtain ⟨l, hl, hcl⟩ := List.mem_flatten.1 hc
  exact List.all_eq_true.1 (h l hl) c hcl
theorem plain_whole {cs : List OV} (h : plainAll cs = true) : OV.wholes cs = true := by
  rw [wholes_eq, List.all_eq_true]
  intro c hc
  have := List.all_eq_true.1 h c hc
  cases c <;> simp [OV.plain] at this <;> rfl
theorem row_after {w W : World} {Fz : BSet} {T : Nat → BSet} {xs : List AV} {vs : List Value} {els : List (List OV)} {cs : List Value} {nb noff cap : Nat} (hbx : ∀ Tb, BoxesIs W Fz Tb 0 xs vs []) (hst : Step (fun b => ∃ j, T j b) w W)
    (hFz : ∀ b, Fz b → b < w.heap.size) (hTt : ∀ j b, T j b → b < w.heap.size ∧ ¬ Fz b) (hnb : (∃ j, T j nb) ∨ w.heap.size ≤ nb) (hlt : nb < W.heap.size) (hle : ∀ e ∈ els, e.length = 9) (hcap : els.length ≤ cap) (hrow : RowZ 9 W nb (noff + cap * 9)) (hc : CellsAt W nb noff cs)
    (hL : RepL w Fz els.flatten cs (fun _ => False)) : After w Fz (fun b => ∃ j, T j b) xs vs ([(false, [.own 9 els])], []) (.returned (.slice (some ⟨nb, noff, none⟩) els.length cap)) W := by
  have hnf : ¬ Fz nb := fun q => hnb.elim (fun ⟨j, h⟩ => (hTt j nb h).2 q) fun h => by have := hFz nb q; omega
  have hk : ∀ b, Fz b → W.heap[b]? = w.heap[b]? := fun b hb => hst.keep b (hFz b hb) fun ⟨j, h⟩ => (hTt j b h).2 hb
  refine ⟨_, Fz, fun b => b = nb, fun _ _ => False, rfl, hst, fun _ h => h, fun b h => ⟨.inl h, Nat.lt_of_lt_of_le (hFz b h) hst.size⟩,
    ⟨[_], .inr ⟨rfl, rfl⟩, fun b => b = nb, fun _ => False, ?_, trivial, fun _ h => h, fun _ h => h.elim, fun _ _ h => h⟩, hbx _, fun b h => by subst h; exact ⟨hnb, hlt, hnf⟩, fun _ _ h => h.elim, fun _ _ h => h.elim, fun _ _ _ _ h => h.elim⟩
  exact repO_own.2 (.inr ⟨⟨nb, noff, none⟩, cap, cs, fun _ => False, rfl, rfl, rfl, by decide, hle, hcap, hrow, hc, hL.keep (fun _ q => q) (fun b q => hk b (q.elim id fun q => q.elim)) fun _ q => q, fun _ q => q.elim, fun q => q⟩)
theorem unm_end {w : World} {b n : Nat} (h : RowZ 9 w b n) : ∃ t k, w.shape? b = some (t, k) ∧ n ≤ k ∧ w.frozen? ⟨b, k, none⟩ = false := by
  obtain ⟨⟨cur, e, fz, h1, h2, h3⟩, h4⟩ := h
  rcases h4 with h4 | ⟨cur', e', fz', h5, h6⟩
  · omega
  · rw [h1] at h5
    simp only [Option.some.injEq, Obj.cells.injEq] at h5
    obtain ⟨rfl, rfl, rfl⟩ := h5
    refine ⟨e, cur.size, by simp [World.shape?, h1], h2, ?_⟩
    obtain ⟨lo, hi⟩ := fz
    simp [World.frozen?, h1] at h6 ⊢
    omega
theorem _root_.Go.Pv.Upd.dr {w w' : World} {b off : Nat} {vs : List Value} (h : Upd w w' b off vs) : Upd w w'.drew b off vs := ⟨h.cell, h.row, h.unm⟩
theorem _root_.Go.Pv.Upd.dl {w w' : World} {b off : Nat} {vs : List Value} (h : Upd w.drew w' b off vs) : Upd w w' b off vs := ⟨h.cell, h.row, h.unm⟩
theorem mid_cells {w0 w1 w2 : World} {b off : Nat} {VA N VB : List Value} (hA : CellsAt w0 b off VA) (u1 : Upd w0 w1 b (off + VA.length) N) (u2 : Upd w1 w2 b (off + VA.length + N.length) VB) : CellsAt w2 b off (VA ++ N ++ VB) := by
  intro j v hj
  rw [getElem?_mid] at hj
  have hv := fun {L : List Value} {k : Nat} (h : L[k]? = some v) => (List.getElem?_eq_some_iff.1 h).1
  rw [u2.cell, u1.cell]
  split at hj
  · rw [if_neg (by omega), if_neg (by omega)]; exact hA j v hj
  · split at hj
    · rw [if_neg (by omega), if_pos (by omega), ← hj]; congr 1; omega
    · have := hv hj
      rw [if_pos (by omega), ← hj]; congr 1; omega
theorem mid_cells' {w0 w1 w2 : World} {b off : Nat} {VA N VB : List Value} (hA : CellsAt w0 b off VA) (u1 : Upd w0 w1 b (off + VA.length + N.length) VB) (u2 : Upd w1 w2 b (off + VA.length) N) : CellsAt w2 b off (VA ++ N ++ VB) := by
  intro j v hj
  rw [getElem?_mid] at hj
  have hv := fun {L : List Value} {k : Nat} (h : L[k]? = some v) => (List.getElem?_eq_some_iff.1 h).1
  rw [u2.cell, u1.cell]
  split at hj
  · rw [if_neg (by omega), if_neg (by omega)]; exact hA j v hj
  · split at hj
    · rw [if_pos (by omega), ← hj]; congr 1; omega
    · have := hv hj
      rw [if_neg (by omega), if_pos (by omega), ← hj]; congr 1; omega
theorem CellsAt.pre {w : World} {b off : Nat} {A B : List Value} (h : CellsAt w b off (A ++ B)) : CellsAt w b off A := fun j v hj => h j v (by rw [List.getElem?_append_left (List.getElem?_eq_some_iff.1 hj).1]; exact hj)
theorem alloc_rowZ (w : World) (c : Array Value) (e : TypeId) {n : Nat} (hn : n ≤ c.size) : RowZ 9 (w.alloc (.cells c e)) w.heap.size n := by
  have h : (w.alloc (.cells c e)).heap[w.heap.size]? = some (.cells c e (0, 0)) := heap_alloc_new w _
  exact ⟨⟨c, e, (0, 0), h, hn, fun o _ q => by omega⟩, .inr ⟨c, e, (0, 0), h, fun q => by omega⟩⟩
theorem ins_ok {I : World → Prop} (hfn : FnOk Tryd.prog 62) (i0 : TypeInfo) (hi0 : Tryd.prog.info? 72 = some i0) (hz1 : i0.size = 9) (zz : Value) (hz0 : i0.zero = some zz) (hzb : i0.bytes = 80) (Z : Array Value) (hZ : zz.cells = Z) (hZ9 : Z.size = 9) : ExtIs I Tryd.prog 62 insE := by
  intro xs r hr
  unfold insE at hr
  split at hr
  case h_2 => simp at hr
  rename_i z els i z' new
  split at hr
  case isFalse => simp at hr
  rename_i hc
  obtain ⟨rfl, rfl, hp1, hp2, h0, h1, h2, h3⟩ := hc
  simp only [Option.some.injEq] at hr
  subst hr
  refine ⟨hfn, ?_⟩
  intro O hI vs w Fz T hO hT ha hTd hTt hFz
  obtain ⟨v, u, rfl, hv, hu⟩ : ∃ v u, vs = [v, .int .i64 i, u] ∧ RepO w Fz (.own 9 els) v (T 0) ∧ RepO w Fz (.own 9 new) u (T 2) := by
    obtain ⟨hl, hv⟩ := ha
    match vs, hl, hv with
    | [v, a, b], _, hv =>
      have g0 : ArgOk w Fz (.w (.own 9 els)) v (T 0) := hv 0 _ v rfl rfl
      have g1 : ArgOk w Fz (.w (.p (.int .i64 i))) a (T 1) := hv 1 _ a rfl rfl
      have g2 : ArgOk w Fz (.w (.own 9 new)) b (T 2) := hv 2 _ b rfl rfl
      have e1 : a = .int .i64 i := by cases g1 with | p h => exact repP_int h
      subst e1
      exact ⟨v, b, rfl, g0, g2⟩
  obtain ⟨i, rfl⟩ := Int.eq_ofNat_of_zero_le h0
  simp only [Int.toNat_natCast]
  have hin : i ≤ els.length := by omega
  rcases repO_own.1 hu with ⟨rfl, _⟩ | ⟨⟨vb, voff, vsp⟩, vc, nvs, T2, rfl, nt, ns, nz, nl, ncap, nrow, ncs, nL, nk1, nk2⟩
  · simp at h2
  simp only at ns nt nrow ncs nk2
  subst ns
  have nlen : nvs.length = new.length * 9 := by rw [nL.length, flatten_len nl]
  have nLp : RepL w Fz new.flatten nvs (fun _ => False) := nL.plain (plain_flat hp2)
  have n1c : ∀ v ∈ nvs, v.oneCell' = true := wholes_cells nL (plain_whole (plain_flat hp2))
  obtain ⟨tA, kA, hsa, hkA, hfe⟩ := unm_end nrow
  have hvb : vb < w.heap.size := (hTt 2 vb nt).1
  have hbx : ∀ W Tb, BoxesIs W Fz Tb 0 [.w (.own 9 els), .w (.p (.int .i64 i)), .w (.own 9 new)] [v, .int .i64 i, .slice (some ⟨vb, voff, none⟩) new.length vc] [] := fun W Tb => trivial
  have hlen : (els.take i ++ new ++ els.drop i).length = els.length + new.length := by simp; omega
  have hfl : (els.take i ++ new ++ els.drop i).flatten = (els.take i).flatten ++ new.flatten ++ (els.drop i).flatten := by simp
  have hm : 0 < new.length := h2
  rcases repO_own.1 hv with ⟨rfl, va, rfl⟩ | ⟨⟨b, off, sp⟩, cap, cs, T1, rfl, ht, hs, hz, hl, hcap, hrow, hcs, hL, k1, k2⟩
  · obtain rfl : i = 0 := by simpa using hin
    refine (ins_end_grow (n := 0) (c := 0) (base := va) (cs := []) hm (Nat.le_refl _) (by omega) (by simpa using h3) rfl nlen (fun _ => rfl) (fun a _ j v hj => by simp at hj) ncs n1c i0 hi0 hz1 zz hz0 hzb Z hZ).mono ?_
    rintro e W ⟨rfl, hW⟩
    have hq : (List.take 0 ([] : List (List OV)) ++ new ++ List.drop 0 []) = new := by simp
    rw [hq, Nat.zero_add]
    have hG := grownCap_ge w new.length 0 72
    have hcells : CellsAt W w.heap.size 0 nvs := by
      rw [hW]
      refine CellsAt.pre (B := (Builtin.zeroCells Z (grownCap w (0 + new.length) 0 72 - (0 + new.length))).toList) ?_
      have := alloc_cells w.drew (([] ++ nvs).toArray ++ Builtin.zeroCells Z (grownCap w (0 + new.length) 0 72 - (0 + new.length))) 72 (0, 0)
      simpa using this
    refine row_after (nb := w.heap.size) (noff := 0) (cs := nvs) (hbx W) ?_ hFz hTt (.inr (Nat.le_refl _)) ?_ nl hG ?_ hcells nLp
    · rw [hW]; exact (drew_step w _).trans (alloc_step _ _ _)
    · rw [hW]; simp
    · rw [hW]
      refine alloc_rowZ w.drew _ 72 ?_
      simp [Builtin.zeroCells, hZ9, nlen]
      omega
  · simp only at hs ht hrow hcs k2
    subst hs
    have hcl : cs.length = els.length * 9 := by rw [hL.length, flatten_len hl]
    have hLp : RepL w Fz els.flatten cs (fun _ => False) := hL.plain (plain_flat hp1)
    have h1c : ∀ v ∈ cs, v.oneCell' = true := wholes_cells hL (plain_whole (plain_flat hp1))
    have hsp : els.flatten = (els.take i).flatten ++ (els.drop i).flatten := by rw [← List.flatten_append, List.take_append_drop]
    have hLp' := hLp
    rw [hsp] at hLp'
    obtain ⟨VA, VB, U1, U2, e1, hA, hB, m1, m2, m3⟩ := hLp'.split
    have lA := hA.length
    rw [flatten_len (z := 9) (fun e he => hl e (List.mem_of_mem_take he)), List.length_take, Nat.min_eq_left hin] at lA
    have lB : VB.length = (els.length - i) * 9 := by
      have := hcl
      rw [e1, List.length_append, lA] at this
      omega
    have eA : cs.take (i * 9) = VA := by rw [e1, List.take_left' lA]
    have eB : cs.drop (i * 9) = VB := by rw [e1, List.drop_left' lA]
    have hR : RepL w Fz (els.take i ++ new ++ els.drop i).flatten (VA ++ nvs ++ VB) (fun _ => False) := by
      rw [hfl]
      exact (hA.append nLp m1 (fun _ q => q) fun _ _ q => q).append hB (fun _ q => q) m2 fun _ q => q.elim
    have hle : ∀ e ∈ els.take i ++ new ++ els.drop i, e.length = 9 := by
      intro e he
      rcases List.mem_append.1 he with he | he
      · rcases List.mem_append.1 he with he | he
        · exact hl e (List.mem_of_mem_take he)
        · exact nl e he
      · exact hl e (List.mem_of_mem_drop he)
    have hcA : CellsAt w b off VA := CellsAt.pre (B := VB) (by rw [← e1]; exact hcs)
    have hne : vb ≠ b := fun e => by subst e; exact hTd 0 2 vb (by decide) ht nt
    by_cases hroom : els.length + new.length ≤ cap
    · have hcell : ∀ o, o < off + cap * 9 → (w.cell? ⟨b, o, none⟩).isSome = true := fun o ho => by
        obtain ⟨u, hu⟩ := row_cell hrow.1 ho
        rw [hu]; rfl
      have hfzn : ∀ o, o < off + cap * 9 → w.frozen? ⟨b, o, none⟩ = false := fun o ho => row_frozen hrow.1 ho
      have hrd : Row w.drew b (off + cap * 9) := hrow.1
      by_cases hie : i = els.length
      · subst hie
        have hVB : VB = [] := List.length_eq_zero_iff.1 (by rw [lB]; omega)
        refine (ins_end_room (c := cap) hm hroom nlen (fun j hj => hcell _ (by omega)) (fun j hj => hfzn _ (by omega)) ncs n1c i0 hi0 hz1).mono ?_
        rintro e W ⟨rfl, hW⟩
        obtain ⟨y1, y2, y3⟩ := setCells_upd nvs (off + els.length * 9) w (hrow.1.le (by rw [nlen]; omega))
        rw [← hW] at y1 y2 y3
        rw [← hlen]
        refine row_after (nb := b) (noff := off) (cs := VA ++ nvs ++ VB) (hbx W) (y2.mono fun b' e => ⟨0, by rw [e]; exact ht⟩) hFz hTt (.inl ⟨0, ht⟩) (by rw [y3]; exact (hTt 0 b ht).1) hle (by rw [hlen]; exact hroom) (y1.rowZ hrow) ?_ hR
        rw [← lA] at y1
        exact mid_cells hcA y1 (by rw [hVB]; exact .same fun j v hj => by simp at hj)
      · have hilt : i < els.length := by omega
        obtain ⟨tB, kB, hsb, hkB, _⟩ := unm_end hrow
        have hfa : w.frozen? ⟨vb, voff, none⟩ = false := row_frozen nrow.1 (by omega)
        refine (ins_shift (c := cap) (vc := vc) hilt hm hroom h3 hne hcl nlen hcs (fun j hj => hcell _ (by omega)) (fun j hj => hfzn _ (by omega)) ncs h1c n1c tA tB kA kB hsa hsb (by omega) hfa hfe i0 hi0 hz1).mono ?_
        rintro e W ⟨rfl, hW⟩
        rw [eB] at hW
        obtain ⟨u1, u2, u3⟩ := setCells_upd VB (off + (i + new.length) * 9) w.drew (hrd.le (by rw [lB]; omega))
        have hrow1 := u1.row _ hrd
        obtain ⟨y1, y2, y3⟩ := setCells_upd nvs (off + i * 9) _ (hrow1.le (by rw [nlen]; omega))
        have hst : Step (· = b) w _ := (drew_step w _).trans (u2.trans y2)
        have hsz := y3.trans u3
        have hrz := y1.rowZ (u1.dl.rowZ hrow)
        rw [← hW] at hst hsz hrz y1
        rw [← hlen]
        refine row_after (nb := b) (noff := off) (cs := VA ++ nvs ++ VB) (hbx W) (hst.mono fun b' e => ⟨0, by rw [e]; exact ht⟩) hFz hTt (.inl ⟨0, ht⟩) (by rw [hsz]; exact (hTt 0 b ht).1) hle (by rw [hlen]; exact hroom) hrz ?_ hR
        refine mid_cells' hcA (w1 := w.drew.setCells b (off + (i + new.length) * 9) VB) ?_ ?_
        · rw [lA, nlen, show off + i * 9 + new.length * 9 = off + (i + new.length) * 9 by omega]; exact u1.dl
        · rw [lA]; exact y1
    · have hroom' : cap < els.length + new.length := by omega
      have hG := grownCap_ge w (els.length + new.length) cap 72
      by_cases hie : i = els.length
      · subst hie
        have hVB : VB = [] := List.length_eq_zero_iff.1 (by rw [lB]; omega)
        have hVA : cs = VA := by rw [e1, hVB, List.append_nil]
        refine (ins_end_grow (base := some ⟨b, off, none⟩) (c := cap) (cs := cs) hm hcap hroom' h3 hcl nlen (fun h => by simp at h) (fun a h j v hj => by
          simp only [Option.some.injEq] at h
          subst h
          rw [Addr.add_lit]
          exact hcs j v hj) ncs n1c i0 hi0 hz1 zz hz0 hzb Z hZ).mono ?_
        rintro e W ⟨rfl, hW⟩
        rw [← hlen]
        refine row_after (nb := w.heap.size) (noff := 0) (cs := VA ++ nvs ++ VB) (hbx W) ?_ hFz hTt (.inr (Nat.le_refl _)) ?_ hle (by rw [hlen]; exact hG) ?_ ?_ hR
        · rw [hW]; exact (drew_step w _).trans (alloc_step _ _ _)
        · rw [hW]; simp
        · rw [hW]
          refine alloc_rowZ w.drew _ 72 ?_
          simp [Builtin.zeroCells, hZ9, nlen, hcl, hlen]
          omega
        · rw [hW, hVB, List.append_nil, ← hVA]
          refine CellsAt.pre (B := (Builtin.zeroCells Z (grownCap w (els.length + new.length) cap 72 - (els.length + new.length))).toList) ?_
          have := alloc_cells w.drew ((cs ++ nvs).toArray ++ Builtin.zeroCells Z (grownCap w (els.length + new.length) cap 72 - (els.length + new.length))) 72 (0, 0)
          simpa using this
      · have hilt : i < els.length := by omega
        refine (ins_grow (c := cap) (vc := vc) hilt hm hcap hroom' h3 hcl nlen hcs ncs h1c n1c i0 hi0 hz1 zz hz0 hzb Z hZ hZ9).mono ?_
        rintro e W ⟨rfl, hW⟩
        rw [eB, eA] at hW
        obtain ⟨G, hGe⟩ : ∃ G, G = grownCap w (els.length + new.length) cap 72 := ⟨_, rfl⟩
        rw [← hGe] at hW hG ⊢
        rw [← hlen]
        obtain ⟨R, hRe⟩ : ∃ R, R = VA.toArray ++ Builtin.zeroCells Z (els.length + new.length - i) ++ Builtin.zeroCells Z (G - (els.length + new.length)) := ⟨_, rfl⟩
        rw [← hRe] at hW
        have hRs : R.size = G * 9 := by
          rw [hRe]
          simp [Builtin.zeroCells, hZ9, lA]
          omega
        have a1 : RowZ 9 (w.alloc (.cells R 72)) w.heap.size (0 + G * 9) := alloc_rowZ w R 72 (by omega)
        have a2 : CellsAt (w.alloc (.cells R 72)) w.heap.size 0 VA := by
          refine CellsAt.pre (B := (Builtin.zeroCells Z (els.length + new.length - i)).toList ++ (Builtin.zeroCells Z (G - (els.length + new.length))).toList) ?_
          have := alloc_cells w R 72 (0, 0)
          rw [hRe] at this ⊢
          simpa using this
        have a3 : Step (fun b => ∃ j, T j b) w (w.alloc (.cells R 72)) := alloc_step _ _ _
        have a4 : w.heap.size < (w.alloc (.cells R 72)).heap.size := by simp
        obtain ⟨w0, hw0⟩ : ∃ w0, w0 = w.alloc (.cells R 72) := ⟨_, rfl⟩
        rw [← hw0] at hW a1 a2 a3 a4
        have b1 : Row w0.drew w.heap.size (0 + G * 9) := a1.1
        obtain ⟨u1, u2, u3⟩ := setCells_upd nvs (i * 9) w0.drew (b1.le (by rw [nlen]; omega))
        have b2 : Row (w0.drew.setCells w.heap.size (i * 9) nvs).drew w.heap.size (0 + G * 9) := u1.row _ b1
        obtain ⟨y1, y2, y3⟩ := setCells_upd VB ((i + new.length) * 9) _ (b2.le (by rw [lB]; omega))
        have hst : Step (· = w.heap.size) w0 _ := (drew_step w0 _).trans (u2.trans ((drew_step _ _).trans y2))
        have hsz : _ = w0.heap.size := y3.trans u3
        have hrz := y1.dl.rowZ (u1.dl.rowZ a1)
        rw [← hW] at hst hsz hrz y1
        refine row_after (nb := w.heap.size) (noff := 0) (cs := VA ++ nvs ++ VB) (hbx W) ?_ hFz hTt (.inr (Nat.le_refl _)) (by rw [hsz]; exact a4) hle (by rw [hlen]; exact hG) hrz ?_ hR
        · refine ⟨hst.os.trans a3.os, hst.tape.trans a3.tape, hst.output.trans a3.output, Nat.le_trans a3.size hst.size, fun b' hb' hnm => ?_⟩
          exact (hst.keep b' (Nat.lt_of_lt_of_le hb' a3.size) (by omega)).trans (a3.keep b' hb' hnm)
        · refine mid_cells a2 (w1 := w0.drew.setCells w.heap.size (i * 9) nvs) ?_ ?_
          · rw [lA, Nat.zero_add]; exact u1.dl
          · rw [lA, nlen, show 0 + i * 9 + new.length * 9 = (i + new.length) * 9 by omega]; exact y1.dl
theorem del_ok' {I : World → Prop} (hfn : FnOk Tryd.prog 61) (h : (Tryd.prog.info? 72).map (·.size) = some 9) : ExtIs I Tryd.prog 61 delE := by
  obtain ⟨i0, hi, he⟩ : ∃ i0, Tryd.prog.info? 72 = some i0 ∧ i0.size = 9 := by
    revert h
    generalize Tryd.prog.info? 72 = o
    intro h
    cases o with
    | none => simp at h
    | some i0 => exact ⟨i0, rfl, by simpa using h⟩
  exact del_ok hfn i0 hi he
theorem ins_ok' {I : World → Prop} (hfn : FnOk Tryd.prog 62) (h : (Tryd.prog.info? 72).map (fun i => (i.size, i.bytes, i.zero.map fun z => z.cells.size)) = some (9, 80, some 9)) : ExtIs I Tryd.prog 62 insE := by
  obtain ⟨i0, zz, hi, h1, h2, h3, h4⟩ : ∃ i0 zz, Tryd.prog.info? 72 = some i0 ∧ i0.size = 9 ∧ i0.bytes = 80 ∧ i0.zero = some zz ∧ zz.cells.size = 9 := by
    revert h
    generalize Tryd.prog.info? 72 = o
    intro h
    cases o with
    | none => simp at h
    | some i0 =>
      cases hz : i0.zero with
      | none => rw [Option.map_some, hz] at h; simp at h
      | some zz => rw [Option.map_some, hz] at h; simp at h; exact ⟨i0, zz, rfl, h.1, h.2.1, hz, h.2.2⟩
  exact ins_ok hfn i0 hi h1 zz h3 h2 _ rfl h4
end Go.Proofs
