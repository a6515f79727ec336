/- What the functions that EnvTakes reaches compute: a part. -/
import Derived.Shelf.Spec.SlicesInsert
import Derived.Lib.AppendZerosOnto
import Derived.Laws.NewBlocks
import Derived.Deep.LoopGhost
import Derived.Deep.RegionLaw
import Derived.Test.YtfckadoadmdgjaaDoorPvd
import Derived.Test.YtfckadoadmdgjaaDoorProg
set_option linter.all false
set_option linter.unusedVariables false
set_option linter.unusedSimpArgs false
namespace Go.Proofs
set_option linter.unusedSimpArgs false
open Go.Shelf Go.RowKit Go.Lib Go.Pv
attribute [local go_sem] Oper.semAt_some
theorem run_copy_z {P : Program} (w : World) (dT sT ty elem : TypeId) (z : Nat) (b o dLen dCap : Nat) (a : Addr) (sLen sCap : Nat) (cs : List Value)
    (hu : P.underlying dT = some (.slice elem)) (hs : (P.info? elem).map (·.size) = some z) (hn : cs.length = Nat.min sLen dLen * z)
    (hsrc : ∀ j v, cs[j]? = some v → w.cell? (a.add j) = some v) (hc : ∀ j, j < cs.length → (w.cell? ⟨b, o + j, none⟩).isSome = true) (hf : ∀ j, j < cs.length → w.frozen? ⟨b, o + j, none⟩ = false) (h1 : ∀ v ∈ cs, v.oneCell' = true) :
    (Builtin.copy_ #[dT, sT] ty #[.slice (some ⟨b, o, none⟩) dLen dCap, .slice (some a) sLen sCap]).run P w = .ok (goInt (Nat.min sLen dLen)) (w.setCells b o cs) := by
  have hl := run_loadCells_list (P := P) w a cs hsrc
  have hst := run_storeCells_cells (P := P) b o cs 0 w (by simpa using hc) (by simpa using hf) h1
  cases hq : P.info? elem with
  | none => simp [hq] at hs
  | some i =>
    have hi : i.size = z := by simpa [hq] using hs
    simp [Builtin.copy_, run_underlying hu, Builtin.lenOf, Builtin.firstCells, sizeOf, typeInfo, hq, hi, ← hn, hl, hst]
section
variable {w : World} {b off n c i vb voff m vc : Nat} {cs vs : List Value}
set_option maxHeartbeats 4000000
set_option maxRecDepth 100000
theorem ins_end_room (hm : 0 < m) (hroom : n + m ≤ c)
    (hvl : vs.length = m * 9) (hsp : ∀ j, j < m * 9 → (w.cell? ⟨b, off + n * 9 + j, none⟩).isSome = true) (hfz : ∀ j, j < m * 9 → w.frozen? ⟨b, off + n * 9 + j, none⟩ = false)
    (hvs : ∀ j v, vs[j]? = some v → w.cell? ⟨vb, voff + j, none⟩ = some v) (h1v : ∀ v ∈ vs, v.oneCell' = true) (i0 : TypeInfo) (hi0 : Tryd.prog.info? 72 = some i0) (hz1 : i0.size = 9) :
    Calls Tryd.prog 62 #[.slice (some ⟨b, off, none⟩) n c, .int .i64 n, .slice (some ⟨vb, voff, none⟩) m vc] w fun e w' =>
      e = .returned (.slice (some ⟨b, off, none⟩) (n + m) c) ∧ w' = w.setCells b (off + n * 9) vs := by
  have mixed : Tryd.prog.follows .mixedOrders = true := by kernel_rfl
  have t58 := Tryd.underlying58; have z72 := Tryd.sizeOf72; have v72 := Tryd.zeroValue72
  have hz2 : ¬ ((m : Int) = 0) := by omega
  have hrun : ∀ ty, (Builtin.append_ #[58, 58] ty #[.slice (some ⟨b, off, none⟩) n c, .slice (some ⟨vb, voff, none⟩) m vc]).run Tryd.prog w = .ok (.slice (some ⟨b, off, none⟩) (n + m) c) (w.setCells b (off + n * 9) vs) := fun ty => by
    have := run_append_room_cells (P := Tryd.prog) w 58 ty 72 i0 t58 hi0 b off n c ⟨vb, voff, none⟩ m vc vs (by rw [hz1]; exact hvl) (fun j u hj => by rw [Addr.add_lit]; exact hvs j u hj) h1v hroom (by rw [hvl, hz1]; exact hsp) (by rw [hvl, hz1]; exact hfz)
    rw [hz1] at this
    exact this
  go_enter Tryd.func62, Tryd.ntmps62
  go_wp2_with (at_builtin; refine Lib.wpList_append_run _ rfl _ _ _ _ rfl _ _ rfl rfl _ _ (hrun _) ?_)
  go_ret
  exact ⟨rfl, rfl⟩
theorem ins_end_grow {base : Option Addr} (hm : 0 < m) (hnc : n ≤ c) (hroom : c < n + m) (hbig : (n + m) * 80 ≤ 140737488355328)
    (hcl : cs.length = n * 9) (hvl : vs.length = m * 9) (hnil : base = none → n = 0)
    (hcs : ∀ a, base = some a → ∀ j v, cs[j]? = some v → w.cell? (a.add j) = some v)
    (hvs : ∀ j v, vs[j]? = some v → w.cell? ⟨vb, voff + j, none⟩ = some v) (h1v : ∀ v ∈ vs, v.oneCell' = true) (i0 : TypeInfo) (hi0 : Tryd.prog.info? 72 = some i0) (hz1 : i0.size = 9) (zz : Value) (hz0 : i0.zero = some zz) (hzb : i0.bytes = 80) (Z : Array Value) (hZ : zz.cells = Z) :
    Calls Tryd.prog 62 #[.slice base n c, .int .i64 n, .slice (some ⟨vb, voff, none⟩) m vc] w fun e w' =>
      e = .returned (.slice (some ⟨w.heap.size, 0, none⟩) (n + m) (grownCap w (n + m) c 72)) ∧
      w' = w.drew.alloc (.cells ((cs ++ vs).toArray ++ Builtin.zeroCells Z (grownCap w (n + m) c 72 - (n + m))) 72) := by
  have mixed : Tryd.prog.follows .mixedOrders = true := by kernel_rfl
  have t58 := Tryd.underlying58; have z72 := Tryd.sizeOf72; have v72 := Tryd.zeroValue72
  have hz2 : ¬ ((m : Int) = 0) := by omega
  have hsrc : Src Tryd.prog i0.size 58 (.slice (some ⟨vb, voff, none⟩) m vc) m vs w := by
    rw [hz1]
    exact Src.ofSlice w t58 ⟨vb, voff, none⟩ m vc vs (by omega) (fun j u hj => by rw [Addr.add_lit]; exact hvs j u hj) h1v
  have hold : (Builtin.firstCells i0.size n (.slice base n c)).run Tryd.prog w.drew = .ok cs.toArray w.drew := by
    rw [hz1]
    cases base with
    | none =>
      have h0 := hnil rfl
      subst h0
      rw [show cs = [] from List.length_eq_zero_iff.1 (by simpa using hcl)]
      exact run_firstCells_none w.drew 9 0 0 c
    | some a => exact run_firstCells_some w.drew 9 n a n c cs (by omega) (fun j v hj => hcs a rfl j v hj)
  have hrun : ∀ ty, (Builtin.append_ #[58, 58] ty #[.slice base n c, .slice (some ⟨vb, voff, none⟩) m vc]).run Tryd.prog w = _ := fun ty =>
    run_append_grow_src w 58 58 ty 72 i0 _ t58 hi0 hz0 base n c cs hold _ m vs hsrc hroom (by omega) (by rw [hzb]; exact growslice_fits hroom hbig)
  rw [hZ] at hrun
  go_enter Tryd.func62, Tryd.ntmps62
  cases base with
  | none =>
    have h0 := hnil rfl
    subst h0
    go_wp2_with (at_builtin; refine Lib.wpList_append_run _ rfl _ _ _ _ rfl _ _ rfl rfl _ _ (hrun _) ?_)
    all_goals (go_ret; exact ⟨rfl, rfl⟩)
  | some a =>
    obtain ⟨ab, ao, asp⟩ := a
    go_wp2_with (at_builtin; refine Lib.wpList_append_run _ rfl _ _ _ _ rfl _ _ rfl rfl _ _ (hrun _) ?_)
    all_goals (go_ret; exact ⟨rfl, rfl⟩)
theorem ins_shift (hi : i < n) (hm : 0 < m) (hroom : n + m ≤ c) (hbig : (n + m) * 80 ≤ 140737488355328) (hvb : vb ≠ b)
    (hcl : cs.length = n * 9) (hvl : vs.length = m * 9)
    (hcs : ∀ j v, cs[j]? = some v → w.cell? ⟨b, off + j, none⟩ = some v) (hsp : ∀ j, j < (n + m) * 9 → (w.cell? ⟨b, off + j, none⟩).isSome = true) (hfz : ∀ j, j < (n + m) * 9 → w.frozen? ⟨b, off + j, none⟩ = false)
    (hvs : ∀ j v, vs[j]? = some v → w.cell? ⟨vb, voff + j, none⟩ = some v) (h1c : ∀ v ∈ cs, v.oneCell' = true) (h1v : ∀ v ∈ vs, v.oneCell' = true)
    (tA tB : TypeId) (kA kB : Nat) (hsa : w.shape? vb = some (tA, kA)) (hsb : w.shape? b = some (tB, kB)) (hkB : kB ≠ 0) (hfa : w.frozen? ⟨vb, voff, none⟩ = false) (hfe : w.frozen? ⟨vb, kA, none⟩ = false)
    (i0 : TypeInfo) (hi0 : Tryd.prog.info? 72 = some i0) (hz1 : i0.size = 9) :
    Calls Tryd.prog 62 #[.slice (some ⟨b, off, none⟩) n c, .int .i64 i, .slice (some ⟨vb, voff, none⟩) m vc] w fun e w' =>
      e = .returned (.slice (some ⟨b, off, none⟩) (n + m) c) ∧ w' = (w.drew.setCells b (off + (i + m) * 9) (cs.drop (i * 9))).setCells b (off + i * 9) vs := by
  have mixed : Tryd.prog.follows .mixedOrders = true := by kernel_rfl
  have t58 := Tryd.underlying58; have z72 := Tryd.sizeOf72; have v72 := Tryd.zeroValue72
  have hz2 : ¬ ((m : Int) = 0) := by omega
  have hz3 : ¬ ((i : Int) = (n : Int)) := by omega
  have hsz : (Tryd.prog.info? 72).map (·.size) = some 9 := by rw [hi0]; simp [hz1]
  have hov : ∀ lb cb, (callFunc 91 #[.slice (some ⟨vb, voff, none⟩) m vc, .slice (some ⟨b, off + (i + m) * 9, none⟩) lb cb]).run Tryd.prog w = .ok (.value (.bool false)) w := fun lb cb => by
    rw [run_callFunc_extern Tryd.func91 (by kernel_rfl) (by kernel_rfl) (by kernel_rfl) (e := Extern.SlicesOverlaps.overlaps #[58, 58] #[4]) (by kernel_rfl),
      Lib.run_overlaps_apart w 58 4 72 t58 9 z72 ⟨vb, voff, none⟩ ⟨b, off + (i + m) * 9, none⟩ m vc lb cb hvb tA tB kA kB hsa hsb hkB hfa hfe]
    rfl
  have hdl : (cs.drop (i * 9)).length = (n - i) * 9 := by rw [List.length_drop, hcl]; omega
  have hw1 : IntKind.i64.wrap ((i : Int) + (m : Int)) = (i : Int) + (m : Int) := by rw [IntKind.wrap_i64]; omega
  have hb1 : (0 : Int) ≤ (i : Int) + (m : Int) := by omega
  have hin : i ≤ n := by omega
  have htn : ((i : Int) + (m : Int)).toNat = i + m := by omega
  have hb2 : ¬ (c = i + m) := by omega
  have hb3 : (i : Int) ≤ (n : Int) + (m : Int) := by omega
  have hb4 : ¬ (c = i) := by omega
  have hcp1 : ∀ ty dc sc, (Builtin.copy_ #[58, 58] ty #[.slice (some ⟨b, off + (i + m) * 9, none⟩) (n + m - (i + m)) dc, .slice (some ⟨b, off + i * 9, none⟩) (n + m - i) sc]).run Tryd.prog w.drew = .ok (goInt ((n - i : Nat) : Int)) (w.drew.setCells b (off + (i + m) * 9) (cs.drop (i * 9))) := fun ty dc sc => by
    have hmin : Nat.min (n + m - i) (n + m - (i + m)) = n - i := by simp only [Nat.min_def]; split <;> omega
    have := run_copy_z (P := Tryd.prog) w.drew 58 58 ty 72 9 b (off + (i + m) * 9) (n + m - (i + m)) dc ⟨b, off + i * 9, none⟩ (n + m - i) sc (cs.drop (i * 9)) t58 hsz (by rw [hdl, hmin])
      (fun j v hj => by rw [Addr.add_lit, Nat.add_assoc]; exact hcs (i * 9 + j) v (by rwa [List.getElem?_drop] at hj))
      (fun j hj => by rw [Nat.add_assoc]; exact hsp _ (by omega)) (fun j hj => by rw [Nat.add_assoc]; exact hfz _ (by omega)) (fun v hv => h1c v (List.mem_of_mem_drop hv))
    rw [hmin] at this
    exact this
  obtain ⟨W1, hW1⟩ : ∃ W1, W1 = w.drew.setCells b (off + (i + m) * 9) (cs.drop (i * 9)) := ⟨_, rfl⟩
  have hsp1 : ∀ k, k < (n + m) * 9 → (W1.cell? ⟨b, off + k, none⟩).isSome = true := fun k hk => by
    rw [hW1]
    exact isSome_setCells b _ _ _ (fun j hj => by rw [Nat.add_assoc]; exact hsp _ (by omega)) _ (hsp k hk)
  have hcp2 : ∀ (W : World), (∀ x, W.cell? x = W1.cell? x) → (∀ x, W.frozen? x = W1.frozen? x) → ∀ ty dc, (Builtin.copy_ #[58, 58] ty #[.slice (some ⟨b, off + i * 9, none⟩) (n + m - i) dc, .slice (some ⟨vb, voff, none⟩) m vc]).run Tryd.prog W = .ok (goInt m) (W.setCells b (off + i * 9) vs) := fun W hWc hWf ty dc => by
    have hmin : Nat.min m (n + m - i) = m := by simp only [Nat.min_def]; split <;> omega
    have := run_copy_z (P := Tryd.prog) W 58 58 ty 72 9 b (off + i * 9) (n + m - i) dc ⟨vb, voff, none⟩ m vc vs t58 hsz (by rw [hvl, hmin])
      (fun j v hj => by
        rw [Addr.add_lit, hWc, hW1, World.cell?_setCells_out b _ _ _ _ (fun h _ => absurd h hvb)]
        exact hvs j v hj)
      (fun j hj => by rw [hWc, Nat.add_assoc]; exact hsp1 _ (by omega)) (fun j hj => by rw [hWf, hW1, World.frozen?_setCells, Nat.add_assoc]; exact hfz _ (by omega)) h1v
    rw [hmin] at this
    exact this
  rw [← hW1] at hcp1
  go_enter Tryd.func62, Tryd.ntmps62
  go_wp2_with (simp only [hov])
  go_region_law_o (refine step_copy_runI rfl _ _ 58 58 rfl _ _ (by simp [Act.eval, Act.put]) (by simp [Act.eval, Act.put]) (hcp1 _ _ _) ?_)
  go_wp2_with (at_builtin; refine wpList_copy_runI _ rfl _ _ 58 58 rfl _ _ rfl rfl (hcp2 _ (fun _ => rfl) (fun _ => rfl) _ _) ?_)
  go_ret
  first | exact ⟨rfl, rfl⟩ | exact ⟨rfl, by rw [hW1]⟩
theorem ins_grow (hi : i < n) (hm : 0 < m) (hnc : n ≤ c) (hroom : c < n + m) (hbig : (n + m) * 80 ≤ 140737488355328)
    (hcl : cs.length = n * 9) (hvl : vs.length = m * 9)
    (hcs : ∀ j v, cs[j]? = some v → w.cell? ⟨b, off + j, none⟩ = some v)
    (hvs : ∀ j v, vs[j]? = some v → w.cell? ⟨vb, voff + j, none⟩ = some v) (h1c : ∀ v ∈ cs, v.oneCell' = true) (h1v : ∀ v ∈ vs, v.oneCell' = true)
    (i0 : TypeInfo) (hi0 : Tryd.prog.info? 72 = some i0) (hz1 : i0.size = 9) (zz : Value) (hz0 : i0.zero = some zz) (hzb : i0.bytes = 80) (Z : Array Value) (hZ : zz.cells = Z) (hZ9 : Z.size = 9) :
    Calls Tryd.prog 62 #[.slice (some ⟨b, off, none⟩) n c, .int .i64 i, .slice (some ⟨vb, voff, none⟩) m vc] w fun e w' =>
      e = .returned (.slice (some ⟨w.heap.size, 0, none⟩) (n + m) (grownCap w (n + m) c 72)) ∧
      w' = (((w.alloc (.cells ((cs.take (i * 9)).toArray ++ Builtin.zeroCells Z (n + m - i) ++ Builtin.zeroCells Z (grownCap w (n + m) c 72 - (n + m))) 72)).drew.setCells w.heap.size (i * 9) vs).drew).setCells w.heap.size ((i + m) * 9) (cs.drop (i * 9)) := by
  have mixed : Tryd.prog.follows .mixedOrders = true := by kernel_rfl
  have t58 := Tryd.underlying58; have z72 := Tryd.sizeOf72; have v72 := Tryd.zeroValue72
  have hy1 : ¬ ((m : Int) = 0) := by omega
  have hy2 : ¬ ((i : Int) = (n : Int)) := by omega
  have hy3 : (c : Int) < (n : Int) + (m : Int) := by omega
  have hsz : (Tryd.prog.info? 72).map (·.size) = some 9 := by rw [hi0]; simp [hz1]
  have hbw : b < w.heap.size := block_lt_of_cell (hcs 0 _ (List.getElem?_eq_getElem (by omega)))
  have hvw : vb < w.heap.size := block_lt_of_cell (hvs 0 _ (List.getElem?_eq_getElem (by omega)))
  have hkk : (n : Int) + (m : Int) - (i : Int) = ((n + m - i : Nat) : Int) := by omega
  have hik : i + (n + m - i) = n + m := by omega
  have hold : (Builtin.firstCells i0.size i (.slice (some ⟨b, off, none⟩) i c)).run Tryd.prog w.drew = .ok (cs.take (i * 9)).toArray w.drew := by
    rw [hz1]
    exact run_firstCells_some w.drew 9 i ⟨b, off, none⟩ i c (cs.take (i * 9)) (by rw [List.length_take]; omega) (fun j v hj => by
      rw [Addr.add_lit]
      rw [List.getElem?_take] at hj
      split at hj
      · exact hcs j v hj
      · cases hj)
  have hrz : ∀ ty, (Builtin.append_ #[58, 3] ty #[.slice (some ⟨b, off, none⟩) i c, .int .i64 ((n : Int) + (m : Int) - (i : Int))]).run Tryd.prog w =
      .ok (.slice (some ⟨w.heap.size, 0, none⟩) (n + m) (grownCap w (n + m) c 72)) (w.drew.alloc (.cells ((cs.take (i * 9)).toArray ++ Builtin.zeroCells Z (n + m - i) ++ Builtin.zeroCells Z (grownCap w (n + m) c 72 - (n + m))) 72)) := fun ty => by
    have h := Lib.run_append_grow_zeros w 58 3 ty 72 i0 _ .i64 .i64 t58 Tryd.underlying3 hi0 hz0 (some ⟨b, off, none⟩) i c (cs.take (i * 9)) hold (n + m - i) (by omega) (by omega) (by omega) (by omega) (by rw [hzb]; omega) (by rw [hzb, hik]; exact growslice_fits hroom hbig)
    rw [hik, hZ] at h
    rw [hkk]
    exact h
  obtain ⟨G, hG⟩ : ∃ G, G = grownCap w (n + m) c 72 := ⟨_, rfl⟩
  obtain ⟨ROW, hROW⟩ : ∃ ROW : Array Value, ROW = (cs.take (i * 9)).toArray ++ Builtin.zeroCells Z (n + m - i) ++ Builtin.zeroCells Z (G - (n + m)) := ⟨_, rfl⟩
  rw [← hG] at hrz ⊢
  rw [← hROW] at hrz ⊢
  have hRl : (n + m) * 9 ≤ ROW.size := by
    rw [hROW]
    simp [Builtin.zeroCells, hZ9]
    omega
  obtain ⟨W1, hW1⟩ : ∃ W1, W1 = w.drew.alloc (.cells ROW 72) := ⟨_, rfl⟩
  rw [← hW1] at hrz
  have hN : ∀ j, j < (n + m) * 9 → (W1.cell? ⟨w.heap.size, j, none⟩).isSome = true := fun j hj => by
    rw [hW1, World.cell?_alloc_at (w := w.drew) ROW _ w.heap.size j rfl, Array.getElem?_eq_getElem (by omega)]; rfl
  have hNf : ∀ j, W1.frozen? ⟨w.heap.size, j, none⟩ = false := fun j => by rw [hW1]; exact World.frozen?_alloc_at (w := w.drew) ROW _ w.heap.size j rfl
  have hOb : ∀ j v, w.cell? ⟨b, j, none⟩ = some v → W1.cell? ⟨b, j, none⟩ = some v := fun j v h => by rw [hW1, World.cell?_alloc_past (w := w.drew) _ b j hbw]; exact h
  have hOv : ∀ j v, w.cell? ⟨vb, j, none⟩ = some v → W1.cell? ⟨vb, j, none⟩ = some v := fun j v h => by rw [hW1, World.cell?_alloc_past (w := w.drew) _ vb j hvw]; exact h
  have hcpA : ∀ (W : World), (∀ x, W.cell? x = W1.cell? x) → (∀ x, W.frozen? x = W1.frozen? x) → ∀ ty dc, (Builtin.copy_ #[58, 58] ty #[.slice (some ⟨w.heap.size, i * 9, none⟩) (n + m - i) dc, .slice (some ⟨vb, voff, none⟩) m vc]).run Tryd.prog W = .ok (goInt m) (W.setCells w.heap.size (i * 9) vs) := fun W hWc hWf ty dc => by
    have hmin : Nat.min m (n + m - i) = m := by simp only [Nat.min_def]; split <;> omega
    have := run_copy_z (P := Tryd.prog) W 58 58 ty 72 9 w.heap.size (i * 9) (n + m - i) dc ⟨vb, voff, none⟩ m vc vs t58 hsz (by rw [hvl, hmin])
      (fun j v hj => by rw [Addr.add_lit, hWc]; exact hOv _ v (hvs j v hj))
      (fun j hj => by rw [hWc]; exact hN _ (by omega)) (fun j hj => by rw [hWf]; exact hNf _) h1v
    rw [hmin] at this
    exact this
  have hGn : n + m ≤ G := by rw [hG]; exact grownCap_ge w _ _ _
  have hG63 : G ≤ 9223372036854775807 := by
    have := grownCap_le_maxLen w (n + m) c 72 (by unfold maxLen; omega)
    rw [← hG] at this
    unfold maxLen at this
    omega
  have hGi : ¬ (G = i) := by omega
  have hGim : ¬ (G = i + m) := by omega
  have hci : ¬ (c = i) := by omega
  have hbN : b ≠ w.heap.size := by omega
  have hdl : (cs.drop (i * 9)).length = (n - i) * 9 := by rw [List.length_drop, hcl]; omega
  have hcpB : ∀ (W : World), (∀ x, W.cell? x = (W1.setCells w.heap.size (i * 9) vs).cell? x) → (∀ x, W.frozen? x = (W1.setCells w.heap.size (i * 9) vs).frozen? x) → ∀ ty dc sc, (Builtin.copy_ #[58, 58] ty #[.slice (some ⟨w.heap.size, (i + m) * 9, none⟩) (n + m - (i + m)) dc, .slice (some ⟨b, off + i * 9, none⟩) (n - i) sc]).run Tryd.prog W = .ok (goInt ((n - i : Nat) : Int)) (W.setCells w.heap.size ((i + m) * 9) (cs.drop (i * 9))) := fun W hWc hWf ty dc sc => by
    have hmin : Nat.min (n - i) (n + m - (i + m)) = n - i := by simp only [Nat.min_def]; split <;> omega
    have := run_copy_z (P := Tryd.prog) W 58 58 ty 72 9 w.heap.size ((i + m) * 9) (n + m - (i + m)) dc ⟨b, off + i * 9, none⟩ (n - i) sc (cs.drop (i * 9)) t58 hsz (by rw [hdl, hmin])
      (fun j v hj => by
        rw [Addr.add_lit, hWc, World.cell?_setCells_out _ _ _ _ _ (fun h _ => absurd h hbN), Nat.add_assoc]
        exact hOb _ v (hcs (i * 9 + j) v (by rwa [List.getElem?_drop] at hj)))
      (fun j hj => by rw [hWc]; exact isSome_setCells _ _ _ _ (fun t ht => hN _ (by omega)) _ (hN _ (by omega)))
      (fun j hj => by rw [hWf, World.frozen?_setCells]; exact hNf _) (fun v hv => h1c v (List.mem_of_mem_drop hv))
    rw [hmin] at this
    exact this
  subst hW1
  have hE1 : ∀ x, ((w.alloc (.cells ROW 72)).drew).cell? x = (w.drew.alloc (.cells ROW 72)).cell? x := fun x => rfl
  have hE2 : ∀ x, ((w.alloc (.cells ROW 72)).drew).frozen? x = (w.drew.alloc (.cells ROW 72)).frozen? x := fun x => rfl
  have hF1 : ∀ x, (((w.alloc (.cells ROW 72)).drew.setCells w.heap.size (i * 9) vs).drew).cell? x = ((w.drew.alloc (.cells ROW 72)).setCells w.heap.size (i * 9) vs).cell? x := fun x => rfl
  have hF2 : ∀ x, (((w.alloc (.cells ROW 72)).drew.setCells w.heap.size (i * 9) vs).drew).frozen? x = ((w.drew.alloc (.cells ROW 72)).setCells w.heap.size (i * 9) vs).frozen? x := fun x => rfl
  have hw1 : IntKind.i64.wrap ((i : Int) + (m : Int)) = (i : Int) + (m : Int) := by rw [IntKind.wrap_i64]; omega
  have hb1 : (0 : Int) ≤ (i : Int) + (m : Int) := by omega
  have hin : i ≤ n := by omega
  have htn : ((i : Int) + (m : Int)).toNat = i + m := by omega
  have hb3 : (i : Int) ≤ (n : Int) := by omega
  clear hkk hik hold hROW hG hRl
  go_enter Tryd.func62, Tryd.ntmps62
  go_wp2_with (first
    | (at_builtin; refine Lib.wpList_append_run _ rfl _ _ _ _ rfl _ _ rfl rfl _ _ (hrz _) ?_)
    | (at_builtin; refine wpList_copy_runI _ rfl _ _ 58 58 rfl _ _ rfl rfl (hcpA _ hE1 hE2 _ _) ?_)
    | (at_builtin; refine wpList_copy_runI _ rfl _ _ 58 58 rfl _ _ rfl rfl (hcpB _ (fun _ => rfl) (fun _ => rfl) _ _ _) ?_))
  go_region_law_o (refine step_copy_runI rfl _ _ 58 58 rfl (.slice (some ⟨w.heap.size, (i + m) * 9, none⟩) (n + m - (i + m)) (G - (i + m))) (.slice (some ⟨b, off + i * 9, none⟩) (n - i) (c - i)) (by simp [Act.eval, Act.put]) (by simp [Act.eval, Act.put]) (hcpB _ hF1 hF2 3 (G - (i + m)) (c - i)) ?_)
  go_wp2
  go_ret
  exact ⟨rfl, rfl⟩
end
end Go.Proofs
