/- Own words of this session: slices.Backward's closure keeps an iterator's contract. -/
import Derived.Test.YtfckadoadmdgjaaDoorBack
import Derived.Test.YtfckadoadmdgjaaDoorBack0
set_option linter.all false
namespace Go.Pv
set_option linter.unusedSimpArgs false
open Go.RowKit Go.Shelf Go.Proofs
theorem rowsUp_inv : ∀ (els : List (List PV)) (i : Nat), ∃ rows, rowsUp true i els = some rows ∧ rows.length = els.length ∧ ∀ (k : Nat) (row : List AV), rows[k]? = some row → ∃ e, els[k]? = some e ∧ row = [.w (.p (.int .i64 ((i + k : Nat) : Int))), .a (e.map OV.p)]
  | [], i => ⟨[], rfl, rfl, fun k row h => by simp at h⟩
  | x :: l, i => by
    obtain ⟨rows, h1, h2, h3⟩ := rowsUp_inv l (i + 1)
    refine ⟨[.w (.p (.int .i64 i)), .a (x.map OV.p)] :: rows, by simp [rowsUp, elAV, h1], by simp [h2], fun k row h => ?_⟩
    cases k with
    | zero => simp at h; subst h; exact ⟨x, rfl, rfl⟩
    | succ k =>
      obtain ⟨t, a, b⟩ := h3 k row (by simpa using h)
      exact ⟨t, by simpa using a, by rw [b, show i + 1 + k = i + (k + 1) by omega]⟩
theorem rowsOf_bwd {z : Nat} {cells : List (List PV)} {rows : List (List AV)} (h : rowsOf (.bwd true) z cells = some rows) : ∃ els r, cells = [[.sl z els]] ∧ els.length < 4611686018427387904 ∧ rowsUp true 0 els = some r ∧ rows = r.reverse := by
  unfold rowsOf at h
  split at h
  · rename_i z' els
    split at h
    · rename_i hc
      obtain ⟨r, h1, h2⟩ := Option.map_eq_some_iff.1 h
      refine ⟨els, r, by rw [hc.1], ?_, h1, h2.symm⟩
      have := hc.2
      unfold few at this
      simpa [Nat.blt_eq] using this
    · simp at h
  · split at h
    · rename_i hc; exact absurd hc.2.2.1 (by simp)
    · simp at h
  · simp at h
theorem flat_get {els : List (List PV)} {z j i : Nat} {e : List PV} (hz : ∀ e ∈ els, e.length = z) (h : els[j]? = some e) (hi : i < z) : els.flatten[j * z + i]? = e[i]? := by
  induction els generalizing j with
  | nil => simp at h
  | cons x els ih =>
    have hx := hz x (by simp)
    cases j with
    | zero =>
      simp at h; subst h
      rw [List.flatten_cons, List.getElem?_append_left (by omega)]; simp
    | succ j =>
      rw [List.flatten_cons, List.getElem?_append_right (by rw [hx, Nat.succ_mul]; omega), hx, show (j + 1) * z + i - z = j * z + i by rw [Nat.succ_mul]; omega]
      exact ih (fun e he => hz e (by simp [he])) (by simpa using h)
theorem flat_len {els : List (List PV)} {z : Nat} (hz : ∀ e ∈ els, e.length = z) : els.flatten.length = els.length * z := by
  induction els with
  | nil => simp
  | cons x els ih => rw [List.flatten_cons, List.length_append, hz x (by simp), ih fun e he => hz e (by simp [he]), List.length_cons, Nat.succ_mul]; omega
theorem repL_plain {w : World} {Fz : BSet} : ∀ {e : List PV} {vs : List Value}, vs.length = e.length → (∀ (j : Nat) (c : PV) (v : Value), e[j]? = some c → vs[j]? = some v → RepP w Fz c v) → RepL w Fz (e.map .p) vs (fun _ => False)
  | [], [], _, _ => trivial
  | c :: e, v :: vs, h, hr => ⟨fun _ => False, fun _ => False, .p (hr 0 c v rfl rfl), repL_plain (by simpa using h) fun j c v h1 h2 => hr (j + 1) c v (by simpa using h1) (by simpa using h2), fun _ h => h, fun _ h => h, fun _ h => h.elim⟩
  | [], _ :: _, h, _ => by simp at h
  | _ :: _, [], h, _ => by simp at h
theorem back_iter : IterOk Tryd.prog 103 (.bwd true) 18 := by
  refine ⟨enters_of Tryd.func103 (by kernel_rfl) rfl, fun cells rows w Fz cvs hr hl hrep hF => ?_⟩
  obtain ⟨els, r, rfl, hfew, hr1, rfl⟩ := rowsOf_bwd hr
  obtain ⟨r', h1, h2, h3⟩ := rowsUp_inv els 0
  obtain rfl : r = r' := by rw [hr1] at h1; exact Option.some.inj h1
  match cvs, hl with
  | [v], _ =>
    obtain ⟨ad, vs, rfl, hspot, hfz, hlen, hcells, hrep'⟩ := hrep 0 _ v rfl rfl
    match vs, hlen with
    | [x], _ =>
      have hx := hrep' 0 _ x rfl rfl
      have hcell := hcells 0 x rfl
      have hBs : Fz ad.block := hfz (by simp)
      obtain ⟨bb, oo, sp⟩ := ad
      simp only at hspot hcell hBs
      subst hspot
      rw [Nat.add_zero] at hcell
      cases hx with
      | nil _ a cap =>
        refine ⟨fun _ => #[], fun k row hk => ?_, ?_⟩
        · rw [List.eq_nil_of_length_eq_zero h2] at hk; simp at hk
        · have : r.reverse.length = 0 := by simp [h2]
          rw [this]
          exact back_yields0 hBs hcell
      | sl _ _ a cap us hf hs hz hel hcap hn hc hru =>
        obtain ⟨ab, ao, asp⟩ := a
        simp only at hs hf hc
        subst hs
        have hfl := flat_len hel
        refine ⟨fun k => #[.int .i64 ((els.length - 1 - k : Nat) : Int), .agg ((us.drop ((els.length - 1 - k) * 18)).take 18).toArray], fun k row hk => ?_, ?_⟩
        · have hkl : k < r.reverse.length := (List.getElem?_eq_some_iff.1 hk).1
          rw [List.length_reverse] at hkl
          rw [List.getElem?_reverse hkl] at hk
          obtain ⟨e, he, rfl⟩ := h3 _ _ hk
          rw [h2] at he hkl ⊢
          have helen := hel e (List.mem_of_getElem? he)
          refine ⟨.inl ⟨_, rfl, ?_⟩, .inr ⟨e, _, rfl, rfl, ?_⟩, trivial⟩
          · rw [Nat.zero_add]; exact .int _ _
          · have hj : els.length - 1 - k + 1 ≤ els.length := by omega
            have hmul : (els.length - 1 - k) * 18 + 18 ≤ els.length * 18 := by
              have := Nat.mul_le_mul_right 18 hj
              omega
            refine repL_plain (by rw [List.length_take, List.length_drop, hn, hfl, helen]; omega) fun j c v h4 h5 => ?_
            have hj18 : j < 18 := by
              have := (List.getElem?_eq_some_iff.1 h4).1; omega
            have h6 := flat_get hel he hj18
            rw [List.getElem?_take_of_lt hj18, List.getElem?_drop] at h5
            exact hru _ c v (by rw [h6]; exact h4) h5
        · have : r.reverse.length = els.length := by simp [h2]
          rw [this]
          refine back_yields (ev := fun j => (us.drop (j * 18)).take 18) hfew (fun j hj => ?_) hBs hf hcell (fun j i v hj hv => ?_)
          · have hmul : j * 18 + 18 ≤ els.length * 18 := by
              have := Nat.mul_le_mul_right 18 (show j + 1 ≤ els.length by omega)
              omega
            rw [List.length_take, List.length_drop, hn, hfl]; omega
          · have hi : i < 18 := by
              have := (List.getElem?_eq_some_iff.1 hv).1
              rw [List.length_take] at this; omega
            rw [List.getElem?_take_of_lt hi, List.getElem?_drop] at hv
            have := hc _ v hv
            rw [← Nat.add_assoc] at this
            exact this
end Go.Pv
