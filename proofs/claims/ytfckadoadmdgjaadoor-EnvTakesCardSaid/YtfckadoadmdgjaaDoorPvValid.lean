/- Own words of these sessions: utf8.ValidString. -/
import Derived.Test.YtfckadoadmdgjaaDoorPvd
import Derived.Shelf.Unicode.ValidAny
set_option linter.all false
namespace Go.Pv
open Go.RowKit Go.Shelf Go.Proofs
set_option linter.unusedVariables false
def validE : List AV → Option CRes
  | [.w (.p (.str s))] => if s.length ≤ 140737488351232 then some ([(false, [.p (.bool (Lib.validD s))])], []) else none
  | _ => none
theorem tabs_old {g3 g4 : Nat} {O w : World} (h : Lib.Utf8Tabs g3 g4 O) (ho : ∀ b, b < O.heap.size → w.heap[b]? = O.heap[b]?) : Lib.Utf8Tabs g3 g4 w := by
  have lt : ∀ {a : Addr} {v : Value}, O.cell? a = some v → a.block < O.heap.size := fun {a v} hc => by
    rcases Nat.lt_or_ge a.block O.heap.size with h' | h'
    · exact h'
    · simp [World.cell?, Array.getElem?_eq_none h'] at hc
  have cell : ∀ {a : Addr} {v : Value}, O.cell? a = some v → w.cell? a = some v := fun {a v} hc => (World.cell?_of_block (w := O) (ho _ (lt hc))).trans hc
  exact ⟨fun c hc => cell (h.1 c hc), fun i hi => ⟨cell (h.2 i hi).1, cell (h.2 i hi).2⟩⟩
theorem valid_ok {P : Program} {ρ : Ren} (L : Lays.n196 P ρ) (hfn : FnOk P (ρ.f 196)) : ExtIs (fun O => Lib.Utf8Tabs (ρ.g 3) (ρ.g 4) O) P (ρ.f 196) validE := by
  intro xs r hr
  unfold validE at hr
  split at hr
  case h_2 => simp at hr
  rename_i s
  split at hr
  case isFalse => simp at hr
  rename_i hs
  simp only [Option.some.injEq] at hr
  subst hr
  refine ⟨hfn, ?_⟩
  intro O hI vs w Fz T hO hT ha hTd hTt hFz
  obtain rfl : vs = [.string ⟨s.toArray⟩] := by
    obtain ⟨hl, hv⟩ := ha
    match vs, hl, hv with
    | [v], _, hv =>
      have h0 : ArgOk w Fz (.w (.p (.str s))) v (T 0) := hv 0 _ v rfl rfl
      cases h0 with
      | p h => rw [repP_str h]
  refine (Any.utf8_ValidString L ⟨s.toArray⟩ w (by simp [ByteArray.size]; omega) (tabs_old hI hO.2)).mono ?_
  rintro e w' ⟨rfl, hb⟩
  exact ⟨⟨_, Fz, fun _ => False, fun _ _ => False, rfl, ⟨hb.os, hb.tape, hb.output, hb.size, fun b hb' _ => hb.block b hb'⟩, fun _ h => h, fun b h => ⟨.inl h, Nat.lt_of_lt_of_le (hFz b h) hb.size⟩,
    ⟨[.bool (Lib.validD s)], .inr ⟨rfl, rfl⟩, fun _ => False, fun _ => False, .p (.bool _), trivial, fun _ h => h, fun _ h => h, fun _ h => h.elim⟩, trivial, fun _ h => h.elim, fun _ _ h => h.elim, fun _ _ h => h.elim, fun _ _ _ _ h => h.elim⟩⟩
end Go.Pv
