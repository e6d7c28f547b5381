/-
  The arguments of the laws on changes: a view, changes.
-/
import Derived.Test.YtelmlagolmabpaaDoorChg25
import Derived.Test.YtelmlagolmabpaaDoorChgB0
set_option linter.unusedSimpArgs false
set_option linter.unusedVariables false
namespace Go.Proofs.YtelmlagolmabpaaDoor
open Go.ChangeShapes Go.WideShapes Go.RowKit Go.Deep

section
variable {H : Type} {enc : TypeId × Value → H} {w : World} {base : Nat} {spare : Nat → Bool} {held : Bool}
set_option maxRecDepth 100000 in
theorem row_trod {fuel : Nat} {cs : List Value} {x : DataW H × List MemPlace} (h : DataW.trod enc Tryd.prog w base spare held fuel 34 cs = some x) : ∃ (v : Value) (l : List Val), cs = [v] ∧ Sl w v l.length (rowCells l) ∧ Fine l := by
  obtain ⟨v, l, e, hs, hq⟩ := open_flatQ (f := Val.cells) (Q := Val.ok) (size := 3) Val.cells_len (by omega) Tryd.underlying34 (by kernel_rfl) val_trod h
  exact ⟨v, l, e, hs, ⟨fun x hx => (hq x hx).2.2.2.2, fun x hx => ⟨(hq x hx).2.2.1, (hq x hx).2.2.2.1⟩⟩⟩
set_option maxRecDepth 100000 in
theorem count_trod (fuel : Nat) (cs : List Value) (x : DataW H × List MemPlace) (h : DataW.trod enc Tryd.prog w base spare held fuel 99 cs = some x) : ∃ c : Cnt, cs = c.cells ∧ Sl w c.v c.r.length (rowCells c.r) ∧ Fine c.r ∧ (-9223372036854775808 ≤ c.n ∧ c.n ≤ 9223372036854775807) := by
  obtain ⟨n, hl, hf⟩ := struct_one Tryd.underlying99 (hone_of (by kernel_rfl)) (by kernel_rfl) h
  obtain ⟨y0, h0⟩ := hf 0 _ rfl
  obtain ⟨y1, h1⟩ := hf 1 _ rfl
  obtain ⟨v, l, e0, hs, hfi⟩ := row_trod h0
  obtain ⟨s1, e1, -, q1⟩ := DataW.trod_int Tryd.underlying3 h1
  match cs, hl with
  | [a, b], _ =>
    simp at e0 e1
    subst e0 e1
    exact ⟨⟨a, l, s1⟩, rfl, hs, hfi, wf_i64 q1⟩
set_option maxRecDepth 100000 in
theorem change_trod (fuel : Nat) (cs : List Value) (x : DataW H × List MemPlace) (h : DataW.trod enc Tryd.prog w base spare held fuel 92 cs = some x) : ∃ c : Chn, cs = c.cells ∧ Sl w c.v c.r.length (rowCells c.r) ∧ Fine c.r ∧ (-9223372036854775808 ≤ c.k ∧ c.k ≤ 9223372036854775807) := by
  obtain ⟨n, hl, hf⟩ := struct_one Tryd.underlying92 (hone_of (by kernel_rfl)) (by kernel_rfl) h
  obtain ⟨y0, h0⟩ := hf 0 _ rfl
  obtain ⟨y1, h1⟩ := hf 1 _ rfl
  obtain ⟨v, l, e1, hs, hfi⟩ := row_trod h1
  obtain ⟨s0, e0, -, q0⟩ := DataW.trod_int Tryd.underlying3 h0
  match cs, hl with
  | [a, b], _ =>
    simp at e0 e1
    subst e0 e1
    exact ⟨⟨b, l, s0⟩, rfl, hs, hfi, wf_i64 q0⟩
set_option maxRecDepth 100000 in
theorem open_view {r : Reach} {b0 : Nat} {v : Value} {d : DataW H} {p : List MemPlace} (hv : Value.okWide Tryd.prog w r b0 51 v) (h : DataW.Trod enc Tryd.prog w base spare held 51 v d p) :
    ∃ l : List Cnt, View w v l ∧ FineV l := by
  obtain ⟨a, len, cap, rfl⟩ := okWide_slice Tryd.underlying51 hv
  obtain ⟨fuel, hf⟩ := h
  obtain ⟨u, l, e, hsl, hq⟩ := open_flatQ (f := Cnt.cells) (Q := fun c => Sl w c.v c.r.length (rowCells c.r) ∧ Fine c.r ∧ (-9223372036854775808 ≤ c.n ∧ c.n ≤ 9223372036854775807)) (size := 2) Cnt.cells_len (by omega) Tryd.underlying51 (by kernel_rfl) count_trod hf
  have : (Value.slice a len cap) = u := by simpa [Value.cells] using e
  rw [this]
  exact ⟨l, ⟨hsl, fun c hc => (hq c hc).1⟩, ⟨fun c hc => (hq c hc).2.1, fun c hc => (hq c hc).2.2⟩⟩
set_option maxRecDepth 100000 in
theorem open_changes {r : Reach} {b0 : Nat} {v : Value} {d : DataW H} {p : List MemPlace} (hv : Value.okWide Tryd.prog w r b0 52 v) (h : DataW.Trod enc Tryd.prog w base spare held 52 v d p) :
    ∃ l : List Chn, Chs w v l ∧ FineC l := by
  obtain ⟨a, len, cap, rfl⟩ := okWide_slice Tryd.underlying52 hv
  obtain ⟨fuel, hf⟩ := h
  obtain ⟨u, l, e, hsl, hq⟩ := open_flatQ (f := Chn.cells) (Q := fun c => Sl w c.v c.r.length (rowCells c.r) ∧ Fine c.r ∧ (-9223372036854775808 ≤ c.k ∧ c.k ≤ 9223372036854775807)) (size := 2) Chn.cells_len (by omega) Tryd.underlying52 (by kernel_rfl) change_trod hf
  have : (Value.slice a len cap) = u := by simpa [Value.cells] using e
  rw [this]
  exact ⟨l, ⟨hsl, fun c hc => (hq c hc).1⟩, ⟨fun c hc => (hq c hc).2.1, fun c hc => (hq c hc).2.2⟩⟩
end
end Go.Proofs.YtelmlagolmabpaaDoor
