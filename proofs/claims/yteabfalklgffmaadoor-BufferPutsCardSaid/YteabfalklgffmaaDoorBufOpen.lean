/-
  The arguments of the laws on buffers: a buffer, an entry.
-/
import Derived.Test.YteabfalklgffmaaDoorBuf29
set_option linter.unusedSimpArgs false
set_option linter.unusedVariables false
namespace Go.Proofs.YteabfalklgffmaaDoor
open Go.ChangeShapes Go.WideShapes Go.RowKit Go.Deep

section
variable {H : Type} {enc : TypeId × Value → H} {w : World} {base : Nat} {spare : Nat → Bool} {held : Bool}
set_option maxRecDepth 100000 in
theorem open_buf {r : Reach} {b0 : Nat} {v : Value} {d : DataW H} {p : List MemPlace} (hv : Value.okWide Tryd.prog w r b0 25 v) (h : DataW.Trod enc Tryd.prog w base spare held 25 v d p) (hw : InReach Tryd.prog 25 d) :
    ∃ b : Buf, v = b.agg ∧ b.ok w ∧ b.fit := by
  obtain ⟨cs, rfl, -⟩ := okWide_struct Tryd.underlying25 hv
  obtain ⟨fuel, hf⟩ := h
  obtain ⟨b, e, h1, h2⟩ := buffer_trod _ _ _ hf hw
  refine ⟨b, ?_, h1, h2⟩
  have : cs.toList = [.int .i64 b.limit, b.vm, b.vr] := e
  rw [← Array.toArray_toList (xs := cs), this]
  rfl
set_option maxRecDepth 100000 in
theorem open_entry {r : Reach} {b0 : Nat} {v : Value} {d : DataW H} {p : List MemPlace} (hv : Value.okWide Tryd.prog w r b0 28 v) (h : DataW.Trod enc Tryd.prog w base spare held 28 v d p) (hw : InReach Tryd.prog 28 d) :
    ∃ x : Ent, v = x.agg ∧ Sl w x.v x.e.r.length (rowCells x.e.r) ∧ FineE x.e := by
  obtain ⟨cs, rfl, -⟩ := okWide_struct Tryd.underlying28 hv
  obtain ⟨fuel, hf⟩ := h
  obtain ⟨x, e, h1, h2⟩ := entry_trod _ _ _ hf hw
  refine ⟨x, ?_, h1, h2⟩
  have : cs.toList = x.cells := e
  rw [← Array.toArray_toList (xs := cs), this]
  rfl
end
end Go.Proofs.YteabfalklgffmaaDoor
