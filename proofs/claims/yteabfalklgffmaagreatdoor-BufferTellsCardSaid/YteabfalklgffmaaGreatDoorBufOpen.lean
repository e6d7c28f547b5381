/-
  The arguments of the laws on buffers: a buffer, an entry.
-/
import Derived.Test.YteabfalklgffmaaGreatDoorBuf37
import Derived.Test.YteabfalklgffmaaGreatDoorBuf38
set_option linter.unusedSimpArgs false
set_option linter.unusedVariables false
namespace Go.Proofs.YteabfalklgffmaaGreatDoor
open Go.ChangeShapes Go.WideShapes Go.RowKit Go.Deep

section
variable {H : Type} {enc : TypeId × Value → H} {w : World} {base : Nat} {spare : Nat → Bool} {held : Bool}
set_option maxRecDepth 100000 in
theorem open_buf {r : Reach} {b0 : Nat} {v : Value} {d : DataW H} {p : List MemPlace} (hv : Value.okWide Tryz.prog w r b0 25 v) (h : DataW.Trod enc Tryz.prog w base spare held 25 v d p) (hw : InReach Tryz.prog 25 d) :
    ∃ b : Buf, v = b.agg ∧ b.ok w ∧ b.fit := by
  obtain ⟨cs, rfl, -⟩ := okWide_struct Tryz.underlying25 hv
  obtain ⟨fuel, hf⟩ := h
  obtain ⟨b, e, h1, h2⟩ := buffer_trod _ _ _ hf hw
  refine ⟨b, ?_, h1, h2⟩
  have : cs.toList = [.int .i64 b.limit, b.vm, b.vr] := e
  rw [← Array.toArray_toList (xs := cs), this]
  rfl
set_option maxRecDepth 100000 in
theorem open_entry {r : Reach} {b0 : Nat} {v : Value} {d : DataW H} {p : List MemPlace} (hv : Value.okWide Tryz.prog w r b0 48 v) (h : DataW.Trod enc Tryz.prog w base spare held 48 v d p) (hw : InReach Tryz.prog 48 d) :
    ∃ x : Ent, v = x.agg ∧ Sl w x.v x.e.r.length (rowCells x.e.r) ∧ FineE x.e := by
  obtain ⟨cs, rfl, -⟩ := okWide_struct Tryz.underlying48 hv
  obtain ⟨fuel, hf⟩ := h
  obtain ⟨x, e, h1, h2⟩ := entry_trod _ _ _ hf hw
  refine ⟨x, ?_, h1, h2⟩
  have : cs.toList = x.cells := e
  rw [← Array.toArray_toList (xs := cs), this]
  rfl
end
open Go.Shelf in
theorem bufferTurns_walkS (b : Buf) (key : ByteArray) (t s : Int) (w : World) (hb : b.ok w) (hf : b.fit) (hm : Mx w) :
    Calls Tryz.prog 3 #[b.agg, .string key, .int .i64 t, .int .i64 s] w fun e w' => e = .returned (.bool true) ∧ Below w.heap.size w w' := by
  have h := bufferTurns_walk b key.toList t s w hb hf hm
  rwa [str_of] at h
theorem bufferTells_walkS (b : Buf) (key : ByteArray) (t s : Int) (w : World) (hb : b.ok w) (hf : b.fit) (hm : Mx w) :
    Calls Tryz.prog 4 #[b.agg, .string key, .int .i64 t, .int .i64 s] w fun e w' => e = .returned (.bool true) ∧ Below w.heap.size w w' := by
  have h := bufferTells_walk b key.toList t s w hb hf hm
  rwa [str_of] at h
end Go.Proofs.YteabfalklgffmaaGreatDoor
