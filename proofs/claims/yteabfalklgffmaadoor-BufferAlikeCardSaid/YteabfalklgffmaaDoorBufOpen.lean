/-
  The arguments of the laws on buffers: a buffer, an entry.
-/
import Derived.Test.YteabfalklgffmaaDoorBuf29
import Derived.Test.YteabfalklgffmaaDoorBuf39
set_option linter.unusedSimpArgs false
set_option linter.unusedVariables false
namespace Go.Proofs.YteabfalklgffmaaDoor
open Go.ChangeShapes Go.WideShapes Go.RowKit Go.Deep

section
variable {H : Type} {enc : TypeId × Value → H} {w : World} {base : Nat} {spare : Nat → Bool} {held : Bool}
set_option maxRecDepth 100000 in
theorem open_buf {r : Reach} {b0 : Nat} {v : Value} {d : DataW H} {p : List MemPlace} (hv : Value.okWide Tryd.prog w r b0 25 v) (h : DataW.Trod enc Tryd.prog w base spare held 25 v d p) (hw : InReach Tryd.prog 25 d) :
    ∃ b : Buf, v = b.agg ∧ b.ok w ∧ b.fit := by
  obtain ⟨cs, rfl, -⟩ := okWide_struct Tryd.underlying25 hv
  obtain ⟨fuel, hf⟩ := h
  obtain ⟨b, e, h1, h2⟩ := buffer_trod _ _ _ hf hw
  refine ⟨b, ?_, h1, h2⟩
  have : cs.toList = [.int .i64 b.limit, b.vm, b.vr] := e
  rw [← Array.toArray_toList (xs := cs), this]
  rfl
set_option maxRecDepth 100000 in
theorem open_entry {r : Reach} {b0 : Nat} {v : Value} {d : DataW H} {p : List MemPlace} (hv : Value.okWide Tryd.prog w r b0 28 v) (h : DataW.Trod enc Tryd.prog w base spare held 28 v d p) (hw : InReach Tryd.prog 28 d) :
    ∃ x : Ent, v = x.agg ∧ Sl w x.v x.e.r.length (rowCells x.e.r) ∧ FineE x.e := by
  obtain ⟨cs, rfl, -⟩ := okWide_struct Tryd.underlying28 hv
  obtain ⟨fuel, hf⟩ := h
  obtain ⟨x, e, h1, h2⟩ := entry_trod _ _ _ hf hw
  refine ⟨x, ?_, h1, h2⟩
  have : cs.toList = x.cells := e
  rw [← Array.toArray_toList (xs := cs), this]
  rfl
end
section
variable {H : Type} {enc : TypeId × Value → H} {w : World} {base : Nat} {spare : Nat → Bool} {held : Bool}
set_option maxRecDepth 100000 in
theorem open_ents {r : Reach} {b0 : Nat} {v : Value} {d : DataW H} {p : List MemPlace} (hv : Value.okWide Tryd.prog w r b0 22 v) (h : DataW.Trod enc Tryd.prog w base spare held 22 v d p) (hw : InReach Tryd.prog 22 d) :
    ∃ l : List Ent, Ents w v l ∧ ∀ x ∈ l, FineE x.e := by
  obtain ⟨a, len, cap, rfl⟩ := okWide_slice Tryd.underlying22 hv
  obtain ⟨fuel, hf⟩ := h
  obtain ⟨⟨u, l⟩, e, h1, h2, -⟩ := ents_trod _ _ _ hf hw
  have : (Value.slice a len cap) = u := by simpa [Value.cells] using e
  rw [this]
  exact ⟨l, h1, h2⟩
theorem int_trodB (fuel : Nat) (cs : List Value) (x : DataW H × List MemPlace) (h : DataW.trod enc Tryd.prog w base spare held fuel 3 cs = some x) : ∃ n : Int, cs = [.int .i64 n] := by
  obtain ⟨n, e, -⟩ := DataW.trod_int Tryd.underlying3 h
  exact ⟨n, e⟩
theorem flat_intsB (l : List Int) : l.flatMap (fun n => [Value.int .i64 n]) = intCells l := by
  induction l with
  | nil => rfl
  | cons a l ih => rw [List.flatMap_cons, ih]; rfl
set_option maxRecDepth 100000 in
theorem open_intl {r : Reach} {b0 : Nat} {v : Value} {d : DataW H} {p : List MemPlace} (hv : Value.okWide Tryd.prog w r b0 39 v) (h : DataW.Trod enc Tryd.prog w base spare held 39 v d p) :
    ∃ l : List Int, Sl w v l.length (intCells l) := by
  obtain ⟨a, len, cap, rfl⟩ := okWide_slice Tryd.underlying39 hv
  obtain ⟨fuel, hf⟩ := h
  obtain ⟨u, l, e, hsl⟩ := open_flat (f := fun n : Int => [Value.int .i64 n]) (size := 1) (fun _ => rfl) (by omega) Tryd.underlying39 (by kernel_rfl) int_trodB hf
  rw [flat_intsB] at hsl
  have : (Value.slice a len cap) = u := by simpa [Value.cells] using e
  rw [this]
  exact ⟨l, hsl⟩
end
end Go.Proofs.YteabfalklgffmaaDoor
