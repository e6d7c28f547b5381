/-
  The arguments of the laws on disks: a disk by value, a slice of ints.
-/
import Derived.Test.YteamepgonmdilaaOpen
import Derived.Test.YteamepgonmdilaaDiskLaw2
namespace Go.Proofs.Yteamepgonmdilaa
open Go.ChangeShapes Go.WideShapes Go.RowKit Go.Deep

section
variable {H : Type} {enc : TypeId × Value → H} {w : World} {base : Nat} {spare : Nat → Bool} {held : Bool}
theorem Slot.cells_len (s : Slot) : s.cells.length = 3 := rfl
theorem slot_trod (fuel : Nat) (cs : List Value) (x : DataW H × List MemPlace) (h : DataW.trod enc Try.prog w base spare held fuel 57 cs = some x) : ∃ s : Slot, cs = s.cells := by
  have hC : Try.prog.cellsOf 57 = 3 := by kernel_rfl
  have hs : Try.prog.cellsOf 9 = 1 := by kernel_rfl
  have hb : Try.prog.cellsOf 4 = 1 := by kernel_rfl
  obtain ⟨y0, y1, y2, n, -, hl, h0, h1, h2⟩ := Go.Deep.trod_struct3 Try.underlying57 h
  rw [hC] at hl
  simp only [hs, hb] at h0 h1 h2
  obtain ⟨s0, e0, -⟩ := DataW.trod_string Try.underlying9 h0
  obtain ⟨s1, e1, -⟩ := DataW.trod_string Try.underlying9 h1
  obtain ⟨s2, e2, -⟩ := DataW.trod_bool Try.underlying4 h2
  match cs, hl with
  | [a, b, c], _ =>
    simp at e0 e1 e2
    subst e0 e1 e2
    exact ⟨⟨s0, s1, s2⟩, rfl⟩

theorem open_slots {fuel : Nat} {cs : List Value} {x : DataW H × List MemPlace} (h : DataW.trod enc Try.prog w base spare held fuel 35 cs = some x) : ∃ (v : Value) (l : List Slot), cs = [v] ∧ Sl w v l.length (slotCells l) :=
  open_flat (f := Slot.cells) Slot.cells_len (by omega) Try.underlying35 (by kernel_rfl) slot_trod h

theorem open_disk {r : Reach} {b0 : Nat} {v : Value} {d : DataW H} {p : List MemPlace} (hv : Value.okWide Try.prog w r b0 37 v) (h : DataW.Trod enc Try.prog w base spare held 37 v d p) :
    ∃ (u : Value) (l : List Slot), v = .agg #[u] ∧ Sl w u l.length (slotCells l) := by
  have hC : Try.prog.cellsOf 37 = 1 := by kernel_rfl
  have hs : Try.prog.cellsOf 35 = 1 := by kernel_rfl
  obtain ⟨cs, rfl, hsz⟩ := okWide_struct Try.underlying37 hv
  obtain ⟨⟨l⟩⟩ := cs
  · simp [hC] at hsz
  rename_i c0 l
  have hl : l = [] := by
    rw [hC] at hsz
    simpa using hsz
  subst hl
  obtain ⟨fuel, hf⟩ := h
  obtain ⟨y0, n, -, -, h0⟩ := trod_struct1 Try.underlying37 hf
  simp only [hs] at h0
  obtain ⟨u, l, e, hsl⟩ := open_slots h0
  have : c0 = u := by simpa [Value.cells] using e
  subst this
  exact ⟨_, l, rfl, hsl⟩

theorem int_trod (fuel : Nat) (cs : List Value) (x : DataW H × List MemPlace) (h : DataW.trod enc Try.prog w base spare held fuel 3 cs = some x) : ∃ n : Int, cs = [.int .i64 n] := by
  obtain ⟨n, e, -⟩ := DataW.trod_int Try.underlying3 h
  exact ⟨n, e⟩
theorem flat_ints (l : List Int) : l.flatMap (fun n => [Value.int .i64 n]) = intCells l := by
  induction l with
  | nil => rfl
  | cons a l ih => rw [List.flatMap_cons, ih]; rfl
theorem open_intl {r : Reach} {b0 : Nat} {v : Value} {d : DataW H} {p : List MemPlace} (hv : Value.okWide Try.prog w r b0 51 v) (h : DataW.Trod enc Try.prog w base spare held 51 v d p) :
    ∃ l : List Int, Sl w v l.length (intCells l) := by
  obtain ⟨a, len, cap, rfl⟩ := okWide_slice Try.underlying51 hv
  obtain ⟨fuel, hf⟩ := h
  obtain ⟨u, l, e, hsl⟩ := open_flat (f := fun n : Int => [Value.int .i64 n]) (size := 1) (fun _ => rfl) (by omega) Try.underlying51 (by kernel_rfl) int_trod hf
  rw [flat_ints] at hsl
  have : (Value.slice a len cap) = u := by simpa [Value.cells] using e
  rw [this]
  exact ⟨l, hsl⟩
end
end Go.Proofs.Yteamepgonmdilaa
