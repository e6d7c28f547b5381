/-
  The bases of changes: elements, numbers, how rows are opened.
-/
import Derived.Test.YtelmlagolmabpaaDoorPlan4
import Derived.Test.YtelmlagolmabpaaDoorValue9
import Derived.SizedLaws
import Derived.Deep.Fields
set_option linter.unusedSimpArgs false
set_option linter.unusedVariables false
namespace Go.Proofs.YtelmlagolmabpaaDoor
section
open Go.RowKit Go.Maps
theorem valJ : EInfo Tryd.prog 79 3 32 := by
  have h : (Tryd.prog.info? 79).map (fun i => (i.zero, i.size, i.bytes)) = some (some (.agg #[.int .i64 0, .int .i64 0, .string ⟨#[]⟩]), 3, 32) := by kernel_rfl
  obtain ⟨i, hi, h1, h2, h3⟩ := info_parts h
  exact ⟨i, _, hi, h1, h2, h3, rfl, by omega⟩
theorem val_cell (x : Val) : ∀ u ∈ x.cells, u.oneCell' = true := by
  intro u hu
  simp [Val.cells] at hu
  rcases hu with rfl | rfl | rfl <;> rfl
set_option maxHeartbeats 400000 in
set_option maxRecDepth 10000 in
theorem num_any (n : Int) (w : World) : Calls Tryd.prog 78 #[.int .i64 n] w fun e w' => e = .returned (.agg #[.int .i64 2, .int .i64 n, .string ⟨#[]⟩]) ∧ Below w.heap.size w w' := by
  go_enter Tryd.func78, Tryd.ntmps78
  go_wp2
  exact bodyPost_ret (v := .agg #[.int .i64 2, .int .i64 n, .string ⟨#[]⟩]) (by simp [results, Tryd.results78, go_sem]) rfl ⟨rfl, below_alloc _ _⟩

def numV (n : Int) : Val := ⟨2, n, ⟨#[]⟩⟩
theorem nums_fine (a b : Int) (ha : -9223372036854775808 ≤ a ∧ a ≤ 9223372036854775807) (hb : -9223372036854775808 ≤ b ∧ b ≤ 9223372036854775807) : Fine [numV a, numV b] := by
  refine ⟨fun x hx => ?_, fun x hx => ?_⟩
  · simp only [List.mem_cons, List.mem_nil_iff, or_false] at hx
    have : (⟨#[]⟩ : ByteArray).size = 0 := rfl
    rcases hx with rfl | rfl <;> simp [numV, this]
  · simp only [List.mem_cons, List.mem_nil_iff, or_false] at hx
    rcases hx with rfl | rfl
    · exact ha
    · exact hb

end
section
open Go.ChangeShapes Go.WideShapes Go.RowKit Go.Deep
section
variable {H : Type} {enc : TypeId × Value → H} {P : Program} {w : World} {base : Nat} {spare : Nat → Bool} {held : Bool}
/-- A slice whose elements are flat, each of which has a property that its reading shows. -/
theorem open_flatQ {t e : TypeId} {fuel : Nat} {cs : List Value} {x : DataW H × List MemPlace} {α : Type} {f : α → List Value} {Q : α → Prop} {size : Nat} (hf : ∀ a, (f a).length = size) (h0 : 0 < size)
    (ht : P.underlying t = some (.slice e)) (hC : P.cellsOf e = size) (hel : ∀ fuel cs x, DataW.trod enc P w base spare held fuel e cs = some x → ∃ a, cs = f a ∧ Q a)
    (h : DataW.trod enc P w base spare held fuel t cs = some x) : ∃ (v : Value) (l : List α), cs = [v] ∧ Sl w v l.length (l.flatMap f) ∧ ∀ a ∈ l, Q a := by
  obtain ⟨v, l, e1, hs⟩ := open_flat (f := fun a : { a // Q a } => f a.1) (fun a => hf a.1) h0 ht hC (fun fuel cs x h => by obtain ⟨a, e, q⟩ := hel fuel cs x h; exact ⟨⟨a, q⟩, e⟩) h
  refine ⟨v, l.map Subtype.val, e1, ?_, ?_⟩
  · rw [List.length_map, List.flatMap_map]; exact hs
  · intro a ha
    obtain ⟨b, -, rfl⟩ := List.mem_map.1 ha
    exact b.2
end

theorem wf_i64 {n : Int} (h : (Lit.int .i64 n).wf = true) : -9223372036854775808 ≤ n ∧ n ≤ 9223372036854775807 := by
  have h' : IntKind.i64.min ≤ n ∧ n ≤ 9223372036854775807 := by simpa [Lit.wf] using h
  have e : IntKind.i64.min = -9223372036854775808 := by decide
  rw [e] at h'
  exact h'

section
variable {H : Type} {enc : TypeId × Value → H} {w : World} {base : Nat} {spare : Nat → Bool} {held : Bool}
set_option maxRecDepth 100000 in
theorem val_trod (fuel : Nat) (cs : List Value) (x : DataW H × List MemPlace) (h : DataW.trod enc Tryd.prog w base spare held fuel 79 cs = some x) : ∃ v : Val, cs = v.cells ∧ v.ok := by
  have hC : Tryd.prog.cellsOf 79 = 3 := by kernel_rfl
  have hi : Tryd.prog.cellsOf 3 = 1 := by kernel_rfl
  have hs : Tryd.prog.cellsOf 9 = 1 := by kernel_rfl
  obtain ⟨y0, y1, y2, n, -, hl, h0, h1, h2⟩ := Go.Deep.trod_struct3 Tryd.underlying79 h
  rw [hC] at hl
  simp only [hs, hi] at h0 h1 h2
  obtain ⟨s0, e0, -, q0⟩ := DataW.trod_int Tryd.underlying3 h0
  obtain ⟨s1, e1, -, q1⟩ := DataW.trod_int Tryd.underlying3 h1
  obtain ⟨s2, e2, -, q2⟩ := DataW.trod_string Tryd.underlying9 h2
  match cs, hl with
  | [a, b, c], _ =>
    simp at e0 e1 e2
    subst e0 e1 e2
    have b0 := wf_i64 q0
    have b1 := wf_i64 q1
    unfold maxLen at q2
    exact ⟨⟨s0, s1, s2⟩, rfl, b0.1, b0.2, b1.1, b1.2, q2⟩

set_option maxRecDepth 100000 in
theorem open_val {r : Reach} {b0 : Nat} {v : Value} {d : DataW H} {p : List MemPlace} (hv : Value.okWide Tryd.prog w r b0 79 v) (h : DataW.Trod enc Tryd.prog w base spare held 79 v d p) :
    ∃ x : Val, v = .agg #[.int .i64 x.k, .int .i64 x.n, .string x.s] ∧ x.ok := by
  obtain ⟨cs, rfl, -⟩ := okWide_struct Tryd.underlying79 hv
  obtain ⟨fuel, hf⟩ := h
  obtain ⟨x, e, hx⟩ := val_trod _ _ _ hf
  refine ⟨x, ?_, hx⟩
  have : cs.toList = [.int .i64 x.k, .int .i64 x.n, .string x.s] := e
  rw [← Array.toArray_toList (xs := cs), this]

set_option maxRecDepth 100000 in
theorem open_row {r : Reach} {b0 : Nat} {v : Value} {d : DataW H} {p : List MemPlace} (hv : Value.okWide Tryd.prog w r b0 34 v) (h : DataW.Trod enc Tryd.prog w base spare held 34 v d p) :
    ∃ l : List Val, Sl w v l.length (rowCells l) ∧ Fine l := by
  obtain ⟨a, len, cap, rfl⟩ := okWide_slice Tryd.underlying34 hv
  obtain ⟨fuel, hf⟩ := h
  obtain ⟨u, l, e, hsl, hq⟩ := open_flatQ (f := Val.cells) (Q := Val.ok) (size := 3) Val.cells_len (by omega) Tryd.underlying34 (by kernel_rfl) val_trod hf
  have : (Value.slice a len cap) = u := by simpa [Value.cells] using e
  rw [this]
  exact ⟨l, hsl, ⟨fun x hx => (hq x hx).2.2.2.2, fun x hx => ⟨(hq x hx).2.2.1, (hq x hx).2.2.2.1⟩⟩⟩
end

theorem reach_str {H : Type} {P : Program} {ts : List TypeId} {ds : List (DataW H)} (h : (DataW.weightsEach P ts ds).all (· ≤ reachBytes) = true) (j : Nat) (t : TypeId) (s : ByteArray) (ht : ts[j]? = some t) (hd : ds[j]? = some (.lit (.string s.data.toList))) : s.size ≤ 140737488351232 := by
  have h2 := sized_string h ht hd
  have hsl : s.data.toList.length = s.size := by rw [Array.length_toList]; rfl
  rw [hsl] at h2
  simpa [reachBytes] using h2

section
variable {H : Type} {enc : TypeId × Value → H} {P : Program} {w : World} {base : Nat} {spare : Nat → Bool} {held : Bool}
/-- A struct of one-cell fields: each field reads. -/
theorem struct_one {ts : TypeId} {fs : Array Field} {fuel : Nat} {cs : List Value} {x : DataW H × List MemPlace} (hs : P.underlying ts = some (.struct fs))
    (hone : ∀ (i : Nat) (f : Field), fs[i]? = some f → f.offset = i ∧ P.cellsOf f.type = 1) (hC : P.cellsOf ts = fs.size) (h : DataW.trod enc P w base spare held fuel ts cs = some x) :
    ∃ n, cs.length = fs.size ∧ ∀ (i : Nat) (f : Field), fs[i]? = some f → ∃ y, DataW.trod enc P w base spare held n f.type [cs.getD i undef] = some y := by
  obtain ⟨xs, n, _, rfl, hl, hxl, hf⟩ := DataW.trod_struct hs h
  rw [hC] at hl
  refine ⟨n, hl, fun i f hi => ?_⟩
  have hlt : i < fs.size := (Array.getElem?_eq_some_iff.1 hi).1
  obtain ⟨ho, hc1⟩ := hone i f hi
  have g := hf i f hi
  rw [ho, hc1, take1_drop cs i undef (by omega), List.getElem?_eq_getElem (by omega)] at g
  exact ⟨_, g⟩
end
end
end Go.Proofs.YtelmlagolmabpaaDoor
