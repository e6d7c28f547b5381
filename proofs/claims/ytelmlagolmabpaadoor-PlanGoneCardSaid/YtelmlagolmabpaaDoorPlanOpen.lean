/-
  The arguments of the laws on plans: a plan, a row.
-/
import Derived.Test.YtelmlagolmabpaaDoorPlan24
import Derived.SizedLaws
import Derived.Deep.Fields
namespace Go.Proofs.YtelmlagolmabpaaDoor
open Go.ChangeShapes Go.WideShapes Go.RowKit Go.Deep

section
variable {H : Type} {enc : TypeId × Value → H} {P : Program} {w : World} {base : Nat} {spare : Nat → Bool} {held : Bool}
/-- A slice whose elements are flat, each of which has a property that its reading shows. -/
theorem open_flatQ {t e : TypeId} {fuel : Nat} {cs : List Value} {x : DataW H × List MemPlace} {α : Type} {f : α → List Value} {Q : α → Prop} {size : Nat} (hf : ∀ a, (f a).length = size) (h0 : 0 < size)
    (ht : P.underlying t = some (.slice e)) (hC : P.cellsOf e = size) (hel : ∀ fuel cs x, DataW.trod enc P w base spare held fuel e cs = some x → ∃ a, cs = f a ∧ Q a)
    (h : DataW.trod enc P w base spare held fuel t cs = some x) : ∃ (v : Value) (l : List α), cs = [v] ∧ Sl w v l.length (l.flatMap f) ∧ ∀ a ∈ l, Q a := by
  obtain ⟨v, l, e1, hs⟩ := open_flat (f := fun a : { a // Q a } => f a.1) (fun a => hf a.1) h0 ht hC (fun fuel cs x h => by obtain ⟨a, e, q⟩ := hel fuel cs x h; exact ⟨⟨a, q⟩, e⟩) h
  refine ⟨v, l.map Subtype.val, e1, ?_, ?_⟩
  · rw [List.length_map, List.flatMap_map]; exact hs
  · intro a ha
    obtain ⟨b, -, rfl⟩ := List.mem_map.1 ha
    exact b.2
end

theorem wf_i64 {n : Int} (h : (Lit.int .i64 n).wf = true) : -9223372036854775808 ≤ n ∧ n ≤ 9223372036854775807 := by
  have h' : IntKind.i64.min ≤ n ∧ n ≤ 9223372036854775807 := by simpa [Lit.wf] using h
  have e : IntKind.i64.min = -9223372036854775808 := by decide
  rw [e] at h'
  exact h'

section
variable {H : Type} {enc : TypeId × Value → H} {w : World} {base : Nat} {spare : Nat → Bool} {held : Bool}
set_option maxRecDepth 100000 in
theorem val_trod (fuel : Nat) (cs : List Value) (x : DataW H × List MemPlace) (h : DataW.trod enc Tryd.prog w base spare held fuel 79 cs = some x) : ∃ v : Val, cs = v.cells ∧ v.ok := by
  have hC : Tryd.prog.cellsOf 79 = 3 := by kernel_rfl
  have hi : Tryd.prog.cellsOf 3 = 1 := by kernel_rfl
  have hs : Tryd.prog.cellsOf 9 = 1 := by kernel_rfl
  obtain ⟨y0, y1, y2, n, -, hl, h0, h1, h2⟩ := Go.Deep.trod_struct3 Tryd.underlying79 h
  rw [hC] at hl
  simp only [hs, hi] at h0 h1 h2
  obtain ⟨s0, e0, -, q0⟩ := DataW.trod_int Tryd.underlying3 h0
  obtain ⟨s1, e1, -, q1⟩ := DataW.trod_int Tryd.underlying3 h1
  obtain ⟨s2, e2, -, q2⟩ := DataW.trod_string Tryd.underlying9 h2
  match cs, hl with
  | [a, b, c], _ =>
    simp at e0 e1 e2
    subst e0 e1 e2
    have b0 := wf_i64 q0
    have b1 := wf_i64 q1
    unfold maxLen at q2
    exact ⟨⟨s0, s1, s2⟩, rfl, b0.1, b0.2, b1.1, b1.2, q2⟩

set_option maxRecDepth 100000 in
theorem open_val {r : Reach} {b0 : Nat} {v : Value} {d : DataW H} {p : List MemPlace} (hv : Value.okWide Tryd.prog w r b0 79 v) (h : DataW.Trod enc Tryd.prog w base spare held 79 v d p) :
    ∃ x : Val, v = .agg #[.int .i64 x.k, .int .i64 x.n, .string x.s] ∧ x.ok := by
  obtain ⟨cs, rfl, -⟩ := okWide_struct Tryd.underlying79 hv
  obtain ⟨fuel, hf⟩ := h
  obtain ⟨x, e, hx⟩ := val_trod _ _ _ hf
  refine ⟨x, ?_, hx⟩
  have : cs.toList = [.int .i64 x.k, .int .i64 x.n, .string x.s] := e
  rw [← Array.toArray_toList (xs := cs), this]

set_option maxRecDepth 100000 in
theorem open_row {r : Reach} {b0 : Nat} {v : Value} {d : DataW H} {p : List MemPlace} (hv : Value.okWide Tryd.prog w r b0 34 v) (h : DataW.Trod enc Tryd.prog w base spare held 34 v d p) :
    ∃ l : List Val, Sl w v l.length (rowCells l) ∧ Fine l := by
  obtain ⟨a, len, cap, rfl⟩ := okWide_slice Tryd.underlying34 hv
  obtain ⟨fuel, hf⟩ := h
  obtain ⟨u, l, e, hsl, hq⟩ := open_flatQ (f := Val.cells) (Q := Val.ok) (size := 3) Val.cells_len (by omega) Tryd.underlying34 (by kernel_rfl) val_trod hf
  have : (Value.slice a len cap) = u := by simpa [Value.cells] using e
  rw [this]
  exact ⟨l, hsl, ⟨fun x hx => (hq x hx).2.2.2.2, fun x hx => ⟨(hq x hx).2.2.1, (hq x hx).2.2.2.1⟩⟩⟩
end

theorem reach_str {H : Type} {P : Program} {ts : List TypeId} {ds : List (DataW H)} (h : (DataW.weightsEach P ts ds).all (· ≤ reachBytes) = true) (j : Nat) (t : TypeId) (s : ByteArray) (ht : ts[j]? = some t) (hd : ds[j]? = some (.lit (.string s.data.toList))) : s.size ≤ 140737488351232 := by
  have h2 := sized_string h ht hd
  have hsl : s.data.toList.length = s.size := by rw [Array.length_toList]; rfl
  rw [hsl] at h2
  simpa [reachBytes] using h2

section
variable {H : Type} {enc : TypeId × Value → H} {P : Program} {w : World} {base : Nat} {spare : Nat → Bool} {held : Bool}
/-- A struct of one-cell fields: each field reads. -/
theorem struct_one {ts : TypeId} {fs : Array Field} {fuel : Nat} {cs : List Value} {x : DataW H × List MemPlace} (hs : P.underlying ts = some (.struct fs))
    (hone : ∀ (i : Nat) (f : Field), fs[i]? = some f → f.offset = i ∧ P.cellsOf f.type = 1) (hC : P.cellsOf ts = fs.size) (h : DataW.trod enc P w base spare held fuel ts cs = some x) :
    ∃ n, cs.length = fs.size ∧ ∀ (i : Nat) (f : Field), fs[i]? = some f → ∃ y, DataW.trod enc P w base spare held n f.type [cs.getD i undef] = some y := by
  obtain ⟨xs, n, _, rfl, hl, hxl, hf⟩ := DataW.trod_struct hs h
  rw [hC] at hl
  refine ⟨n, hl, fun i f hi => ?_⟩
  have hlt : i < fs.size := (Array.getElem?_eq_some_iff.1 hi).1
  obtain ⟨ho, hc1⟩ := hone i f hi
  have g := hf i f hi
  rw [ho, hc1, take1_drop cs i undef (by omega), List.getElem?_eq_getElem (by omega)] at g
  exact ⟨_, g⟩
theorem flat_ints (l : List Int) : l.flatMap (fun n => [Value.int .i64 n]) = intCells l := by
  induction l with
  | nil => rfl
  | cons a l ih => rw [List.flatMap_cons, ih]; rfl
end

section
variable {H : Type} {enc : TypeId × Value → H} {w : World} {base : Nat} {spare : Nat → Bool} {held : Bool}
set_option maxRecDepth 100000 in
theorem ints_trod {fuel : Nat} {cs : List Value} {x : DataW H × List MemPlace} (h : DataW.trod enc Tryd.prog w base spare held fuel 22 cs = some x) : ∃ (v : Value) (l : List Int), cs = [v] ∧ Sl w v l.length (intCells l) ∧ I64 l := by
  obtain ⟨v, l, e, hs, hq⟩ := open_flatQ (f := fun n : Int => [Value.int .i64 n]) (Q := fun n => -9223372036854775808 ≤ n ∧ n ≤ 9223372036854775807) (size := 1) (fun _ => rfl) (by omega) Tryd.underlying22 (by kernel_rfl)
    (fun fuel cs x h => by obtain ⟨s, e, -, q⟩ := DataW.trod_int Tryd.underlying3 h; exact ⟨s, e, wf_i64 q⟩) h
  rw [flat_ints] at hs
  exact ⟨v, l, e, hs, hq⟩
set_option maxRecDepth 100000 in
theorem agg_trod (fuel : Nat) (cs : List Value) (x : DataW H × List MemPlace) (h : DataW.trod enc Tryd.prog w base spare held fuel 72 cs = some x) : ∃ a : Int × Int, cs = aggCell a ∧ (-9223372036854775808 ≤ a.1 ∧ a.1 ≤ 9223372036854775807) ∧ (-9223372036854775808 ≤ a.2 ∧ a.2 ≤ 9223372036854775807) := by
  obtain ⟨n, hl, hf⟩ := struct_one Tryd.underlying72 (hone_of (by kernel_rfl)) (by kernel_rfl) h
  obtain ⟨y0, h0⟩ := hf 0 _ rfl
  obtain ⟨y1, h1⟩ := hf 1 _ rfl
  obtain ⟨s0, e0, -, q0⟩ := DataW.trod_int Tryd.underlying3 h0
  obtain ⟨s1, e1, -, q1⟩ := DataW.trod_int Tryd.underlying3 h1
  match cs, hl with
  | [a, b], _ =>
    simp at e0 e1
    subst e0 e1
    exact ⟨(s0, s1), rfl, wf_i64 q0, wf_i64 q1⟩
set_option maxRecDepth 100000 in
theorem plan_trod (fuel : Nat) (cs : List Value) (x : DataW H × List MemPlace) (h : DataW.trod enc Tryd.prog w base spare held fuel 25 cs = some x) :
    ∃ p : Pl, cs = [.int .i64 p.kind, .int .i64 p.mode, .int .i64 p.low, .int .i64 p.high, .int .i64 p.size, .int .i64 p.limit, p.vl, p.vr, p.vk, p.vq, .bool p.grouped, p.vg, p.va] ∧ p.ok w ∧ p.fit := by
  obtain ⟨n, hl, hf⟩ := struct_one Tryd.underlying25 (hone_of (by kernel_rfl)) (by kernel_rfl) h
  obtain ⟨y0, h0⟩ := hf 0 _ rfl
  obtain ⟨y1, h1⟩ := hf 1 _ rfl
  obtain ⟨y2, h2⟩ := hf 2 _ rfl
  obtain ⟨y3, h3⟩ := hf 3 _ rfl
  obtain ⟨y4, h4⟩ := hf 4 _ rfl
  obtain ⟨y5, h5⟩ := hf 5 _ rfl
  obtain ⟨y6, h6⟩ := hf 6 _ rfl
  obtain ⟨y7, h7⟩ := hf 7 _ rfl
  obtain ⟨y8, h8⟩ := hf 8 _ rfl
  obtain ⟨y9, h9⟩ := hf 9 _ rfl
  obtain ⟨y10, h10⟩ := hf 10 _ rfl
  obtain ⟨y11, h11⟩ := hf 11 _ rfl
  obtain ⟨y12, h12⟩ := hf 12 _ rfl
  obtain ⟨s0, e0, -, q0⟩ := DataW.trod_int Tryd.underlying3 h0
  obtain ⟨s1, e1, -, q1⟩ := DataW.trod_int Tryd.underlying3 h1
  obtain ⟨s2, e2, -, q2⟩ := DataW.trod_int Tryd.underlying3 h2
  obtain ⟨s3, e3, -, q3⟩ := DataW.trod_int Tryd.underlying3 h3
  obtain ⟨s4, e4, -, q4⟩ := DataW.trod_int Tryd.underlying3 h4
  obtain ⟨s5, e5, -, q5⟩ := DataW.trod_int Tryd.underlying3 h5
  obtain ⟨v6, l6, e6, hs6, q6⟩ := ints_trod h6
  obtain ⟨v7, l7, e7, hs7, q7⟩ := ints_trod h7
  obtain ⟨v8, l8, e8, hs8, q8⟩ := ints_trod h8
  obtain ⟨v9, l9, e9, hs9, q9⟩ := ints_trod h9
  obtain ⟨s10, e10, -⟩ := DataW.trod_bool Tryd.underlying4 h10
  obtain ⟨v11, l11, e11, hs11, q11⟩ := ints_trod h11
  obtain ⟨v12, l12, e12, hs12, q12⟩ := open_flatQ (f := aggCell) (size := 2) aggCell_len (by omega) Tryd.underlying23 (by kernel_rfl) agg_trod h12
  match cs, hl with
  | [a0, a1, a2, a3, a4, a5, a6, a7, a8, a9, a10, a11, a12], _ =>
    simp at e0 e1 e2 e3 e4 e5 e6 e7 e8 e9 e10 e11 e12
    subst e0 e1 e2 e3 e4 e5 e6 e7 e8 e9 e10 e11 e12
    exact ⟨⟨s0, s1, s2, s3, s4, s5, a6, a7, a8, a9, s10, a11, a12, l6, l7, l8, l9, l11, l12⟩, rfl, ⟨hs6, hs7, hs8, hs9, hs11, hs12⟩, ⟨q6, q7, q8, q9, q11, q12⟩⟩
set_option maxRecDepth 100000 in
theorem open_plan {r : Reach} {b0 : Nat} {v : Value} {d : DataW H} {p : List MemPlace} (hv : Value.okWide Tryd.prog w r b0 25 v) (h : DataW.Trod enc Tryd.prog w base spare held 25 v d p) :
    ∃ x : Pl, v = .agg #[.int .i64 x.kind, .int .i64 x.mode, .int .i64 x.low, .int .i64 x.high, .int .i64 x.size, .int .i64 x.limit, x.vl, x.vr, x.vk, x.vq, .bool x.grouped, x.vg, x.va] ∧ x.ok w ∧ x.fit := by
  obtain ⟨cs, rfl, -⟩ := okWide_struct Tryd.underlying25 hv
  obtain ⟨fuel, hf⟩ := h
  obtain ⟨x, e, hx⟩ := plan_trod _ _ _ hf
  refine ⟨x, ?_, hx⟩
  have : cs.toList = [.int .i64 x.kind, .int .i64 x.mode, .int .i64 x.low, .int .i64 x.high, .int .i64 x.size, .int .i64 x.limit, x.vl, x.vr, x.vk, x.vq, .bool x.grouped, x.vg, x.va] := e
  rw [← Array.toArray_toList (xs := cs), this]
end
end Go.Proofs.YtelmlagolmabpaaDoor
