/-
  Entries and buffers in memory.
-/
import Derived.Test.YteabfalklgffmaaDoorBufLaw2
import Derived.Test.YteabfalklgffmaaDoorValue15
import Derived.Test.YteabfalklgffmaaDoorBufOpen0
set_option linter.unusedSimpArgs false
set_option linter.unusedVariables false
namespace Go.Proofs.YteabfalklgffmaaDoor
open Go.RowKit

/-- An entry in memory: its row is a slice of its own. -/
structure Ent where
  v : Value
  e : En
def Ent.cells (x : Ent) : List Value := [.string (str x.e.key), .int .i64 x.e.t, .int .i64 x.e.s, x.v, .bool x.e.met]
theorem Ent.cells_len (x : Ent) : x.cells.length = 5 := rfl
def entCells (l : List Ent) : List Value := l.flatMap Ent.cells
def ens (l : List Ent) : List En := l.map (·.e)
/-- Entries in memory. -/
structure Ents (w : World) (v : Value) (l : List Ent) : Prop where
  sl : Sl w v l.length (entCells l)
  rows : ∀ x ∈ l, Sl w x.v x.e.r.length (rowCells x.e.r)
theorem Ents.below {w w' : World} {v : Value} {l : List Ent} (h : Ents w v l) (hb : Below w.heap.size w w') : Ents w' v l := ⟨h.sl.below hb, fun c hc => (h.rows c hc).below hb⟩
theorem Ents.drew {w : World} {v : Value} {l : List Ent} (h : Ents w v l) : Ents w.drew v l := ⟨h.sl, h.rows⟩
theorem Ents.nil (w : World) : Ents w (.slice none 0 0) [] := ⟨Sl.nil_ w, nofun⟩
/-- What an entry that came in may be. -/
structure FineE (e : En) : Prop where
  row : Fine e.r
  time : -9223372036854775808 ≤ e.t ∧ e.t ≤ 9223372036854775807
  seq : -9223372036854775808 ≤ e.s ∧ e.s ≤ 9223372036854775807
  key : e.key.length ≤ 140737488351232
  len : e.r.length ≤ 4398046511104
theorem ent_at {w : World} {l : List Ent} {v : Value} (h : Sl w v l.length (entCells l)) {A : Option Addr} {n c : Nat} (hv : v = .slice A n c) {k : Nat} {x : Ent} (hk : l[k]? = some x) :
    ∃ b off, A = some ⟨b, off, none⟩ ∧ b < w.heap.size ∧ ∀ w', Below w.heap.size w w' →
      w'.cell? ⟨b, off + k * 5, none⟩ = some (.string (str x.e.key)) ∧ w'.cell? ⟨b, off + k * 5 + 1, none⟩ = some (.int .i64 x.e.t) ∧ w'.cell? ⟨b, off + k * 5 + 2, none⟩ = some (.int .i64 x.e.s) ∧
      w'.cell? ⟨b, off + k * 5 + 3, none⟩ = some x.v ∧ w'.cell? ⟨b, off + k * 5 + 4, none⟩ = some (.bool x.e.met) := by
  obtain ⟨A', c', hv', h1, h2, -, h3⟩ := h
  rw [hv] at hv'
  injection hv' with e1 e2 e3
  subst e1
  have a0 := flat_at Ent.cells_len l k 0 (by omega)
  have a1 := flat_at Ent.cells_len l k 1 (by omega)
  have a2 := flat_at Ent.cells_len l k 2 (by omega)
  have a3 := flat_at Ent.cells_len l k 3 (by omega)
  have a4 := flat_at Ent.cells_len l k 4 (by omega)
  rw [hk] at a0 a1 a2 a3 a4
  simp only [Option.bind_some, Nat.add_zero] at a0 a1 a2 a3 a4
  obtain ⟨b, off, hA, hc⟩ := h3 (by intro h0; rw [show l.flatMap Ent.cells = entCells l from rfl, h0] at a0; simp [Ent.cells] at a0)
  have c0 := hc _ _ a0
  have c1 := hc _ _ a1
  have c2 := hc _ _ a2
  have c3 := hc _ _ a3
  have c4 := hc _ _ a4
  exact ⟨b, off, hA, World.block_lt_of_cell? w _ c0, fun w' hb => ⟨cell_below hb c0, cell_below hb c1, cell_below hb c2, cell_below hb c3, cell_below hb c4⟩⟩
theorem flat_firsts {α : Type} (l : List (Value × α)) : (l.flatMap fun p => [p.1]) = l.map (·.1) := by
  induction l with
  | nil => rfl
  | cons p t ih => rw [List.flatMap_cons, ih]; rfl
/-- A buffer in memory. -/
structure Buf where
  limit : Int
  vm : Value
  mem : List Ent
  vr : Value
  runs : List (Value × List Ent)
def Buf.bu (b : Buf) : Bu := ⟨b.limit, ens b.mem, b.runs.map fun p => ens p.2⟩
structure Buf.ok (w : World) (b : Buf) : Prop where
  mem : Ents w b.vm b.mem
  sl : Sl w b.vr b.runs.length (b.runs.map (·.1))
  runs : ∀ p ∈ b.runs, Ents w p.1 p.2
theorem Buf.ok.below {w w' : World} {b : Buf} (h : b.ok w) (hb : Below w.heap.size w w') : b.ok w' := ⟨h.mem.below hb, h.sl.below hb, fun p hp => (h.runs p hp).below hb⟩
structure Buf.fit (b : Buf) : Prop where
  limit : -9223372036854775808 ≤ b.limit ∧ b.limit ≤ 9223372036854775807
  mem : ∀ x ∈ b.mem, FineE x.e
  runs : ∀ p ∈ b.runs, ∀ x ∈ p.2, FineE x.e
  lmem : b.mem.length ≤ 2199023255552
  lruns : ∀ p ∈ b.runs, p.2.length ≤ 2199023255552
  lnum : b.runs.length ≤ 5864062014806

section
open Go.ChangeShapes Go.WideShapes Go.Deep
variable {H : Type} {enc : TypeId × Value → H} {w : World} {base : Nat} {spare : Nat → Bool} {held : Bool}
theorem wf64 {n : Int} (h : (Lit.int .i64 n).wf = true) : -9223372036854775808 ≤ n ∧ n ≤ 9223372036854775807 := by
  have h' : IntKind.i64.min ≤ n ∧ n ≤ 9223372036854775807 := by simpa [Lit.wf] using h
  have e : IntKind.i64.min = -9223372036854775808 := by decide
  rw [e] at h'
  exact h'
set_option maxRecDepth 100000 in
theorem valS_trod (fuel : Nat) (cs : List Value) (x : DataW H × List MemPlace) (h : DataW.trod enc Tryd.prog w base spare held fuel 82 cs = some x) (hw : InReach Tryd.prog 82 x.1) : ∃ v : Val, cs = v.cells ∧ v.ok := by
  have hC : Tryd.prog.cellsOf 82 = 3 := by kernel_rfl
  have hi : Tryd.prog.cellsOf 3 = 1 := by kernel_rfl
  have hs : Tryd.prog.cellsOf 9 = 1 := by kernel_rfl
  obtain ⟨y0, y1, y2, n, -, hl, h0, h1, h2⟩ := Go.Deep.trod_struct3 Tryd.underlying82 h
  rw [hC] at hl
  simp only [hs, hi] at h0 h1 h2
  obtain ⟨s0, e0, -, q0⟩ := DataW.trod_int Tryd.underlying3 h0
  obtain ⟨s1, e1, -, q1⟩ := DataW.trod_int Tryd.underlying3 h1
  obtain ⟨s2, e2, -, q2⟩ := DataW.trod_string Tryd.underlying9 h2
  match cs, hl with
  | [a, b, c], _ =>
    simp at e0 e1 e2
    subst e0 e1 e2
    have b0 := wf64 q0
    have b1 := wf64 q1
    unfold maxLen at q2
    exact ⟨⟨s0, s1, s2⟩, rfl, b0.1, b0.2, b1.1, b1.2, q2⟩
set_option maxRecDepth 100000 in
theorem rowS_trod {fuel : Nat} {cs : List Value} {x : DataW H × List MemPlace} (h : DataW.trod enc Tryd.prog w base spare held fuel 26 cs = some x) (hw : InReach Tryd.prog 26 x.1) : ∃ (v : Value) (l : List Val), cs = [v] ∧ Sl w v l.length (rowCells l) ∧ Fine l ∧ l.length ≤ 4398046511104 := by
  obtain ⟨v, l, e, hs, hq, hb⟩ := open_flatS (f := Val.cells) (Q := Val.ok) (size := 3) Val.cells_len (by omega) Tryd.underlying26 (by kernel_rfl) valS_trod h hw
  exact ⟨v, l, e, hs, ⟨fun x hx => (hq x hx).2.2.2.2, fun x hx => ⟨(hq x hx).2.2.1, (hq x hx).2.2.2.1⟩⟩, by rw [show Tryd.prog.bytesOf 82 = 32 from by kernel_rfl] at hb; unfold reachBytes at hb; omega⟩
set_option maxRecDepth 100000 in
theorem entry_trod (fuel : Nat) (cs : List Value) (x : DataW H × List MemPlace) (h : DataW.trod enc Tryd.prog w base spare held fuel 28 cs = some x) (hw : InReach Tryd.prog 28 x.1) : ∃ c : Ent, cs = c.cells ∧ Sl w c.v c.e.r.length (rowCells c.e.r) ∧ FineE c.e := by
  obtain ⟨n, hl, hf⟩ := struct_oneS Tryd.underlying28 (hone_of (by kernel_rfl)) (by kernel_rfl) h hw
  obtain ⟨y0, h0, w0⟩ := hf 0 _ rfl
  obtain ⟨y1, h1, -⟩ := hf 1 _ rfl
  obtain ⟨y2, h2, -⟩ := hf 2 _ rfl
  obtain ⟨y3, h3, w3⟩ := hf 3 _ rfl
  obtain ⟨y4, h4, -⟩ := hf 4 _ rfl
  obtain ⟨s0, e0, d0, q0⟩ := DataW.trod_string Tryd.underlying9 h0
  obtain ⟨s1, e1, -, q1⟩ := DataW.trod_int Tryd.underlying3 h1
  obtain ⟨s2, e2, -, q2⟩ := DataW.trod_int Tryd.underlying3 h2
  obtain ⟨v, l, e3, hs, hfi, hlen⟩ := rowS_trod h3 w3
  obtain ⟨s4, e4, -⟩ := DataW.trod_bool Tryd.underlying4 h4
  have hk := w0 s0.data.toList.length (by rw [d0]; simp [DataW.weights])
  match cs, hl with
  | [a, b, c, d, e], _ =>
    simp at e0 e1 e2 e3 e4
    subst e0 e1 e2 e3 e4
    refine ⟨⟨d, ⟨s0.toList, s1, s2, l, s4⟩⟩, ?_, hs, hfi, wf64 q1, wf64 q2, ?_, hlen⟩
    · simp [Ent.cells, str_of]
    · rw [toList_len]
      rw [Array.length_toList] at hk
      have : s0.data.size = s0.size := rfl
      rw [this] at hk
      simpa [reachBytes] using hk
set_option maxRecDepth 100000 in
theorem ents_trod (fuel : Nat) (cs : List Value) (x : DataW H × List MemPlace) (h : DataW.trod enc Tryd.prog w base spare held fuel 22 cs = some x) (hw : InReach Tryd.prog 22 x.1) : ∃ p : Value × List Ent, cs = [p.1] ∧ Ents w p.1 p.2 ∧ (∀ y ∈ p.2, FineE y.e) ∧ p.2.length ≤ 2199023255552 := by
  obtain ⟨v, l, e, hs, hq, hb⟩ := open_flatS (f := Ent.cells) (Q := fun c => Sl w c.v c.e.r.length (rowCells c.e.r) ∧ FineE c.e) (size := 5) Ent.cells_len (by omega) Tryd.underlying22 (by kernel_rfl) entry_trod h hw
  exact ⟨⟨v, l⟩, e, ⟨hs, fun c hc => (hq c hc).1⟩, fun c hc => (hq c hc).2, by rw [show Tryd.prog.bytesOf 28 = 64 from by kernel_rfl] at hb; unfold reachBytes at hb; show l.length ≤ _; omega⟩
set_option maxRecDepth 100000 in
theorem buffer_trod (fuel : Nat) (cs : List Value) (x : DataW H × List MemPlace) (h : DataW.trod enc Tryd.prog w base spare held fuel 25 cs = some x) (hw : InReach Tryd.prog 25 x.1) : ∃ b : Buf, cs = [.int .i64 b.limit, b.vm, b.vr] ∧ b.ok w ∧ b.fit := by
  obtain ⟨n, hl, hf⟩ := struct_oneS Tryd.underlying25 (hone_of (by kernel_rfl)) (by kernel_rfl) h hw
  obtain ⟨y0, h0, -⟩ := hf 0 _ rfl
  obtain ⟨y1, h1, w1⟩ := hf 1 _ rfl
  obtain ⟨y2, h2, w2⟩ := hf 2 _ rfl
  obtain ⟨s0, e0, -, q0⟩ := DataW.trod_int Tryd.underlying3 h0
  obtain ⟨⟨v1, l1⟩, e1, k1, f1, g1⟩ := ents_trod _ _ _ h1 w1
  obtain ⟨v2, l2, e2, hs2, hq2, hb2⟩ := open_flatS (f := fun p : Value × List Ent => [p.1]) (Q := fun p => Ents w p.1 p.2 ∧ (∀ y ∈ p.2, FineE y.e) ∧ p.2.length ≤ 2199023255552) (size := 1) (fun _ => rfl) (by omega) Tryd.underlying23 (by kernel_rfl) ents_trod h2 w2
  match cs, hl with
  | [a, b, c], _ =>
    simp at e0 e1 e2
    subst e0 e1 e2
    refine ⟨⟨s0, b, l1, c, l2⟩, rfl, ⟨k1, ?_, fun p hp => (hq2 p hp).1⟩, ⟨wf64 q0, f1, fun p hp => (hq2 p hp).2.1, g1, fun p hp => (hq2 p hp).2.2, by rw [show Tryd.prog.bytesOf 22 = 24 from by kernel_rfl] at hb2; unfold reachBytes at hb2; show l2.length ≤ _; omega⟩⟩
    rw [flat_firsts] at hs2
    exact hs2
end
end Go.Proofs.YteabfalklgffmaaDoor
