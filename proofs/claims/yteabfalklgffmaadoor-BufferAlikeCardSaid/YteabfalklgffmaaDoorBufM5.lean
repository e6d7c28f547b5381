/-
  Plain law of buffers: what is wrong with one; what becomes of it. Plain law of entries: where one stands, or would stand; what is kept. Entries and buffers in memory. The order of two entries' places, in the program and in the reference. May it be an entry? In the program and in the reference.
-/
import Derived.Test.YteabfalklgffmaaDoorBufM4
import Derived.Test.YteabfalklgffmaaDoorValue12
import Derived.Test.YteabfalklgffmaaDoorValue15
import Derived.Test.YteabfalklgffmaaDoorBufOpen0
import Derived.Test.YteabfalklgffmaaDoorBufM2
import Derived.Sort.Grow
import Derived.Test.YteabfalklgffmaaDoorBufM1
set_option linter.unusedSimpArgs false
set_option linter.unusedVariables false
namespace Go.Proofs.YteabfalklgffmaaDoor
open Go.Lib (compareBytes)

/-- A buffer. -/
structure Bu where
  limit : Int
  mem : List En
  runs : List (List En)
def Bu.parts (b : Bu) : List (List En) := b.mem :: b.runs
def Bu.all (b : Bu) : List En := b.parts.flatten
def okE (e : En) : Bool := (keyErr e.r == 0) && ((backR e.key).2 == 0) && inB e.t (-1099511627776) 1099511627776 && inB e.s 0 1099511627776
def upAt (l : List En) (k : Nat) : Bool := match l[k]?, l[k + 1]? with
  | some x, some y => decide (cmpE x y < 0)
  | _, _ => true
def upB (l : List En) : Bool := (List.range l.length).all (upAt l)
theorem upB_iff {l : List En} : upB l = true ↔ Up l := by
  unfold upB
  rw [List.all_eq_true]
  constructor
  · intro h
    induction l with
    | nil => exact .nil
    | cons x t ih =>
      have h1 : ∀ k ∈ List.range t.length, upAt t k = true := fun k hk => by
        have := h (k + 1) (by rw [List.mem_range] at hk ⊢; simp; omega)
        simpa [upAt] using this
      have hU := ih h1
      refine List.pairwise_cons.2 ⟨fun y hy => ?_, hU⟩
      cases t with
      | nil => cases hy
      | cons z u =>
        have h0 : cmpE x z < 0 := by
          have := h 0 (by simp)
          simpa [upAt] using this
        rcases List.mem_cons.1 hy with rfl | hy
        · exact h0
        · exact cmpE_trans h0 ((List.pairwise_cons.1 hU).1 y hy)
  · intro h k _
    unfold upAt
    cases hx : l[k]? with
    | none => rfl
    | some x =>
      cases hy : l[k + 1]? with
      | none => rfl
      | some y =>
        obtain ⟨h1, e1⟩ := List.getElem?_eq_some_iff.1 hx
        obtain ⟨h2, e2⟩ := List.getElem?_eq_some_iff.1 hy
        have := List.pairwise_iff_getElem.1 h k (k + 1) h1 h2 (by omega)
        rw [e1, e2] at this
        exact decide_eq_true this
def aloneB (l : List En) : Bool := (allF [] l).2
theorem aloneB_iff {l : List En} : aloneB l = true ↔ Alone l :=
  ⟨fun h => by have := (allF_yes l [] .nil h).2; simpa using this, fun h => allF_alone l [] .nil (by simpa using h)⟩
/-- All entries, rising. -/
def sortE (l : List En) : List En := (allF [] l).1
theorem sortE_up (l : List En) : Up (sortE l) := allF_up l [] .nil
theorem sortE_perm {l : List En} (h : Alone l) : (sortE l).Perm l := by
  have := (allF_yes l [] .nil (aloneB_iff.2 h)).1
  rwa [List.nil_append] at this
theorem sortE_eq {l m : List En} (h : m.Perm l) (hm : Up m) : sortE l = m :=
  up_perm (sortE_up l) hm ((sortE_perm (alone_perm h hm.alone)).trans h.symm)
/-- What is wrong with a buffer. -/
def checkB (b : Bu) : Int :=
  if inB b.limit 1 64 = false then 3 else if 4096 < b.all.length ∨ b.limit < (b.mem.length : Int) then 2
  else if b.runs.any List.isEmpty = false ∧ b.parts.all upB = true ∧ b.all.all okE = true ∧ aloneB b.all = true then 0 else 1
structure GoodB (b : Bu) : Prop where
  limit : 1 ≤ b.limit ∧ b.limit ≤ 64
  few : b.all.length ≤ 4096
  mem : (b.mem.length : Int) ≤ b.limit
  full : ∀ l ∈ b.runs, l ≠ []
  up : ∀ l ∈ b.parts, Up l
  ok : ∀ e ∈ b.all, okE e = true
  alone : Alone b.all
theorem check_zeroB {b : Bu} : checkB b = 0 ↔ GoodB b := by
  unfold checkB
  cases h1 : inB b.limit 1 64 with
  | false =>
    rw [if_pos rfl]
    refine ⟨fun h => by omega, fun h => ?_⟩
    rw [inB_yes h.limit.1 h.limit.2] at h1
    cases h1
  | true =>
    have hl : 1 ≤ b.limit ∧ b.limit ≤ 64 := by
      refine Decidable.byContradiction fun h => ?_
      rw [inB_no (by omega)] at h1
      cases h1
    rw [if_neg (by simp)]
    by_cases h2 : 4096 < b.all.length ∨ b.limit < (b.mem.length : Int)
    · rw [if_pos h2]
      refine ⟨fun h => by omega, fun h => ?_⟩
      have := h.few
      have := h.mem
      omega
    · rw [if_neg h2]
      by_cases h3 : b.runs.any List.isEmpty = false ∧ b.parts.all upB = true ∧ b.all.all okE = true ∧ aloneB b.all = true
      · rw [if_pos h3]
        refine ⟨fun _ => ⟨hl, by omega, by omega, fun l hl e => ?_, fun l hl => ?_, fun e he => ?_, aloneB_iff.1 h3.2.2.2⟩, fun _ => rfl⟩
        · have := List.any_eq_false.1 h3.1 l hl
          rw [e] at this
          simp at this
        · exact upB_iff.1 (List.all_eq_true.1 h3.2.1 l hl)
        · exact List.all_eq_true.1 h3.2.2.1 e he
      · rw [if_neg h3]
        refine ⟨fun h => by omega, fun h => absurd ⟨?_, ?_, ?_, ?_⟩ h3⟩
        · rw [List.any_eq_false]
          intro l hl
          have := h.full l hl
          cases l <;> simp_all
        · exact List.all_eq_true.2 fun l hl => upB_iff.2 (h.up l hl)
        · exact List.all_eq_true.2 h.ok
        · exact aloneB_iff.2 h.alone
/-- The entries that stay; runs without any are gone. -/
def siftB (b : Bu) (f : En → List En) : Bu := ⟨b.limit, b.mem.flatMap f, (b.runs.map fun l => l.flatMap f).filter fun l => !l.isEmpty⟩
def noB : Bu := ⟨0, [], []⟩
def putB (b : Bu) (e : En) : Bu := if b.limit < ((insE b.mem e).length : Int) then ⟨b.limit, [], b.runs ++ [insE b.mem e]⟩ else ⟨b.limit, insE b.mem e, b.runs⟩
def putE (b : Bu) (e : En) : Int := if okE e = false then 1 else if isE b.all e = true then 10 else if 4096 ≤ b.all.length then 2 else 0
def putS (b : Bu) (e : En) : Bu × Int := if checkB b ≠ 0 then (noB, checkB b) else if putE b e ≠ 0 then (noB, putE b e) else (putB b e, 0)
def atE (key : List UInt8) (t s : Int) (e : En) : Bool := (e.key == key) && (e.t == t) && (e.s == s)
def meetB (b : Bu) (key : List UInt8) (t s : Int) : Bu := siftB b fun e => [if atE key t s e = true then { e with met := true } else e]
def takeB (b : Bu) (key : List UInt8) (t s : Int) : Bu := siftB b fun e => if atE key t s e = true then [] else [e]
def dropB (b : Bu) (upto : Int) : Bu := siftB b fun e => if upto < e.t then [e] else []
def packB (b : Bu) : Bu := ⟨b.limit, [], if sortE b.all = [] then [] else [sortE b.all]⟩
def scanL (b : Bu) (key : List UInt8) (frm upto : Int) : List En := (sortE b.all).filter fun e => (e.key == key) && decide (frm ≤ e.t) && decide (e.t ≤ upto)
end Go.Proofs.YteabfalklgffmaaDoor
namespace Go.Proofs.YteabfalklgffmaaDoor

/-- Where an entry stands, or would stand, among entries that rise. -/
structure PosE (l : List En) (e : En) (i : Nat) : Prop where
  le : i ≤ l.length
  less : ∀ j x, j < i → l[j]? = some x → cmpE x e < 0
  more : ∀ j x, i ≤ j → l[j]? = some x → ¬ cmpE x e < 0
theorem PosE.tail {l : List En} {x e : En} {i : Nat} (h : PosE (x :: l) e (i + 1)) : cmpE x e < 0 ∧ PosE l e i :=
  ⟨h.less 0 x (by omega) rfl, ⟨by have := h.le; simp at this; omega, fun j y hj hy => h.less (j + 1) y (by omega) (by simpa using hy), fun j y hj hy => h.more (j + 1) y (by omega) (by simpa using hy)⟩⟩
theorem insE_at {l : List En} {e : En} {i : Nat} (h : PosE l e i) : insE l e = l.take i ++ e :: l.drop i := by
  induction l generalizing i with
  | nil => simp [insE]
  | cons x t ih =>
    cases i with
    | zero =>
      have := h.more 0 x (by omega) rfl
      rw [insE, if_neg this]
      rfl
    | succ i =>
      obtain ⟨h0, h1⟩ := h.tail
      rw [insE, if_pos h0, ih h1]
      rfl
/-- It is there just where the entry at its place is of its place. -/
theorem isE_at {l : List En} {e : En} {i : Nat} (hU : Up l) (h : PosE l e i) : isE l e = match l[i]? with | some x => decide (cmpE x e = 0) | none => false := by
  induction l generalizing i with
  | nil => simp [isE]
  | cons x t ih =>
    obtain ⟨hx, ht⟩ := List.pairwise_cons.1 hU
    cases i with
    | zero =>
      have h0 := h.more 0 x (by omega) rfl
      have hr : isE t e = false := by
        rw [isE_no]
        intro y hy
        have h1 := hx y hy
        intro h2
        have h3 : cmpE x e = cmpE x y := by
          have := cmpE_same h2 x
          rw [cmpE_flip e x, cmpE_flip y x, this]
        omega
      show (decide (cmpE x e = 0) || isE t e) = _
      rw [hr, Bool.or_false]
      rfl
    | succ i =>
      obtain ⟨h0, h1⟩ := h.tail
      show (decide (cmpE x e = 0) || isE t e) = _
      rw [decide_eq_false (by omega), Bool.false_or, ih ht h1]
      simp
theorem isE_app (a b : List En) (e : En) : isE (a ++ b) e = (isE a e || isE b e) := List.any_append
theorem isE_flat (l : List (List En)) (e : En) : isE l.flatten e = l.any fun x => isE x e := by
  induction l with
  | nil => rfl
  | cons a t ih => rw [List.flatten_cons, isE_app, ih]; rfl
theorem siftB_id {b : Bu} (h : ∀ l ∈ b.runs, l ≠ []) : siftB b (fun e => [e]) = b := by
  obtain ⟨limit, mem, runs⟩ := b
  unfold siftB
  have e1 : ∀ l : List En, l.flatMap (fun e => [e]) = l := fun l => by induction l with
    | nil => rfl
    | cons a t ih => rw [List.flatMap_cons, ih]; rfl
  simp only [e1, List.map_id']
  congr 1
  rw [List.filter_eq_self]
  intro l hl
  have := h l hl
  cases l <;> simp_all
theorem atE_iff {key : List UInt8} {t s : Int} {e : En} (m : Bool) (r : List Val) : atE key t s e = decide (cmpE e ⟨key, t, s, r, m⟩ = 0) := by
  unfold atE
  by_cases h : cmpE e ⟨key, t, s, r, m⟩ = 0
  · rw [decide_eq_true h]
    obtain ⟨h1, h2, h3⟩ := cmpE_zero.1 h
    simp only at h1 h2 h3
    simp [h1, h2, h3]
  · rw [decide_eq_false h]
    cases hb : ((e.key == key) && (e.t == t) && (e.s == s)) with
    | false => rfl
    | true =>
      simp only [Bool.and_eq_true, beq_iff_eq] at hb
      exact absurd (cmpE_zero.2 ⟨hb.1.1, hb.1.2, hb.2⟩) h
end Go.Proofs.YteabfalklgffmaaDoor
namespace Go.Proofs.YteabfalklgffmaaDoor
open Go.RowKit

/-- An entry in memory: its row is a slice of its own. -/
structure Ent where
  v : Value
  e : En
def Ent.cells (x : Ent) : List Value := [.string (str x.e.key), .int .i64 x.e.t, .int .i64 x.e.s, x.v, .bool x.e.met]
theorem Ent.cells_len (x : Ent) : x.cells.length = 5 := rfl
def entCells (l : List Ent) : List Value := l.flatMap Ent.cells
def ens (l : List Ent) : List En := l.map (·.e)
/-- Entries in memory. -/
structure Ents (w : World) (v : Value) (l : List Ent) : Prop where
  sl : Sl w v l.length (entCells l)
  rows : ∀ x ∈ l, Sl w x.v x.e.r.length (rowCells x.e.r)
theorem Ents.below {w w' : World} {v : Value} {l : List Ent} (h : Ents w v l) (hb : Below w.heap.size w w') : Ents w' v l := ⟨h.sl.below hb, fun c hc => (h.rows c hc).below hb⟩
theorem Ents.drew {w : World} {v : Value} {l : List Ent} (h : Ents w v l) : Ents w.drew v l := ⟨h.sl, h.rows⟩
theorem Ents.nil (w : World) : Ents w (.slice none 0 0) [] := ⟨Sl.nil_ w, nofun⟩
/-- What an entry that came in may be. -/
structure FineE (e : En) : Prop where
  row : Fine e.r
  time : -9223372036854775808 ≤ e.t ∧ e.t ≤ 9223372036854775807
  seq : -9223372036854775808 ≤ e.s ∧ e.s ≤ 9223372036854775807
  key : e.key.length ≤ 140737488351232
  len : e.r.length ≤ 4398046511104
theorem ent_at {w : World} {l : List Ent} {v : Value} (h : Sl w v l.length (entCells l)) {A : Option Addr} {n c : Nat} (hv : v = .slice A n c) {k : Nat} {x : Ent} (hk : l[k]? = some x) :
    ∃ b off, A = some ⟨b, off, none⟩ ∧ b < w.heap.size ∧ ∀ w', Below w.heap.size w w' →
      w'.cell? ⟨b, off + k * 5, none⟩ = some (.string (str x.e.key)) ∧ w'.cell? ⟨b, off + k * 5 + 1, none⟩ = some (.int .i64 x.e.t) ∧ w'.cell? ⟨b, off + k * 5 + 2, none⟩ = some (.int .i64 x.e.s) ∧
      w'.cell? ⟨b, off + k * 5 + 3, none⟩ = some x.v ∧ w'.cell? ⟨b, off + k * 5 + 4, none⟩ = some (.bool x.e.met) := by
  obtain ⟨A', c', hv', h1, h2, -, h3⟩ := h
  rw [hv] at hv'
  injection hv' with e1 e2 e3
  subst e1
  have a0 := flat_at Ent.cells_len l k 0 (by omega)
  have a1 := flat_at Ent.cells_len l k 1 (by omega)
  have a2 := flat_at Ent.cells_len l k 2 (by omega)
  have a3 := flat_at Ent.cells_len l k 3 (by omega)
  have a4 := flat_at Ent.cells_len l k 4 (by omega)
  rw [hk] at a0 a1 a2 a3 a4
  simp only [Option.bind_some, Nat.add_zero] at a0 a1 a2 a3 a4
  obtain ⟨b, off, hA, hc⟩ := h3 (by intro h0; rw [show l.flatMap Ent.cells = entCells l from rfl, h0] at a0; simp [Ent.cells] at a0)
  have c0 := hc _ _ a0
  have c1 := hc _ _ a1
  have c2 := hc _ _ a2
  have c3 := hc _ _ a3
  have c4 := hc _ _ a4
  exact ⟨b, off, hA, World.block_lt_of_cell? w _ c0, fun w' hb => ⟨cell_below hb c0, cell_below hb c1, cell_below hb c2, cell_below hb c3, cell_below hb c4⟩⟩
theorem flat_firsts {α : Type} (l : List (Value × α)) : (l.flatMap fun p => [p.1]) = l.map (·.1) := by
  induction l with
  | nil => rfl
  | cons p t ih => rw [List.flatMap_cons, ih]; rfl
/-- A buffer in memory. -/
structure Buf where
  limit : Int
  vm : Value
  mem : List Ent
  vr : Value
  runs : List (Value × List Ent)
def Buf.bu (b : Buf) : Bu := ⟨b.limit, ens b.mem, b.runs.map fun p => ens p.2⟩
structure Buf.ok (w : World) (b : Buf) : Prop where
  mem : Ents w b.vm b.mem
  sl : Sl w b.vr b.runs.length (b.runs.map (·.1))
  runs : ∀ p ∈ b.runs, Ents w p.1 p.2
theorem Buf.ok.below {w w' : World} {b : Buf} (h : b.ok w) (hb : Below w.heap.size w w') : b.ok w' := ⟨h.mem.below hb, h.sl.below hb, fun p hp => (h.runs p hp).below hb⟩
structure Buf.fit (b : Buf) : Prop where
  limit : -9223372036854775808 ≤ b.limit ∧ b.limit ≤ 9223372036854775807
  mem : ∀ x ∈ b.mem, FineE x.e
  runs : ∀ p ∈ b.runs, ∀ x ∈ p.2, FineE x.e
  lmem : b.mem.length ≤ 2199023255552
  lruns : ∀ p ∈ b.runs, p.2.length ≤ 2199023255552
  lnum : b.runs.length ≤ 5864062014806

section
open Go.ChangeShapes Go.WideShapes Go.Deep
variable {H : Type} {enc : TypeId × Value → H} {w : World} {base : Nat} {spare : Nat → Bool} {held : Bool}
theorem wf64 {n : Int} (h : (Lit.int .i64 n).wf = true) : -9223372036854775808 ≤ n ∧ n ≤ 9223372036854775807 := by
  have h' : IntKind.i64.min ≤ n ∧ n ≤ 9223372036854775807 := by simpa [Lit.wf] using h
  have e : IntKind.i64.min = -9223372036854775808 := by decide
  rw [e] at h'
  exact h'
set_option maxRecDepth 100000 in
theorem valS_trod (fuel : Nat) (cs : List Value) (x : DataW H × List MemPlace) (h : DataW.trod enc Tryd.prog w base spare held fuel 82 cs = some x) (hw : InReach Tryd.prog 82 x.1) : ∃ v : Val, cs = v.cells ∧ v.ok := by
  have hC : Tryd.prog.cellsOf 82 = 3 := by kernel_rfl
  have hi : Tryd.prog.cellsOf 3 = 1 := by kernel_rfl
  have hs : Tryd.prog.cellsOf 9 = 1 := by kernel_rfl
  obtain ⟨y0, y1, y2, n, -, hl, h0, h1, h2⟩ := Go.Deep.trod_struct3 Tryd.underlying82 h
  rw [hC] at hl
  simp only [hs, hi] at h0 h1 h2
  obtain ⟨s0, e0, -, q0⟩ := DataW.trod_int Tryd.underlying3 h0
  obtain ⟨s1, e1, -, q1⟩ := DataW.trod_int Tryd.underlying3 h1
  obtain ⟨s2, e2, -, q2⟩ := DataW.trod_string Tryd.underlying9 h2
  match cs, hl with
  | [a, b, c], _ =>
    simp at e0 e1 e2
    subst e0 e1 e2
    have b0 := wf64 q0
    have b1 := wf64 q1
    unfold maxLen at q2
    exact ⟨⟨s0, s1, s2⟩, rfl, b0.1, b0.2, b1.1, b1.2, q2⟩
set_option maxRecDepth 100000 in
theorem rowS_trod {fuel : Nat} {cs : List Value} {x : DataW H × List MemPlace} (h : DataW.trod enc Tryd.prog w base spare held fuel 26 cs = some x) (hw : InReach Tryd.prog 26 x.1) : ∃ (v : Value) (l : List Val), cs = [v] ∧ Sl w v l.length (rowCells l) ∧ Fine l ∧ l.length ≤ 4398046511104 := by
  obtain ⟨v, l, e, hs, hq, hb⟩ := open_flatS (f := Val.cells) (Q := Val.ok) (size := 3) Val.cells_len (by omega) Tryd.underlying26 (by kernel_rfl) valS_trod h hw
  exact ⟨v, l, e, hs, ⟨fun x hx => (hq x hx).2.2.2.2, fun x hx => ⟨(hq x hx).2.2.1, (hq x hx).2.2.2.1⟩⟩, by rw [show Tryd.prog.bytesOf 82 = 32 from by kernel_rfl] at hb; unfold reachBytes at hb; omega⟩
set_option maxRecDepth 100000 in
theorem entry_trod (fuel : Nat) (cs : List Value) (x : DataW H × List MemPlace) (h : DataW.trod enc Tryd.prog w base spare held fuel 28 cs = some x) (hw : InReach Tryd.prog 28 x.1) : ∃ c : Ent, cs = c.cells ∧ Sl w c.v c.e.r.length (rowCells c.e.r) ∧ FineE c.e := by
  obtain ⟨n, hl, hf⟩ := struct_oneS Tryd.underlying28 (hone_of (by kernel_rfl)) (by kernel_rfl) h hw
  obtain ⟨y0, h0, w0⟩ := hf 0 _ rfl
  obtain ⟨y1, h1, -⟩ := hf 1 _ rfl
  obtain ⟨y2, h2, -⟩ := hf 2 _ rfl
  obtain ⟨y3, h3, w3⟩ := hf 3 _ rfl
  obtain ⟨y4, h4, -⟩ := hf 4 _ rfl
  obtain ⟨s0, e0, d0, q0⟩ := DataW.trod_string Tryd.underlying9 h0
  obtain ⟨s1, e1, -, q1⟩ := DataW.trod_int Tryd.underlying3 h1
  obtain ⟨s2, e2, -, q2⟩ := DataW.trod_int Tryd.underlying3 h2
  obtain ⟨v, l, e3, hs, hfi, hlen⟩ := rowS_trod h3 w3
  obtain ⟨s4, e4, -⟩ := DataW.trod_bool Tryd.underlying4 h4
  have hk := w0 s0.data.toList.length (by rw [d0]; simp [DataW.weights])
  match cs, hl with
  | [a, b, c, d, e], _ =>
    simp at e0 e1 e2 e3 e4
    subst e0 e1 e2 e3 e4
    refine ⟨⟨d, ⟨s0.toList, s1, s2, l, s4⟩⟩, ?_, hs, hfi, wf64 q1, wf64 q2, ?_, hlen⟩
    · simp [Ent.cells, str_of]
    · rw [toList_len]
      rw [Array.length_toList] at hk
      have : s0.data.size = s0.size := rfl
      rw [this] at hk
      simpa [reachBytes] using hk
set_option maxRecDepth 100000 in
theorem ents_trod (fuel : Nat) (cs : List Value) (x : DataW H × List MemPlace) (h : DataW.trod enc Tryd.prog w base spare held fuel 22 cs = some x) (hw : InReach Tryd.prog 22 x.1) : ∃ p : Value × List Ent, cs = [p.1] ∧ Ents w p.1 p.2 ∧ (∀ y ∈ p.2, FineE y.e) ∧ p.2.length ≤ 2199023255552 := by
  obtain ⟨v, l, e, hs, hq, hb⟩ := open_flatS (f := Ent.cells) (Q := fun c => Sl w c.v c.e.r.length (rowCells c.e.r) ∧ FineE c.e) (size := 5) Ent.cells_len (by omega) Tryd.underlying22 (by kernel_rfl) entry_trod h hw
  exact ⟨⟨v, l⟩, e, ⟨hs, fun c hc => (hq c hc).1⟩, fun c hc => (hq c hc).2, by rw [show Tryd.prog.bytesOf 28 = 64 from by kernel_rfl] at hb; unfold reachBytes at hb; show l.length ≤ _; omega⟩
set_option maxRecDepth 100000 in
theorem buffer_trod (fuel : Nat) (cs : List Value) (x : DataW H × List MemPlace) (h : DataW.trod enc Tryd.prog w base spare held fuel 25 cs = some x) (hw : InReach Tryd.prog 25 x.1) : ∃ b : Buf, cs = [.int .i64 b.limit, b.vm, b.vr] ∧ b.ok w ∧ b.fit := by
  obtain ⟨n, hl, hf⟩ := struct_oneS Tryd.underlying25 (hone_of (by kernel_rfl)) (by kernel_rfl) h hw
  obtain ⟨y0, h0, -⟩ := hf 0 _ rfl
  obtain ⟨y1, h1, w1⟩ := hf 1 _ rfl
  obtain ⟨y2, h2, w2⟩ := hf 2 _ rfl
  obtain ⟨s0, e0, -, q0⟩ := DataW.trod_int Tryd.underlying3 h0
  obtain ⟨⟨v1, l1⟩, e1, k1, f1, g1⟩ := ents_trod _ _ _ h1 w1
  obtain ⟨v2, l2, e2, hs2, hq2, hb2⟩ := open_flatS (f := fun p : Value × List Ent => [p.1]) (Q := fun p => Ents w p.1 p.2 ∧ (∀ y ∈ p.2, FineE y.e) ∧ p.2.length ≤ 2199023255552) (size := 1) (fun _ => rfl) (by omega) Tryd.underlying23 (by kernel_rfl) ents_trod h2 w2
  match cs, hl with
  | [a, b, c], _ =>
    simp at e0 e1 e2
    subst e0 e1 e2
    refine ⟨⟨s0, b, l1, c, l2⟩, rfl, ⟨k1, ?_, fun p hp => (hq2 p hp).1⟩, ⟨wf64 q0, f1, fun p hp => (hq2 p hp).2.1, g1, fun p hp => (hq2 p hp).2.2, by rw [show Tryd.prog.bytesOf 22 = 24 from by kernel_rfl] at hb2; unfold reachBytes at hb2; show l2.length ≤ _; omega⟩⟩
    rw [flat_firsts] at hs2
    exact hs2
end
end Go.Proofs.YteabfalklgffmaaDoor
namespace Go.Proofs.YteabfalklgffmaaDoor
open Go.RowKit
open Go.Lib (compareBytes)

def Ent.agg (x : Ent) : Value := .agg #[.string (str x.e.key), .int .i64 x.e.t, .int .i64 x.e.s, x.v, .bool x.e.met]
theorem cmpE_first (a b : En) : firstNZ [compareBytes a.key b.key, ordI a.t b.t, ordI a.s b.s] = cmpE a b := by
  unfold cmpE firstNZ
  by_cases h1 : compareBytes a.key b.key = 0
  · by_cases h2 : ordI a.t b.t = 0
    · by_cases h3 : ordI a.s b.s = 0
      · simp [h1, h2, h3]
      · simp [h1, h2, h3]
    · simp [h1, h2]
  · simp [h1]

set_option maxHeartbeats 2000000 in
set_option maxRecDepth 10000 in
theorem or_any (v : Value) (l : List Int) (w : World) (h : Sl w v l.length (intCells l)) :
    Calls Tryd.prog 43 #[v] w fun e w' => e = .returned (.int .i64 (firstNZ l)) ∧ w = w' := by
  have HH := Lib.hid h
  obtain ⟨A, c, rfl, h1, h2, -⟩ := h
  unfold maxLen at h2
  go_enter Tryd.func43, Tryd.ntmps43
  go_wp2
  go_loop [5, 8] (fun _ i => ∃ k : Nat, k ≤ l.length ∧ i = .int .i64 k ∧ Hid (∀ x ∈ l.take k, x = 0)) (fun _ i => l.length - (intOf i).toNat)
  case atStart => exact ⟨0, by omega, rfl, by simp [Hid]⟩
  case round =>
    obtain ⟨k, hk, rfl, H⟩ := hrel
    by_cases hlt : k < l.length
    · obtain ⟨b, off, rfl, -, hc⟩ := int_at HH.out rfl hlt
      have c1 := hc w (Below.refl _ _)
      have hg : l[k]? = some (l.getD k 0) := by simp [hlt]
      generalize l.getD k 0 = n at c1 hg
      have HG := Lib.hid hg
      clear hg hc
      by_cases hn : n = 0
      · subst hn
        go_wp2
        go_round
        case rel =>
          refine ⟨k + 1, by omega, by go_num, ?_⟩
          show ∀ x ∈ l.take (k + 1), x = 0
          rw [List.take_add_one, HG.out]
          intro x hx
          rcases List.mem_append.1 hx with hx | hx
          · exact H.out x hx
          · simpa using hx
        case measure => simp [intOf]; omega
      · have hb := beqF hn
        have e1 := Lib.hid (firstNZ_hit H.out HG.out hn)
        clear hn
        go_wp2
        go_ret
        exact ⟨by rw [e1.out]; rfl, rfl⟩
    · obtain rfl : k = l.length := by omega
      have e1 := Lib.hid (firstNZ_none (l := l) (by have := H.out; simpa using this))
      go_wp2
      go_ret
      exact ⟨by rw [e1.out]; rfl, rfl⟩

set_option maxHeartbeats 2000000 in
set_option maxRecDepth 10000 in
theorem order_grow (a b : Ent) (w : World) :
    Calls Tryd.prog 23 #[a.agg, b.agg] w fun e w' => e = .returned (.int .i64 (cmpE a.e b.e)) ∧ ∃ q os', w' = Sort.grow (w.drewN q) os' := by
  have EC := Lib.hid (cmpE_first a.e b.e)
  have EK := Lib.hid (show compareBytes (str a.e.key).data.toList (str b.e.key).data.toList = compareBytes a.e.key b.e.key from rfl)
  obtain ⟨av, ⟨ak, at_, as_, ar, am⟩⟩ := a
  obtain ⟨bv, ⟨bk, bt, bs, br, bm⟩⟩ := b
  unfold Ent.agg
  simp only at EC EK ⊢
  generalize hkc : compareBytes ak bk = kc at EC EK
  generalize str ak = sa at EK ⊢
  generalize str bk = sb at EK ⊢
  generalize cmpE ⟨ak, at_, as_, ar, am⟩ ⟨bk, bt, bs, br, bm⟩ = c at EC ⊢
  clear hkc
  have B0 := new_first w 28 #[.string sa, .int .i64 at_, .int .i64 as_, av, .bool am] (.cells #[.string sb, .int .i64 bt, .int .i64 bs, bv, .bool bm] 28)
  have B1 := new_second w 28 #[.string sb, .int .i64 bt, .int .i64 bs, bv, .bool bm] (.cells #[.string sa, .int .i64 at_, .int .i64 as_, av, .bool am] 28)
  have hB := below_trans (below_alloc w (.cells #[.string sa, .int .i64 at_, .int .i64 as_, av, .bool am] 28)) (below_alloc _ (.cells #[.string sb, .int .i64 bt, .int .i64 bs, bv, .bool bm] 28))
  have HX := Lib.hid (show Sl (((w.alloc (.cells #[.string sa, .int .i64 at_, .int .i64 as_, av, .bool am] 28)).alloc (.cells #[.string sb, .int .i64 bt, .int .i64 bs, bv, .bool bm] 28)).alloc (.cells #[.int .i64 kc, .int .i64 (ordI at_ bt), .int .i64 (ordI as_ bs)] 3)) (.slice (some ⟨w.heap.size + 1 + 1, 0, none⟩) 3 3) 3 (intCells [kc, ordI at_ bt, ordI as_ bs]) from by
    have := Sl.block (Blk.new ((w.alloc (.cells #[.string sa, .int .i64 at_, .int .i64 as_, av, .bool am] 28)).alloc (.cells #[.string sb, .int .i64 bt, .int .i64 bs, bv, .bool bm] 28)) 3 #[.int .i64 kc, .int .i64 (ordI at_ bt), .int .i64 (ordI as_ bs)]) 3 3 (Nat.le_refl _) (by decide)
    simpa [intCells] using this)
  go_enter Tryd.func23, Tryd.ntmps23
  go_wp2_with fail
  go_region_held3 (fun w' => w'.cell? ⟨w.heap.size, 0, none⟩ = some (.string sa) ∧ w'.cell? ⟨w.heap.size, 1, none⟩ = some (.int .i64 at_) ∧ w'.cell? ⟨w.heap.size, 2, none⟩ = some (.int .i64 as_) ∧
      w'.cell? ⟨w.heap.size + 1, 0, none⟩ = some (.string sb) ∧ w'.cell? ⟨w.heap.size + 1, 1, none⟩ = some (.int .i64 bt) ∧ w'.cell? ⟨w.heap.size + 1, 2, none⟩ = some (.int .i64 bs))
    (go_keep)
    (first
      | (go_at_call 45; refine (cmp_any _ _ _).mono ?_; rintro e w1 ⟨rfl, rfl⟩)
      | (go_at_call 44; refine (Tryd.strings_Compare _ _ _).mono ?_; rw [EK.out]; rintro e w1 ⟨rfl, rfl⟩)
      | (go_at_call 43; refine (or_any _ [kc, ordI at_ bt, ordI as_ bs] _ HX.out.drew).mono ?_; rw [EC.out]; rintro e w1 ⟨rfl, rfl⟩))
  all_goals
    go_wp2
    go_ret
    exact ⟨rfl, 1, _, by rw [Sort.alloc_eq_grow, Sort.alloc_eq_grow, Sort.alloc_eq_grow, Sort.grow_grow, Sort.grow_grow]; rfl⟩
theorem below_growN (w : World) (q : Nat) (os : Array Obj) : Below w.heap.size w (Sort.grow (w.drewN q) os) := ⟨rfl, rfl, rfl, by simp, fun k hk => Sort.heap_grow_old (w.drewN q) os hk⟩
theorem order_ent (a b : Ent) (w : World) :
    Calls Tryd.prog 23 #[a.agg, b.agg] w fun e w' => e = .returned (.int .i64 (cmpE a.e b.e)) ∧ Below w.heap.size w w' :=
  (order_grow a b w).mono fun _ _ ⟨he, q, os, hw⟩ => ⟨he, hw ▸ below_growN w q os⟩

set_option maxHeartbeats 2000000 in
set_option maxRecDepth 10000 in
theorem place_ent (a b : Ent) (w : World) :
    Calls Tryd.prog 37 #[a.agg, b.agg] w fun e w' => e = .returned (.int .i64 (cmpE a.e b.e)) ∧ Below w.heap.size w w' := by
  have EK := Lib.hid (show compareBytes a.e.key b.e.key = cmpB (str a.e.key) (str b.e.key) from compare_eq (str a.e.key) (str b.e.key))
  have EC : Hid (cmpE a.e b.e = if compareBytes a.e.key b.e.key ≠ 0 then compareBytes a.e.key b.e.key else if ordI a.e.t b.e.t ≠ 0 then ordI a.e.t b.e.t else ordI a.e.s b.e.s) := Lib.hid rfl
  obtain ⟨av, ⟨ak, at_, as_, ar, am⟩⟩ := a
  obtain ⟨bv, ⟨bk, bt, bs, br, bm⟩⟩ := b
  unfold Ent.agg
  simp only at EC EK ⊢
  rw [EK.out] at EC
  generalize str ak = sa at EK EC ⊢
  generalize str bk = sb at EK EC ⊢
  generalize cmpE ⟨ak, at_, as_, ar, am⟩ ⟨bk, bt, bs, br, bm⟩ = c at EC ⊢
  have hB := below_trans (below_alloc w (.cells #[.string sa, .int .i64 at_, .int .i64 as_, av, .bool am] 28)) (below_alloc _ (.cells #[.string sb, .int .i64 bt, .int .i64 bs, bv, .bool bm] 28))
  cases h5 : sa.toList == sb.toList
  · cases h4 : Op.bytesLess sa.toList sb.toList
    · have e2 := Lib.hid (show c = 1 from by
        have : cmpB sa sb = 1 := by unfold cmpB; rw [h4, h5]; rfl
        rw [EC.out, this, if_pos (by omega)])
      clear EC EK
      go_enter Tryd.func37, Tryd.ntmps37
      go_wp2
      go_ret
      exact ⟨by rw [e2.out]; rfl, hB⟩
    · have e2 := Lib.hid (show c = -1 from by
        have : cmpB sa sb = -1 := by unfold cmpB; rw [h4]; rfl
        rw [EC.out, this, if_pos (by omega)])
      clear EC EK
      go_enter Tryd.func37, Tryd.ntmps37
      go_wp2
      go_ret
      exact ⟨by rw [e2.out]; rfl, hB⟩
  · have e0 : cmpB sa sb = 0 := by
      have h6 : sa.toList = sb.toList := by simpa using h5
      unfold cmpB
      rw [h6, show Op.bytesLess sb.toList sb.toList = false from by
        have := cmpB_eq sb.toList sb.toList
        rw [cb_self] at this
        cases hh : Op.bytesLess sb.toList sb.toList with
        | false => rfl
        | true => rw [hh] at this; simp at this]
      simp
    have EC2 : Hid (c = if ordI at_ bt ≠ 0 then ordI at_ bt else ordI as_ bs) := Lib.hid (EC.out.trans (if_neg (fun h => h e0)))
    clear EC EK e0
    by_cases h2 : ordI at_ bt = 0
    · have e2 := Lib.hid (EC2.out.trans (if_neg (fun h => h h2)))
      have hb2 : (ordI at_ bt != 0) = false := by rw [h2]; rfl
      clear EC2 h2
      go_enter Tryd.func37, Tryd.ntmps37
      go_wp2_with (go_at_call 54; refine (order_any _ _ _).mono ?_; rintro e w' ⟨rfl, rfl⟩)
      go_ret
      exact ⟨by rw [e2.out]; rfl, hB⟩
    · have e2 := Lib.hid (EC2.out.trans (if_pos h2))
      have hb2 := bneT h2
      clear EC2 h2
      go_enter Tryd.func37, Tryd.ntmps37
      go_wp2_with (go_at_call 54; refine (order_any _ _ _).mono ?_; rintro e w' ⟨rfl, rfl⟩)
      go_ret
      exact ⟨by rw [e2.out]; rfl, hB⟩
end Go.Proofs.YteabfalklgffmaaDoor
namespace Go.Proofs.YteabfalklgffmaaDoor
open Go.RowKit
open tm (fitsB fits_any rfits_any)

theorem back_some (l : List UInt8) : ((backR l).2 == 0) = (decG 8 l).isSome := by
  unfold backR
  cases decG 8 l <;> rfl
theorem fitsB_in (t : Int) : fitsB t = inB t (-1099511627776) 1099511627776 := rfl
theorem keyR_err (l : List Val) : (keyR l).2 = keyErr l := by
  unfold keyR
  split
  · rfl
  · rename_i h; simpa using (Classical.not_not.1 h).symm

set_option maxHeartbeats 2000000 in
set_option maxRecDepth 10000 in
theorem fine_ent (x : Ent) (w : World) (hs : Sl w x.v x.e.r.length (rowCells x.e.r)) (hf : FineE x.e) (hm : Mx w) :
    Calls Tryd.prog 17 #[x.agg] w fun e w' => e = .returned (.bool (okE x.e)) ∧ Below w.heap.size w w' := by
  have HS := Lib.hid hs
  have HF := Lib.hid hf
  have HM := Lib.hid hm
  have HO : Hid (okE x.e = ((keyErr x.e.r == 0) && ((backR x.e.key).2 == 0) && inB x.e.t (-1099511627776) 1099511627776 && inB x.e.s 0 1099511627776)) := Lib.hid rfl
  have ht := hf.time
  have hq := hf.seq
  obtain ⟨xv, ⟨xk, xt, xs, xr, xm⟩⟩ := x
  unfold Ent.agg
  simp only at hs HS HF HO ht hq ⊢
  generalize okE ⟨xk, xt, xs, xr, xm⟩ = c at HO ⊢
  obtain ⟨A, cp, rfl, -⟩ := id hs
  clear hs hf hm
  have HK := Lib.hid (Blk.new w 28 #[.string (str xk), .int .i64 xt, .int .i64 xs, .slice A xr.length cp, .bool xm])
  have hB := below_alloc w (.cells #[.string (str xk), .int .i64 xt, .int .i64 xs, .slice A xr.length cp, .bool xm] 28)
  have hkl : (str xk).size ≤ 4611686018427387904 := by rw [str_size]; have h : xk.length ≤ 140737488351232 := HF.out.key; omega
  have HX := Lib.hid (keyR_err xr)
  have HY := Lib.hid (show (backR (str xk).toList).2 = (backR xk).2 by rw [str_toList])
  go_enter Tryd.func17, Tryd.ntmps17
  go_wp2_with fail
  refine (key_any _ xr _ (HS.out.below hB) HF.out.row (HM.out.below hB)).mono ?_
  rw [HX.out]
  rintro e w1 ⟨rfl, hb1⟩
  have hB1 := below_trans hB hb1
  have K1 := HK.out.below hb1
  have y0 := K1.cell 0 _ rfl
  have HK1 := Lib.hid K1
  clear K1 hb1
  go_wp2_with fail
  refine (back_any2 _ _ hkl).mono ?_
  rw [HY.out]
  rintro e w2 ⟨vb, rfl, -, -, hb2⟩
  have hB2 := below_trans hB1 hb2
  have K2 := HK1.out.below hb2
  have z1 := K2.cell 1 _ rfl
  have z2 := K2.cell 2 _ rfl
  clear y0 hb2 K2
  generalize keyErr xr = a at HO
  generalize (backR xk).2 = b at HO
  by_cases ha : a = 0
  · by_cases hb : b = 0
    · subst ha hb
      by_cases h1 : -1099511627776 ≤ xt ∧ xt ≤ 1099511627776
      · have hfi : fitsB xt = true := tm.fits_yes h1.1 h1.2
        by_cases h2 : 0 ≤ xs
        · by_cases h3 : xs ≤ 1099511627776
          · have EE := Lib.hid (show c = true by rw [HO.out, inB_yes h1.1 h1.2, inB_yes h2 h3]; rfl)
            clear HO
            go_wp2_with (go_at_call 41; refine (fits_any _ _).mono ?_; rw [hfi]; rintro e w3 ⟨rfl, rfl⟩)
            go_ret
            exact ⟨by rw [EE.out]; rfl, hB2⟩
          · have EE := Lib.hid (show c = false by rw [HO.out, inB_no (n := xs) (by omega), Bool.and_false])
            have h3b : decide (xs ≤ 1099511627776) = false := decide_eq_false h3
            clear HO
            go_wp2_with (go_at_call 41; refine (fits_any _ _).mono ?_; rw [hfi]; rintro e w3 ⟨rfl, rfl⟩)
            go_ret
            exact ⟨by rw [EE.out]; rfl, hB2⟩
        · have EE := Lib.hid (show c = false by rw [HO.out, inB_no (n := xs) (by omega), Bool.and_false])
          clear HO
          go_wp2_with (go_at_call 41; refine (fits_any _ _).mono ?_; rw [hfi]; rintro e w3 ⟨rfl, rfl⟩)
          go_ret
          exact ⟨by rw [EE.out]; rfl, hB2⟩
      · have hfi : fitsB xt = false := by rw [fitsB_in, inB_no (by omega)]
        have EE := Lib.hid (show c = false by rw [HO.out, inB_no (n := xt) (by omega)]; simp)
        clear HO
        go_wp2_with (go_at_call 41; refine (fits_any _ _).mono ?_; rw [hfi]; rintro e w3 ⟨rfl, rfl⟩)
        go_ret
        exact ⟨by rw [EE.out]; rfl, hB2⟩
    · have hb' := beqF hb
      have EE := Lib.hid (show c = false by rw [HO.out, hb']; simp)
      subst ha
      clear HO hb
      go_wp2
      go_ret
      exact ⟨by rw [EE.out]; rfl, hB2⟩
  · have ha' := beqF ha
    have EE := Lib.hid (show c = false by rw [HO.out, ha']; simp)
    clear HO ha
    go_wp2
    go_ret
    exact ⟨by rw [EE.out]; rfl, hB2⟩

set_option maxHeartbeats 2000000 in
set_option maxRecDepth 10000 in
theorem rfine_ent (x : Ent) (w : World) (hs : Sl w x.v x.e.r.length (rowCells x.e.r)) (hf : FineE x.e) :
    Calls Tryd.prog 29 #[x.agg] w fun e w' => e = .returned (.bool (okE x.e)) ∧ Below w.heap.size w w' := by
  have HS := Lib.hid hs
  have HF := Lib.hid hf
  have HO : Hid (okE x.e = ((keyErr x.e.r == 0) && (decG 8 x.e.key).isSome && inB x.e.t (-1099511627776) 1099511627776 && inB x.e.s 0 1099511627776)) := Lib.hid (by rw [← back_some]; rfl)
  have ht := hf.time
  have hq := hf.seq
  obtain ⟨xv, ⟨xk, xt, xs, xr, xm⟩⟩ := x
  unfold Ent.agg
  simp only at hs HS HF HO ht hq ⊢
  generalize okE ⟨xk, xt, xs, xr, xm⟩ = c at HO ⊢
  obtain ⟨A, cp, rfl, -⟩ := id hs
  clear hs hf
  have HK := Lib.hid (Blk.new w 28 #[.string (str xk), .int .i64 xt, .int .i64 xs, .slice A xr.length cp, .bool xm])
  have hB := below_alloc w (.cells #[.string (str xk), .int .i64 xt, .int .i64 xs, .slice A xr.length cp, .bool xm] 28)
  have hkl : (str xk).size ≤ 140737488355328 := by rw [str_size]; have h : xk.length ≤ 140737488351232 := HF.out.key; omega
  have HY := Lib.hid (show decG 8 (str xk).toList = decG 8 xk by rw [str_toList])
  by_cases h1 : -1099511627776 ≤ xt ∧ xt ≤ 1099511627776
  · have hfi : fitsB xt = true := tm.fits_yes h1.1 h1.2
    by_cases h2 : 0 ≤ xs
    · by_cases h3 : xs ≤ 1099511627776
      · have HO2 : Hid (c = ((keyErr xr == 0) && (decG 8 xk).isSome)) := Lib.hid (by rw [HO.out, inB_yes h1.1 h1.2, inB_yes h2 h3]; simp)
        clear HO
        go_enter Tryd.func29, Tryd.ntmps29
        go_wp2_with (go_at_call 49; refine (rfits_any _ _).mono ?_; rw [hfi]; rintro e w3 ⟨rfl, rfl⟩)
        refine (keyError_any _ xr _ (HS.out.below hB) HF.out.row.small).mono ?_
        rintro e w1 ⟨rfl, hb1⟩
        have hB1 := below_trans hB hb1
        have y0 := (HK.out.below hb1).cell 0 _ rfl
        clear hb1
        generalize keyErr xr = a at HO2
        by_cases ha : a = 0
        · subst ha
          have EE := Lib.hid (show c = (decG 8 xk).isSome by rw [HO2.out]; simp)
          clear HO2
          go_wp2_with fail
          refine (rback_any _ _ hkl).mono ?_
          rw [HY.out]
          rintro e w2 ⟨vb, rfl, -, hb2⟩
          have hB2 := below_trans hB1 hb2
          go_wp2
          go_ret
          exact ⟨by rw [EE.out]; rfl, hB2⟩
        · have ha' := beqF ha
          have EE := Lib.hid (show c = false by rw [HO2.out, ha']; simp)
          have ha2 := bneT ha
          clear HO2 ha
          go_wp2
          go_ret
          exact ⟨by rw [EE.out]; rfl, hB1⟩
      · have EE := Lib.hid (show c = false by rw [HO.out, inB_no (n := xs) (by omega), Bool.and_false])
        clear HO
        go_enter Tryd.func29, Tryd.ntmps29
        go_wp2_with (go_at_call 49; refine (rfits_any _ _).mono ?_; rw [hfi]; rintro e w3 ⟨rfl, rfl⟩)
        go_ret
        exact ⟨by rw [EE.out]; rfl, hB⟩
    · have EE := Lib.hid (show c = false by rw [HO.out, inB_no (n := xs) (by omega), Bool.and_false])
      clear HO
      go_enter Tryd.func29, Tryd.ntmps29
      go_wp2_with (go_at_call 49; refine (rfits_any _ _).mono ?_; rw [hfi]; rintro e w3 ⟨rfl, rfl⟩)
      go_ret
      exact ⟨by rw [EE.out]; rfl, hB⟩
  · have hfi : fitsB xt = false := by rw [fitsB_in, inB_no (by omega)]
    have EE := Lib.hid (show c = false by rw [HO.out, inB_no (n := xt) (by omega)]; simp)
    clear HO
    go_enter Tryd.func29, Tryd.ntmps29
    go_wp2_with (go_at_call 49; refine (rfits_any _ _).mono ?_; rw [hfi]; rintro e w3 ⟨rfl, rfl⟩)
    go_ret
    exact ⟨by rw [EE.out]; rfl, hB⟩
end Go.Proofs.YteabfalklgffmaaDoor
