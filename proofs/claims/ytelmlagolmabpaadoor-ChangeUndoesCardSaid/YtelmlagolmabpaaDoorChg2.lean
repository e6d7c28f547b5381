/-
  Views: in memory; Check, and the reference's CheckView.
-/
import Derived.Test.YtelmlagolmabpaaDoorChgLaw1
import Derived.Test.YtelmlagolmabpaaDoorValue9
import Derived.Test.YtelmlagolmabpaaDoorPlan2
set_option linter.unusedSimpArgs false
set_option linter.unusedVariables false
namespace Go.Proofs.YtelmlagolmabpaaDoor
open Go.RowKit

structure Cnt where
  v : Value
  r : List Val
  n : Int
def Cnt.cells (c : Cnt) : List Value := [c.v, .int .i64 c.n]
theorem Cnt.cells_len (c : Cnt) : c.cells.length = 2 := rfl
def cntCells (l : List Cnt) : List Value := l.flatMap Cnt.cells
/-- A view in memory. -/
structure View (w : World) (v : Value) (l : List Cnt) : Prop where
  sl : Sl w v l.length (cntCells l)
  rows : ∀ c ∈ l, Sl w c.v c.r.length (rowCells c.r)
theorem View.below {w w' : World} {v : Value} {l : List Cnt} (h : View w v l) (hb : Below w.heap.size w w') : View w' v l := ⟨h.sl.below hb, fun c hc => (h.rows c hc).below hb⟩
theorem View.drew {w : World} {v : Value} {l : List Cnt} (h : View w v l) : View w.drew v l := ⟨h.sl, h.rows⟩
structure FineV (l : List Cnt) : Prop where
  rows : ∀ c ∈ l, Fine c.r
  nums : ∀ c ∈ l, -9223372036854775808 ≤ c.n ∧ c.n ≤ 9223372036854775807
def av (l : List Cnt) : AV := l.map fun c => (c.r, c.n)

theorem cnt_at {w : World} {l : List Cnt} {v : Value} (h : Sl w v l.length (cntCells l)) {A : Option Addr} {n c : Nat} (hv : v = .slice A n c) {k : Nat} {x : Cnt} (hk : l[k]? = some x) :
    ∃ b off, A = some ⟨b, off, none⟩ ∧ b < w.heap.size ∧ ∀ w', Below w.heap.size w w' →
      w'.cell? ⟨b, off + k * 2, none⟩ = some x.v ∧ w'.cell? ⟨b, off + k * 2 + 1, none⟩ = some (.int .i64 x.n) := by
  obtain ⟨A', c', hv', h1, h2, -, h3⟩ := h
  rw [hv] at hv'
  injection hv' with e1 e2 e3
  subst e1
  have a1 := flat_at Cnt.cells_len l k 0 (by omega)
  have a2 := flat_at Cnt.cells_len l k 1 (by omega)
  rw [hk] at a1 a2
  simp only [Option.bind_some, Nat.add_zero] at a1 a2
  obtain ⟨b, off, hA, hc⟩ := h3 (by intro h0; rw [show l.flatMap Cnt.cells = cntCells l from rfl, h0] at a1; simp [Cnt.cells] at a1)
  have c1 := hc _ _ a1
  have c2 := hc _ _ a2
  exact ⟨b, off, hA, World.block_lt_of_cell? w _ c1, fun w' hb => ⟨cell_below hb c1, cell_below hb c2⟩⟩

def okC (c : Cnt) : Bool := (keyErr c.r == 0) && btw c.n 1 1073741824
def okAt (l : List Cnt) (k : Nat) : Bool :=
  match l[k]? with
  | none => true
  | some c => okC c && (if k = 0 then true else match l[k - 1]? with
    | none => true
    | some d => decide (rowsF d.r c.r < 0))
def chkV (l : List Cnt) : Int := if 4096 < l.length then 2 else if allB (okAt l) (List.range l.length) then 0 else 1
theorem okAt_zero {l : List Cnt} {c : Cnt} (h : l[0]? = some c) : okAt l 0 = okC c := by simp [okAt, h]
theorem okAt_succ {l : List Cnt} {k : Nat} {c d : Cnt} (h : l[k + 1]? = some c) (hd : l[k]? = some d) : okAt l (k + 1) = (okC c && decide (rowsF d.r c.r < 0)) := by simp [okAt, h, hd]
theorem range_at {n k : Nat} (h : k < n) : (List.range n)[k]? = some k := by simp [h]
theorem chk_bad {l : List Cnt} {k : Nat} (h0 : ¬ 4096 < l.length) (hk : k < l.length) (h : okAt l k = false) : chkV l = 1 := by
  unfold chkV
  rw [if_neg h0, all_no (range_at hk) h]
  rfl
theorem chk_good {l : List Cnt} (h0 : ¬ 4096 < l.length) (h : ∀ j ∈ (List.range l.length).take l.length, okAt l j = true) : chkV l = 0 := by
  unfold chkV
  rw [if_neg h0, all_yes (f := okAt l) (by rwa [List.length_range])]
  rfl

/-- What a right view is. -/
structure GoodV (l : List Cnt) : Prop where
  few : l.length ≤ 4096
  rises : Rises (av l)
  nums : ∀ p ∈ av l, 1 ≤ p.2 ∧ p.2 ≤ 1073741824
theorem chk_zero {l : List Cnt} (hf : FineV l) (h : chkV l = 0) : GoodV l := by
  unfold chkV at h
  by_cases h0 : 4096 < l.length
  · rw [if_pos h0] at h; omega
  · rw [if_neg h0] at h
    have hall : allB (okAt l) (List.range l.length) = true := by
      cases hb : allB (okAt l) (List.range l.length)
      · rw [hb] at h; simp at h
      · rfl
    rw [allB, List.all_eq_true] at hall
    have hok : ∀ k c, l[k]? = some c → okC c = true ∧ (k ≠ 0 → ∀ d, l[k - 1]? = some d → rowsF d.r c.r < 0) := by
      intro k c hc
      have hk := (List.getElem?_eq_some_iff.1 hc).1
      have := hall k (List.mem_range.2 hk)
      unfold okAt at this
      rw [hc] at this
      simp only [Bool.and_eq_true] at this
      refine ⟨this.1, fun hk0 d hd => ?_⟩
      have h2 := this.2
      rw [if_neg hk0, hd] at h2
      simpa using h2
    have hgood : ∀ c ∈ l, GoodR c.r ∧ 1 ≤ c.n ∧ c.n ≤ 1073741824 := by
      intro c hc
      obtain ⟨k, hk⟩ := List.getElem?_of_mem hc
      have := (hok k c hk).1
      unfold okC at this
      rw [Bool.and_eq_true, beq_iff_eq] at this
      have hb := btw_of this.2
      exact ⟨goodR_of (hf.rows c hc) this.1, hb.1, hb.2⟩
    refine ⟨by omega, ⟨fun p hp => ?_, ?_⟩, fun p hp => ?_⟩
    · obtain ⟨c, hc, rfl⟩ := List.mem_map.1 hp
      exact (hgood c hc).1
    · unfold av
      rw [List.pairwise_map, List.pairwise_iff_getElem]
      intro i j hi hj hij
      have step : ∀ n i (hi : i < l.length) (hj : i + n + 1 < l.length), rowsF (l[i]).r (l[i + n + 1]).r < 0 := by
        intro n
        induction n with
        | zero =>
          intro i hi hj
          exact (hok (i + 1) _ (List.getElem?_eq_getElem hj)).2 (by omega) _ (List.getElem?_eq_getElem hi)
        | succ n ih =>
          intro i hi hj
          have h1 := ih i hi (by omega)
          have h2 := (hok (i + (n + 1) + 1) _ (List.getElem?_eq_getElem hj)).2 (by omega) _ (List.getElem?_eq_getElem (show i + n + 1 < l.length by omega))
          exact rowsF_trans (hgood _ (List.getElem_mem _)).1 (hgood _ (List.getElem_mem _)).1 (hgood _ (List.getElem_mem _)).1 h1 h2
      have := step (j - i - 1) i hi (by omega)
      simpa [show i + (j - i - 1) + 1 = j by omega] using this
    · obtain ⟨c, hc, rfl⟩ := List.mem_map.1 hp
      exact (hgood c hc).2

theorem str_less {a b : List Val} (ha : GoodR a) (hb : GoodR b) : Op.bytesLess (str (keyRow a)).toList (str (keyRow b)).toList = decide (rowsF a b < 0) := by rw [str_toList, str_toList]; exact key_less ha.good hb.good
theorem str_same {a b : List Val} (ha : GoodR a) (hb : GoodR b) : ((str (keyRow a)).toList == (str (keyRow b)).toList) = decide (rowsF a b = 0) := by rw [str_toList, str_toList]; exact key_same ha.good hb.good

def lastKey (l : List Cnt) (k : Nat) : ByteArray := if k = 0 then ⟨#[]⟩ else match l[k - 1]? with | none => ⟨#[]⟩ | some c => str (keyRow c.r)

end Go.Proofs.YtelmlagolmabpaaDoor
