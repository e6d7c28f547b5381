/-
  Plain law of buffers: what is wrong with one; what becomes of it.
-/
import Derived.Test.YteabfalklgffmaaDoorBufM4
import Derived.Test.YteabfalklgffmaaDoorValue12
set_option linter.unusedSimpArgs false
set_option linter.unusedVariables false
namespace Go.Proofs.YteabfalklgffmaaDoor
open Go.Lib (compareBytes)

/-- A buffer. -/
structure Bu where
  limit : Int
  mem : List En
  runs : List (List En)
def Bu.parts (b : Bu) : List (List En) := b.mem :: b.runs
def Bu.all (b : Bu) : List En := b.parts.flatten
def okE (e : En) : Bool := (keyErr e.r == 0) && ((backR e.key).2 == 0) && inB e.t (-1099511627776) 1099511627776 && inB e.s 0 1099511627776
def upAt (l : List En) (k : Nat) : Bool := match l[k]?, l[k + 1]? with
  | some x, some y => decide (cmpE x y < 0)
  | _, _ => true
def upB (l : List En) : Bool := (List.range l.length).all (upAt l)
theorem upB_iff {l : List En} : upB l = true ↔ Up l := by
  unfold upB
  rw [List.all_eq_true]
  constructor
  · intro h
    induction l with
    | nil => exact .nil
    | cons x t ih =>
      have h1 : ∀ k ∈ List.range t.length, upAt t k = true := fun k hk => by
        have := h (k + 1) (by rw [List.mem_range] at hk ⊢; simp; omega)
        simpa [upAt] using this
      have hU := ih h1
      refine List.pairwise_cons.2 ⟨fun y hy => ?_, hU⟩
      cases t with
      | nil => cases hy
      | cons z u =>
        have h0 : cmpE x z < 0 := by
          have := h 0 (by simp)
          simpa [upAt] using this
        rcases List.mem_cons.1 hy with rfl | hy
        · exact h0
        · exact cmpE_trans h0 ((List.pairwise_cons.1 hU).1 y hy)
  · intro h k _
    unfold upAt
    cases hx : l[k]? with
    | none => rfl
    | some x =>
      cases hy : l[k + 1]? with
      | none => rfl
      | some y =>
        obtain ⟨h1, e1⟩ := List.getElem?_eq_some_iff.1 hx
        obtain ⟨h2, e2⟩ := List.getElem?_eq_some_iff.1 hy
        have := List.pairwise_iff_getElem.1 h k (k + 1) h1 h2 (by omega)
        rw [e1, e2] at this
        exact decide_eq_true this
def aloneB (l : List En) : Bool := (allF [] l).2
theorem aloneB_iff {l : List En} : aloneB l = true ↔ Alone l :=
  ⟨fun h => by have := (allF_yes l [] .nil h).2; simpa using this, fun h => allF_alone l [] .nil (by simpa using h)⟩
/-- All entries, rising. -/
def sortE (l : List En) : List En := (allF [] l).1
theorem sortE_up (l : List En) : Up (sortE l) := allF_up l [] .nil
theorem sortE_perm {l : List En} (h : Alone l) : (sortE l).Perm l := by
  have := (allF_yes l [] .nil (aloneB_iff.2 h)).1
  rwa [List.nil_append] at this
theorem sortE_eq {l m : List En} (h : m.Perm l) (hm : Up m) : sortE l = m :=
  up_perm (sortE_up l) hm ((sortE_perm (alone_perm h hm.alone)).trans h.symm)
/-- What is wrong with a buffer. -/
def checkB (b : Bu) : Int :=
  if inB b.limit 1 64 = false then 3 else if 4096 < b.all.length ∨ b.limit < (b.mem.length : Int) then 2
  else if b.runs.any List.isEmpty = false ∧ b.parts.all upB = true ∧ b.all.all okE = true ∧ aloneB b.all = true then 0 else 1
structure GoodB (b : Bu) : Prop where
  limit : 1 ≤ b.limit ∧ b.limit ≤ 64
  few : b.all.length ≤ 4096
  mem : (b.mem.length : Int) ≤ b.limit
  full : ∀ l ∈ b.runs, l ≠ []
  up : ∀ l ∈ b.parts, Up l
  ok : ∀ e ∈ b.all, okE e = true
  alone : Alone b.all
theorem check_zeroB {b : Bu} : checkB b = 0 ↔ GoodB b := by
  unfold checkB
  cases h1 : inB b.limit 1 64 with
  | false =>
    rw [if_pos rfl]
    refine ⟨fun h => by omega, fun h => ?_⟩
    rw [inB_yes h.limit.1 h.limit.2] at h1
    cases h1
  | true =>
    have hl : 1 ≤ b.limit ∧ b.limit ≤ 64 := by
      refine Decidable.byContradiction fun h => ?_
      rw [inB_no (by omega)] at h1
      cases h1
    rw [if_neg (by simp)]
    by_cases h2 : 4096 < b.all.length ∨ b.limit < (b.mem.length : Int)
    · rw [if_pos h2]
      refine ⟨fun h => by omega, fun h => ?_⟩
      have := h.few
      have := h.mem
      omega
    · rw [if_neg h2]
      by_cases h3 : b.runs.any List.isEmpty = false ∧ b.parts.all upB = true ∧ b.all.all okE = true ∧ aloneB b.all = true
      · rw [if_pos h3]
        refine ⟨fun _ => ⟨hl, by omega, by omega, fun l hl e => ?_, fun l hl => ?_, fun e he => ?_, aloneB_iff.1 h3.2.2.2⟩, fun _ => rfl⟩
        · have := List.any_eq_false.1 h3.1 l hl
          rw [e] at this
          simp at this
        · exact upB_iff.1 (List.all_eq_true.1 h3.2.1 l hl)
        · exact List.all_eq_true.1 h3.2.2.1 e he
      · rw [if_neg h3]
        refine ⟨fun h => by omega, fun h => absurd ⟨?_, ?_, ?_, ?_⟩ h3⟩
        · rw [List.any_eq_false]
          intro l hl
          have := h.full l hl
          cases l <;> simp_all
        · exact List.all_eq_true.2 fun l hl => upB_iff.2 (h.up l hl)
        · exact List.all_eq_true.2 h.ok
        · exact aloneB_iff.2 h.alone
/-- The entries that stay; runs without any are gone. -/
def siftB (b : Bu) (f : En → List En) : Bu := ⟨b.limit, b.mem.flatMap f, (b.runs.map fun l => l.flatMap f).filter fun l => !l.isEmpty⟩
def noB : Bu := ⟨0, [], []⟩
def putB (b : Bu) (e : En) : Bu := if b.limit < ((insE b.mem e).length : Int) then ⟨b.limit, [], b.runs ++ [insE b.mem e]⟩ else ⟨b.limit, insE b.mem e, b.runs⟩
def putE (b : Bu) (e : En) : Int := if okE e = false then 1 else if isE b.all e = true then 10 else if 4096 ≤ b.all.length then 2 else 0
def putS (b : Bu) (e : En) : Bu × Int := if checkB b ≠ 0 then (noB, checkB b) else if putE b e ≠ 0 then (noB, putE b e) else (putB b e, 0)
def atE (key : List UInt8) (t s : Int) (e : En) : Bool := (e.key == key) && (e.t == t) && (e.s == s)
def meetB (b : Bu) (key : List UInt8) (t s : Int) : Bu := siftB b fun e => [if atE key t s e = true then { e with met := true } else e]
def takeB (b : Bu) (key : List UInt8) (t s : Int) : Bu := siftB b fun e => if atE key t s e = true then [] else [e]
def dropB (b : Bu) (upto : Int) : Bu := siftB b fun e => if upto < e.t then [e] else []
def packB (b : Bu) : Bu := ⟨b.limit, [], if sortE b.all = [] then [] else [sortE b.all]⟩
def scanL (b : Bu) (key : List UInt8) (frm upto : Int) : List En := (sortE b.all).filter fun e => (e.key == key) && decide (frm ≤ e.t) && decide (e.t ≤ upto)
end Go.Proofs.YteabfalklgffmaaDoor
