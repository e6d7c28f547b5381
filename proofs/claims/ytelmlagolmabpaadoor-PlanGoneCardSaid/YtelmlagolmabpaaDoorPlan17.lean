/-
  Plans: KeyOf, and the reference's KeyFor.
-/
import Derived.Test.YtelmlagolmabpaaDoorPlan16
set_option linter.unusedSimpArgs false
set_option linter.unusedVariables false
namespace Go.Proofs.YtelmlagolmabpaaDoor
open Go.RowKit Go.Maps

theorem valJ : EInfo Tryd.prog 79 3 32 := by
  have h : (Tryd.prog.info? 79).map (fun i => (i.zero, i.size, i.bytes)) = some (some (.agg #[.int .i64 0, .int .i64 0, .string ⟨#[]⟩]), 3, 32) := by kernel_rfl
  obtain ⟨i, hi, h1, h2, h3⟩ := info_parts h
  exact ⟨i, _, hi, h1, h2, h3, rfl, by omega⟩
theorem one_val (W : World) (x : Val) : Sl (W.alloc (.cells #[.int .i64 x.k, .int .i64 x.n, .string x.s] 79)) (.slice (some ⟨W.heap.size, 0, none⟩) 1 1) 1 x.cells := Sl.block (Blk.new W 79 #[.int .i64 x.k, .int .i64 x.n, .string x.s]) 1 1 (Nat.le_refl _) (by decide)
theorem val_cell (x : Val) : ∀ u ∈ x.cells, u.oneCell' = true := by
  intro u hu
  simp [Val.cells] at hu
  rcases hu with rfl | rfl | rfl <;> rfl
theorem rowCells_app (a b : List Val) : rowCells (a ++ b) = rowCells a ++ rowCells b := List.flatMap_append
theorem rowCells_step {t : List Val} {x : Val} : rowCells t ++ x.cells = rowCells (t ++ [x]) := by rw [rowCells_app]; simp [rowCells]

def noVal : Val := ⟨0, 0, ⟨#[]⟩⟩
def pickV (r : List Val) (c : Int) : Val := r.getD c.toNat noVal
def colsT (p : Pl) (side : Int) : List Int := if side = 2 then p.rkeys else p.lkeys
def keyFor (p : Pl) (side : Int) (r : List Val) : ByteArray × Bool :=
  if allB (fun x : Val => x.k != 0) ((colsT p side).map (pickV r)) then (str (keyRow ((colsT p side).map (pickV r))), true) else (⟨#[]⟩, false)
def keyOfR (p : Pl) (side : Int) (r : List Val) : ByteArray × Bool := if rowR p side r = 0 then keyFor p side r else (⟨#[]⟩, false)

theorem firstNZ_all {l : List Val} (h : firstNZ (l.map checkV) = 0) : ∀ x ∈ l, checkV x = 0 := by
  intro x hx
  unfold firstNZ at h
  cases hf : (l.map checkV).find? (fun n => n != 0) with
  | none =>
    rw [List.find?_eq_none] at hf
    have := hf (checkV x) (List.mem_map.2 ⟨x, hx, rfl⟩)
    simpa using this
  | some y =>
    rw [hf] at h
    have := List.find?_some hf
    simp at this h
    exact absurd h this
theorem keyErr_okP {l : List Val} (h8 : l.length ≤ 8) (h : ∀ x ∈ l, checkV x = 0) : keyErr l = 0 := by
  rw [keyErr_few h8]
  exact firstNZ_none (by intro y hy; obtain ⟨x, hx, rfl⟩ := List.mem_map.1 hy; exact h x hx)

structure RowFine (p : Pl) (side : Int) (r : List Val) : Prop where
  sides : side = 1 ∨ side = 2
  short : p.short
  len : r.length ≤ 4
  good : ∀ x ∈ r, checkV x = 0
  cols : ∀ c ∈ colsT p side, 0 ≤ c ∧ c < r.length
  few : (colsT p side).length ≤ 4
  one : side = 1 → colsT p side = p.lkeys
  two : side = 2 → colsT p side = p.rkeys
theorem rowE_fine {p : Pl} {side : Int} {r : List Val} (hz : checkP p = 0) (h : rowE p side r = 0) : RowFine p side r := by
  unfold rowE at h
  have hok := check_ok hz
  have hs := counts_short hok.2.2.1
  have hform := hok.2.2.2.2
  unfold formB at hform
  simp only [Bool.and_eq_true] at hform
  by_cases h1 : side = 1 ∨ side = 2
  · rw [if_pos h1] at h
    by_cases h2 : r.length = (sideT p side).length
    · rw [if_pos h2] at h
      by_cases h3 : firstNZ (r.map checkV) = 0
      · refine ⟨h1, hs, ?_, firstNZ_all h3, ?_, ?_, ?_, ?_⟩
        · rcases h1 with rfl | rfl
          · rw [side_one] at h2; have := hs.l2; omega
          · rw [side_two] at h2; have := hs.r2; omega
        · rcases h1 with rfl | rfl
          · rw [side_one] at h2
            rw [h2]
            exact unl_range hform.2.2.1
          · rw [side_two] at h2
            rw [h2]
            exact unl_range hform.2.2.2.1
        · rcases h1 with rfl | rfl
          · exact hs.k2
          · exact hs.q2
        · rintro rfl; rfl
        · rintro rfl; rfl
      · rw [if_neg h3] at h; exact absurd h h3
    · rw [if_neg h2] at h; exact absurd h (by decide)
  · rw [if_neg h1] at h; exact absurd h (by decide)
theorem rowR_fine {p : Pl} {side : Int} {r : List Val} (h : rowR p side r = 0) : RowFine p side r := by
  unfold rowR at h
  by_cases hz : checkP p = 0
  · rw [if_pos hz] at h; exact rowE_fine hz h
  · rw [if_neg hz] at h; exact absurd h hz
theorem picked_fine {p : Pl} {side : Int} {r : List Val} (h : RowFine p side r) (hf : Fine r) : Fine ((colsT p side).map (pickV r)) ∧ keyErr ((colsT p side).map (pickV r)) = 0 := by
  have hin : ∀ y ∈ (colsT p side).map (pickV r), y ∈ r := by
    intro y hy
    obtain ⟨c, hc, rfl⟩ := List.mem_map.1 hy
    have := h.cols c hc
    have hlt : c.toNat < r.length := by omega
    unfold pickV
    rw [List.getD_eq_getElem?_getD, List.getElem?_eq_getElem hlt]
    exact List.getElem_mem hlt
  refine ⟨⟨fun x hx => hf.small x (hin x hx), fun x hx => hf.nums x (hin x hx)⟩, keyErr_okP ?_ fun x hx => h.good x (hin x hx)⟩
  have := h.few
  rw [List.length_map]
  omega
theorem pick_at {r : List Val} {m : Nat} (h : m < r.length) : r[m]? = some (pickV r (m : Int)) := by
  unfold pickV
  rw [show ((m : Int)).toNat = m from by omega, List.getD_eq_getElem?_getD, List.getElem?_eq_getElem h]
  rfl


end Go.Proofs.YtelmlagolmabpaaDoor
