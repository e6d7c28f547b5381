/-
  Contracts of package disk: Check, New, a slot turned.
-/
import Derived.Test.YteamepgonmdilaaDisk2
namespace Go.Proofs.Yteamepgonmdilaa
open Go.RowKit

set_option maxHeartbeats 400000 in
theorem check_any (v : Value) (l : List Slot) (w : World) (h : Sl w v l.length (slotCells l)) :
    Calls Try.prog 26 #[.agg #[v]] w fun e w' => e = .returned (.int .i64 (checkD l)) ∧ Below w.heap.size w w' := by
  have h' := Lib.hid (h.below (below_alloc w (.cells #[v] 37)))
  obtain ⟨A, c, rfl, h1, h2, -⟩ := h
  unfold maxLen at h2
  by_cases hn : l.length < 1
  · have e1 : Hid (checkD l = 2) := if_pos (.inl hn)
    go_enter Try.func26, Try.ntmps26
    go_wp2
    go_ret
    exact ⟨by rw [e1.out]; rfl, below_alloc _ _⟩
  · by_cases hn2 : 8 < l.length
    · have e1 : Hid (checkD l = 2) := if_pos (.inr hn2)
      go_enter Try.func26, Try.ntmps26
      go_wp2
      go_ret
      exact ⟨by rw [e1.out]; rfl, below_alloc _ _⟩
    · cases hb : l.any Slot.bad
      · have e1 : Hid (checkD l = 0) := by unfold checkD; rw [if_neg (by omega), hb]; rfl
        go_enter Try.func26, Try.ntmps26
        go_wp2_with (go_at_call 39; refine (containsFunc_any _ l _ h'.out).mono ?_; rintro e w' ⟨rfl, hbw'⟩)
        go_ret
        exact ⟨by rw [e1.out]; rfl, below_trans (below_alloc _ _) hbw'⟩
      · have e1 : Hid (checkD l = 1) := by unfold checkD; rw [if_neg (by omega), hb]; rfl
        go_enter Try.func26, Try.ntmps26
        go_wp2_with (go_at_call 39; refine (containsFunc_any _ l _ h'.out).mono ?_; rintro e w' ⟨rfl, hbw'⟩)
        go_ret
        exact ⟨by rw [e1.out]; rfl, below_trans (below_alloc _ _) hbw'⟩

theorem slotI : EInfo Try.prog 57 3 40 := by
  have h : (Try.prog.info? 57).map (fun i => (i.zero, i.size, i.bytes)) = some (some (.agg #[.string ⟨#[]⟩, .string ⟨#[]⟩, .bool false]), 3, 40) := by kernel_rfl
  obtain ⟨i, hi, h1, h2, h3⟩ := info_parts h
  exact ⟨i, _, hi, h1, h2, h3, rfl, by omega⟩

theorem slotCells_len (l : List Slot) : (slotCells l).length = l.length * 3 := by
  induction l with
  | nil => rfl
  | cons s l ih => simp only [slotCells, List.flatMap_cons, List.length_append, Slot.cells, List.length_cons, List.length_nil] at *; omega
theorem slotCells_one (l : List Slot) : ∀ u ∈ slotCells l, u.oneCell' = true := by
  intro u hu
  simp only [slotCells, List.mem_flatMap, Slot.cells] at hu
  obtain ⟨s, _, hs⟩ := hu
  simp at hs
  rcases hs with rfl | rfl | rfl <;> rfl

def CloneOk (w : World) (n : Nat) (cs : List Value) (e : Ending) (w' : World) : Prop := ∃ v', e = .returned v' ∧ w'.ownsRow w.heap.size 57 3 v' n cs ∧ Below w.heap.size w w'

set_option maxHeartbeats 400000 in
theorem clone_any (v : Value) (l : List Slot) (w : World) (h : Sl w v l.length (slotCells l)) (hn : l.length ≤ 8) :
    Calls Try.prog 42 #[v] w (CloneOk w l.length (slotCells l)) := by
  have h' := Lib.hid h
  obtain ⟨A, c, rfl, h1, h2, h0, -⟩ := h
  have e0 := fun (w : World) => Lib.run_eql_slice_nil (P := Try.prog) w 35 57 A l.length c 0 0 Try.underlying35
  have hl := slotCells_len l
  rcases A with _ | ad
  · have hc := h0 rfl
    subst hc
    have hl0 : l = [] := List.eq_nil_of_length_eq_zero (by omega)
    subst hl0
    clear h' hl h1 h2 h0 e0
    have e0 := fun (w : World) => Lib.run_eql_slice_nil (P := Try.prog) w 35 57 none 0 0 0 0 Try.underlying35
    simp only [Option.isNone_none] at e0
    show Calls _ _ #[.slice none 0 0] _ _
    go_enter Try.func42, Try.ntmps42
    go_wp2
    go_ret
    exact ⟨_, rfl, World.ownsRow_nil _ _ _ _, Below.refl _ _⟩
  · clear h0
    have Hl := Lib.hid hl
    clear hl
    go_enter Try.func42, Try.ntmps42
    go_wp2_with (at_builtin; refine wpList_app rfl (.tmp 5) (.tmp 6) 35 rfl w.heap.size 57 3 40 Try.underlying35 slotI _ 0 [] rfl (World.ownsRow_made w #[] 0 (Nat.le_refl _) (by decide) rfl) _ l.length (slotCells l) rfl (h'.out.below (below_alloc _ _)) Hl.out (slotCells_one l) ?_ ?_ ?_ ?_)
    · unfold maxLen; omega
    · omega
    · simp
    · intro v' w' hown hgrow _
      go_wp2
      go_ret
      refine ⟨_, rfl, by simpa using hown, below_grown (below_alloc _ _) hgrow ?_⟩
      intro k hk
      simp [Value.ownBlock] at hk
      omega

end Go.Proofs.Yteamepgonmdilaa
