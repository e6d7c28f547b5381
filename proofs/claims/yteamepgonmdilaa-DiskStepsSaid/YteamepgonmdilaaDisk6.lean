/-
  Contracts of package disk: Write, Sync, Read, New; of the reference: SlotError, ReadIn.
-/
import Derived.Test.YteamepgonmdilaaDisk5
namespace Go.Proofs.Yteamepgonmdilaa
open Go.RowKit

set_option maxHeartbeats 400000 in
theorem write_any (v : Value) (l : List Slot) (slot : Int) (text : ByteArray) (w : World) (h : Sl w v l.length (slotCells l)) :
    Calls Try.prog 22 #[.agg #[v], .int .i64 slot, .string text] w (DiskRet w (turnF l slot (writeS text))) := by
  have hB := below_trans (below_trans (below_alloc w (.cells #[v] 37)) (below_alloc _ (.cells #[.string text] 9))) (below_alloc _ (.cells #[.slice none 0 0] 37))
  have h' := Lib.hid (h.below hB)
  have bt := ((Blk.new (w.alloc (.cells #[v] 37)) 9 #[.string text]).alloc (.cells #[.slice none 0 0] 37)).cell 0 _ rfl
  rw [World.size_alloc] at bt
  have HT := Lib.hid bt
  clear bt
  generalize hr : turnF l slot (writeS text) = r
  have HR := Lib.hid hr
  clear hr
  go_enter Try.func22, Try.ntmps22
  go_wp2_with fail
  refine (turnedW_any _ text _ l slot _ h'.out HT.out).mono ?_
  rw [HR.out]
  rintro e w1 ⟨v', rfl, hs, hfr, hb⟩
  have b1 := (Blk.new ((w.alloc (.cells #[v] 37)).alloc (.cells #[.string text] 9)) 37 #[.slice none 0 0]).below hb
  rw [World.size_alloc, World.size_alloc] at b1
  have x1 := b1.cell 0 _ rfl
  have f1 := b1.free 0
  have hlt := b1.lt
  obtain ⟨A, c, rfl, -⟩ := id hs
  simp only [World.size_alloc] at hfr
  have HF := Lib.hid hfr
  clear hfr
  go_wp2
  refine bodyPost_ret (v := .tuple #[.agg #[.slice A r.1.length c], .int .i64 r.2]) (by simp [results, Try.results22, go_sem, x1]) rfl ?_
  exact ⟨_, rfl, hs.setCell (fresh_ne HF.out (by simp)) _, fresh_mono HF.out (by omega), (below_trans hB hb).setCell (by simp; omega) _⟩

set_option maxHeartbeats 400000 in
theorem sync_any (v : Value) (l : List Slot) (slot : Int) (w : World) (h : Sl w v l.length (slotCells l)) :
    Calls Try.prog 23 #[.agg #[v], .int .i64 slot] w (DiskRet w (turnF l slot settleS)) := by
  have hB := below_trans (below_alloc w (.cells #[v] 37)) (below_alloc _ (.cells #[.slice none 0 0] 37))
  have h' := Lib.hid (h.below hB)
  generalize hr : turnF l slot settleS = r
  have HR := Lib.hid hr
  clear hr
  go_enter Try.func23, Try.ntmps23
  go_wp2_with fail
  refine (turnedS_any _ l slot _ h'.out).mono ?_
  rw [HR.out]
  rintro e w1 ⟨v', rfl, hs, hfr, hb⟩
  have b1 := (Blk.new (w.alloc (.cells #[v] 37)) 37 #[.slice none 0 0]).below hb
  rw [World.size_alloc] at b1
  have x1 := b1.cell 0 _ rfl
  have f1 := b1.free 0
  have hlt := b1.lt
  obtain ⟨A, c, rfl, -⟩ := id hs
  simp only [World.size_alloc] at hfr
  have HF := Lib.hid hfr
  clear hfr
  go_wp2
  refine bodyPost_ret (v := .tuple #[.agg #[.slice A r.1.length c], .int .i64 r.2]) (by simp [results, Try.results23, go_sem, x1]) rfl ?_
  exact ⟨_, rfl, hs.setCell (fresh_ne HF.out (by simp)) _, fresh_mono HF.out (by omega), (below_trans hB hb).setCell (by simp) _⟩

def readF (l : List Slot) (slot : Int) : ByteArray × Int :=
  if (turnF l slot settleS).2 ≠ 0 then (⟨#[]⟩, (turnF l slot settleS).2) else ((turnF l slot settleS).1[slot.toNat]!.safe, 0)

set_option maxHeartbeats 400000 in
theorem read_any (v : Value) (l : List Slot) (slot : Int) (w : World) (h : Sl w v l.length (slotCells l)) :
    Calls Try.prog 24 #[.agg #[v], .int .i64 slot] w fun e w' => e = .returned (.tuple #[.string (readF l slot).1, .int .i64 (readF l slot).2]) ∧ Below w.heap.size w w' := by
  have hB := below_alloc w (.cells #[v] 37)
  have h' := Lib.hid (h.below hB)
  unfold readF
  by_cases hz : (turnF l slot settleS).2 = 0
  · rw [if_neg (by simpa using hz)]
    have hk : ∃ k : Nat, slot = (k : Int) ∧ k < l.length := by
      unfold turnF at hz
      split at hz
      · contradiction
      · split at hz
        · simp at hz
        · exact ⟨slot.toNat, by omega, by omega⟩
    obtain ⟨k, rfl, hlt⟩ := hk
    have hc : checkD l = 0 := by
      unfold turnF at hz
      split at hz
      · contradiction
      · simpa using ‹¬ checkD l ≠ 0›
    have hr := turn_ok (f := settleS) hc (List.getElem?_eq_getElem hlt)
    have e9 : (l.set k (settleS l[k])).length = l.length := List.length_set
    rw [hr]
    generalize l.set k (settleS l[k]) = l' at hr e9
    have HR := Lib.hid hr
    clear hr hz hc
    simp only [Int.toNat_natCast]
    have hk' : l'[k]? = some l'[k]! := by rw [getElem!_pos l' k (by omega)]; exact List.getElem?_eq_getElem (by omega)
    generalize l'[k]! = s at hk'
    have HK := Lib.hid hk'
    clear hk'
    go_enter Try.func24, Try.ntmps24
    go_wp2_with fail
    refine (turnedS_any _ l _ _ h'.out).mono ?_
    rw [HR.out]
    rintro e w1 ⟨v', rfl, hs, hfr, hb⟩
    have hs : Sl w1 v' l'.length (slotCells l') := hs
    obtain ⟨b, off, s', hA, hs', _, hcell⟩ := slot_at hs (A := (match v' with | .slice A _ _ => A | _ => none)) (n := l'.length) (c := (match v' with | .slice _ _ c => c | _ => 0)) (by obtain ⟨A, c, rfl, -⟩ := hs; rfl) (k := k) (by omega)
    rw [HK.out] at hs'
    injection hs' with hs'
    subst hs'
    obtain ⟨A, c, rfl, hle, hmx, -⟩ := id hs
    simp only at hA
    subst hA
    obtain ⟨c1, -, -⟩ := hcell _ (below_alloc w1 (.cells #[.slice (some ⟨b, off, none⟩) l'.length c] 37))
    have hlt' : k < l'.length := by omega
    have HE := Lib.hid e9
    clear e9 hcell hfr
    unfold maxLen at hmx
    go_wp2
    go_ret2
    exact ⟨rfl, below_trans (below_trans hB hb) (below_alloc _ _)⟩
  · rw [if_pos hz]
    generalize hr : turnF l slot settleS = r at hz
    have HR := Lib.hid hr
    have hz' : (r.2 == 0) = false := by simpa using hz
    clear hr hz
    go_enter Try.func24, Try.ntmps24
    go_wp2_with fail
    refine (turnedS_any _ l slot _ h'.out).mono ?_
    rw [HR.out]
    rintro e w1 ⟨v', rfl, hs, hfr, hb⟩
    clear hfr
    obtain ⟨A, c, rfl, -⟩ := id hs
    go_wp2
    go_ret2
    exact ⟨rfl, below_trans (below_trans hB hb) (below_alloc _ _)⟩

def slotErr (l : List Slot) (slot : Int) : Int := if checkD l ≠ 0 then checkD l else if slot < 0 ∨ (l.length : Int) ≤ slot then 9 else 0
theorem slotErr_turn (l : List Slot) (slot : Int) (f : Slot → Slot) : (turnF l slot f).2 = slotErr l slot := by
  unfold turnF slotErr
  split
  · rfl
  · split <;> rfl

set_option maxHeartbeats 400000 in
theorem slotError_any (v : Value) (l : List Slot) (slot : Int) (w : World) (h : Sl w v l.length (slotCells l)) :
    Calls Try.prog 25 #[.agg #[v], .int .i64 slot] w fun e w' => e = .returned (.int .i64 (slotErr l slot)) ∧ Below w.heap.size w w' := by
  have hB := below_alloc w (.cells #[v] 37)
  have h' := Lib.hid (h.below hB)
  obtain ⟨A, c, rfl, hle, hmx, -⟩ := h
  unfold maxLen at hmx
  by_cases hc : checkD l = 0
  · have hlen := checkD_len hc
    by_cases hs : slot < 0 ∨ (l.length : Int) ≤ slot
    · have e1 : Hid (slotErr l slot = 9) := by unfold slotErr; rw [if_neg (by simpa using hc), if_pos hs]; rfl
      have e2 : decide ((0 : Int) ≤ slot ∧ slot ≤ (l.length : Int) - 1) = false := by simp; omega
      clear hs
      go_enter Try.func25, Try.ntmps25
      go_wp2_with fail
      refine (rcheck_any _ l _ h'.out).mono ?_
      rintro e w1 ⟨rfl, hb⟩
      have x0 := ((Blk.new w 37 #[.slice A l.length c]).below hb).cell 0 _ rfl
      go_wp2_with fail
      refine (within_any _ _ _ _).mono ?_
      rintro e w2 ⟨rfl, rfl⟩
      go_wp2
      go_ret
      exact ⟨by rw [e1.out]; rfl, below_trans hB hb⟩
    · have e1 : Hid (slotErr l slot = 0) := by unfold slotErr; rw [if_neg (by simpa using hc), if_neg hs]; rfl
      have e2 : decide ((0 : Int) ≤ slot ∧ slot ≤ (l.length : Int) - 1) = true := by simp; omega
      clear hs
      go_enter Try.func25, Try.ntmps25
      go_wp2_with fail
      refine (rcheck_any _ l _ h'.out).mono ?_
      rintro e w1 ⟨rfl, hb⟩
      have x0 := ((Blk.new w 37 #[.slice A l.length c]).below hb).cell 0 _ rfl
      go_wp2_with fail
      refine (within_any _ _ _ _).mono ?_
      rintro e w2 ⟨rfl, rfl⟩
      go_wp2
      go_ret
      exact ⟨by rw [e1.out]; rfl, below_trans hB hb⟩
  · have e1 : Hid (slotErr l slot = checkD l) := if_pos hc
    have hne : (checkD l == 0) = false := by simpa using hc
    clear hc
    go_enter Try.func25, Try.ntmps25
    go_wp2_with fail
    refine (rcheck_any _ l _ h'.out).mono ?_
    rintro e w1 ⟨rfl, hb⟩
    have x0 := ((Blk.new w 37 #[.slice A l.length c]).below hb).cell 0 _ rfl
    go_wp2
    go_ret
    exact ⟨by rw [e1.out]; rfl, below_trans hB hb⟩

end Go.Proofs.Yteamepgonmdilaa
