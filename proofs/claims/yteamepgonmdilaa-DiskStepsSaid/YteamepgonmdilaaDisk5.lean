/-
  Contracts of package disk: turned, Write, Sync, Read.
-/
import Derived.Test.YteamepgonmdilaaDisk4
namespace Go.Proofs.Yteamepgonmdilaa
open Go.RowKit

instance : Inhabited Slot := ⟨⟨⟨#[]⟩, ⟨#[]⟩, false⟩⟩

def turnF (l : List Slot) (slot : Int) (f : Slot → Slot) : List Slot × Int :=
  if checkD l ≠ 0 then ([], checkD l) else if slot < 0 ∨ (l.length : Int) ≤ slot then ([], 9) else (l.modify slot.toNat f, 0)
theorem turn_bad {l : List Slot} {slot : Int} {f : Slot → Slot} (h : checkD l ≠ 0) : turnF l slot f = ([], checkD l) := if_pos h
theorem turn_none {l : List Slot} {slot : Int} {f : Slot → Slot} (h : checkD l = 0) (h2 : slot < 0 ∨ (l.length : Int) ≤ slot) : turnF l slot f = ([], 9) := by
  unfold turnF; rw [if_neg (by simp [h]), if_pos h2]
theorem turn_ok {l : List Slot} {k : Nat} {s : Slot} {f : Slot → Slot} (h : checkD l = 0) (hk : l[k]? = some s) : turnF l (k : Int) f = (l.set k (f s), 0) := by
  obtain ⟨hlt, rfl⟩ := List.getElem?_eq_some_iff.1 hk
  unfold turnF
  rw [if_neg (by simp [h]), if_neg (by omega)]
  simp only [Int.toNat_natCast]
  rw [List.modify_eq_set, List.getElem?_eq_getElem hlt]
  rfl
theorem checkD_len {l : List Slot} (h : checkD l = 0) : 1 ≤ l.length ∧ l.length ≤ 8 := by
  unfold checkD at h
  by_cases hn : l.length < 1 ∨ 8 < l.length
  · rw [if_pos hn] at h; omega
  · omega

def DiskRet (w : World) (r : List Slot × Int) (e : Ending) (w' : World) : Prop :=
  ∃ v', e = .returned (.tuple #[.agg #[v'], .int .i64 r.2]) ∧ Sl w' v' r.1.length (slotCells r.1) ∧ (∀ k, v'.ownBlock = some k → w.heap.size ≤ k) ∧ Below w.heap.size w w'

set_option maxHeartbeats 1000000 in
theorem turnedS_any (v : Value) (l : List Slot) (slot : Int) (w : World) (h : Sl w v l.length (slotCells l)) :
    Calls Try.prog 35 #[.agg #[v], .int .i64 slot, .func (Fn.func 37) #[] #[]] w (DiskRet w (turnF l slot settleS)) := by
  have h' := Lib.hid (h.below ((below_alloc w (.cells #[v] 37)).alloc (by simp) (.cells #[.slice none 0 0] 37)))
  obtain ⟨A, c, rfl, h1, h2, -⟩ := h
  unfold maxLen at h2
  have hB0 := below_trans (below_alloc w (.cells #[.slice A l.length c] 37)) (below_alloc _ (.cells #[.slice none 0 0] 37))
  by_cases hc : checkD l = 0
  · by_cases hs : slot < 0 ∨ (l.length : Int) ≤ slot
    · have e1 := Lib.hid (turn_none (f := settleS) hc hs)
      rcases hs with hs | hs
      all_goals
        go_enter Try.func35, Try.ntmps35
        go_wp2_with fail
        refine (check_any _ l _ h'.out).mono ?_
        rintro e w1 ⟨rfl, hb⟩
        have b0 := (new_first w 37 #[.slice A l.length c] (.cells #[.slice none 0 0] 37)).below hb
        have b1 := (new_second w 37 #[.slice none 0 0] (.cells #[.slice A l.length c] 37)).below hb
        have x0 := b0.cell 0 _ rfl
        have x1 := b1.cell 0 _ rfl
        have f1 := b1.free 0
        go_wp2
        refine bodyPost_ret (v := .tuple #[.agg #[.slice none 0 0], .int .i64 9]) (by simp [results, Try.results35, go_sem, x1]) rfl ?_
        rw [e1.out]
        exact ⟨_, rfl, Sl.nil_ _, fresh_nil _, (below_trans hB0 hb).setCell (by simp) _⟩
    · obtain ⟨k, rfl⟩ := Int.eq_ofNat_of_zero_le (show 0 ≤ slot by omega)
      have hlt : k < l.length := by omega
      have hk := List.getElem?_eq_getElem hlt
      generalize l[k] = s at hk
      have e1 := Lib.hid (turn_ok (f := settleS) hc hk)
      have HK := Lib.hid hk
      have h8 := (checkD_len hc).2
      clear hk hs
      go_enter Try.func35, Try.ntmps35
      go_wp2_with fail
      refine (check_any _ l _ h'.out).mono ?_
      rintro e w1 ⟨rfl, hb⟩
      have b0 := (new_first w 37 #[.slice A l.length c] (.cells #[.slice none 0 0] 37)).below hb
      have b1 := (new_second w 37 #[.slice none 0 0] (.cells #[.slice A l.length c] 37)).below hb
      have x0 := b0.cell 0 _ rfl
      have B1 := below_trans hB0 hb
      go_wp2_with fail
      refine (clone_any _ l _ (h'.out.below hb) h8).mono ?_
      rintro e w2 ⟨v', rfl, hown, hb2⟩
      obtain ⟨g, cap, rfl, hg1, hg2⟩ := hown.form (by omega)
      have hcap : l.length ≤ cap := by
        obtain ⟨A', c', e', h3, _⟩ := Sl.of_own hown
        injection e' with _ _ e'
        omega
      have b1' := (b1.below hb2).alloc (.cells #[.slice (some ⟨g, 0, none⟩) l.length cap] 37)
      have b2' := Blk.new w2 37 #[.slice (some ⟨g, 0, none⟩) l.length cap]
      have B2 := below_trans (below_trans B1 hb2) (below_alloc w2 (.cells #[.slice (some ⟨g, 0, none⟩) l.length cap] 37))
      have hs1 := b0.lt
      have hs2 := b1.lt
      clear x0
      go_wp2_with fail
      refine (settle_own g cap _ _ k l s _ (hown.alloc _) rfl HK.out).mono ?_
      rintro e w3 ⟨rfl, hown3, hg3⟩
      have b13 := b1'.grown hg3 (by simp; omega)
      have b23 := b2'.grown hg3 (by simp; omega)
      have x1 := b13.cell 0 _ rfl
      have f1 := b13.free 0
      have x2 := b23.cell 0 _ rfl
      go_wp2
      refine bodyPost_ret (v := .tuple #[.agg #[.slice (some ⟨g, 0, none⟩) l.length cap], .int .i64 0]) (by simp [results, Try.results35, go_sem, x1]) rfl ?_
      rw [e1.out]
      have hB3 := below_grown B2 hg3 (by simp; omega)
      refine ⟨_, rfl, ?_, fresh_some (by omega), hB3.setCell (by simp) _⟩
      rw [List.length_set]
      exact Sl.of_own (own_far hown3 (by simp; omega) _)
  · have e1 := Lib.hid (turn_bad (slot := slot) (f := settleS) hc)
    have hne : (checkD l == 0) = false := by simpa using hc
    clear hc
    go_enter Try.func35, Try.ntmps35
    go_wp2_with fail
    refine (check_any _ l _ h'.out).mono ?_
    rintro e w1 ⟨rfl, hb⟩
    have b0 := (new_first w 37 #[.slice A l.length c] (.cells #[.slice none 0 0] 37)).below hb
    have b1 := (new_second w 37 #[.slice none 0 0] (.cells #[.slice A l.length c] 37)).below hb
    have x0 := b0.cell 0 _ rfl
    have x1 := b1.cell 0 _ rfl
    have f1 := b1.free 0
    go_wp2
    refine bodyPost_ret (v := .tuple #[.agg #[.slice none 0 0], .int .i64 (checkD l)]) (by simp [results, Try.results35, go_sem, x1]) rfl ?_
    rw [e1.out]
    exact ⟨_, rfl, Sl.nil_ _, fresh_nil _, (below_trans hB0 hb).setCell (by simp) _⟩

set_option maxHeartbeats 1000000 in
theorem turnedW_any (bt : Nat) (text : ByteArray) (v : Value) (l : List Slot) (slot : Int) (w : World) (h : Sl w v l.length (slotCells l)) (ht : w.cell? ⟨bt, 0, none⟩ = some (.string text)) :
    Calls Try.prog 35 #[.agg #[v], .int .i64 slot, .func (Fn.func 36) #[] #[.pointer (some ⟨bt, 0, none⟩)]] w (DiskRet w (turnF l slot (writeS text))) := by
  have h' := Lib.hid (h.below ((below_alloc w (.cells #[v] 37)).alloc (by simp) (.cells #[.slice none 0 0] 37)))
  obtain ⟨A, c, rfl, h1, h2, -⟩ := h
  unfold maxLen at h2
  have hB0 := below_trans (below_alloc w (.cells #[.slice A l.length c] 37)) (below_alloc _ (.cells #[.slice none 0 0] 37))
  by_cases hc : checkD l = 0
  · by_cases hs : slot < 0 ∨ (l.length : Int) ≤ slot
    · have e1 := Lib.hid (turn_none (f := writeS text) hc hs)
      rcases hs with hs | hs
      all_goals
        go_enter Try.func35, Try.ntmps35
        go_wp2_with fail
        refine (check_any _ l _ h'.out).mono ?_
        rintro e w1 ⟨rfl, hb⟩
        have b0 := (new_first w 37 #[.slice A l.length c] (.cells #[.slice none 0 0] 37)).below hb
        have b1 := (new_second w 37 #[.slice none 0 0] (.cells #[.slice A l.length c] 37)).below hb
        have x0 := b0.cell 0 _ rfl
        have x1 := b1.cell 0 _ rfl
        have f1 := b1.free 0
        go_wp2
        refine bodyPost_ret (v := .tuple #[.agg #[.slice none 0 0], .int .i64 9]) (by simp [results, Try.results35, go_sem, x1]) rfl ?_
        rw [e1.out]
        exact ⟨_, rfl, Sl.nil_ _, fresh_nil _, (below_trans hB0 hb).setCell (by simp) _⟩
    · obtain ⟨k, rfl⟩ := Int.eq_ofNat_of_zero_le (show 0 ≤ slot by omega)
      have hlt : k < l.length := by omega
      have hk := List.getElem?_eq_getElem hlt
      generalize l[k] = s at hk
      have e1 := Lib.hid (turn_ok (f := writeS text) hc hk)
      have HK := Lib.hid hk
      have h8 := (checkD_len hc).2
      clear hk hs
      go_enter Try.func35, Try.ntmps35
      go_wp2_with fail
      refine (check_any _ l _ h'.out).mono ?_
      rintro e w1 ⟨rfl, hb⟩
      have b0 := (new_first w 37 #[.slice A l.length c] (.cells #[.slice none 0 0] 37)).below hb
      have b1 := (new_second w 37 #[.slice none 0 0] (.cells #[.slice A l.length c] 37)).below hb
      have x0 := b0.cell 0 _ rfl
      have B1 := below_trans hB0 hb
      go_wp2_with fail
      refine (clone_any _ l _ (h'.out.below hb) h8).mono ?_
      rintro e w2 ⟨v', rfl, hown, hb2⟩
      obtain ⟨g, cap, rfl, hg1, hg2⟩ := hown.form (by omega)
      have hcap : l.length ≤ cap := by
        obtain ⟨A', c', e', h3, _⟩ := Sl.of_own hown
        injection e' with _ _ e'
        omega
      have b1' := (b1.below hb2).alloc (.cells #[.slice (some ⟨g, 0, none⟩) l.length cap] 37)
      have b2' := Blk.new w2 37 #[.slice (some ⟨g, 0, none⟩) l.length cap]
      have B2 := below_trans (below_trans B1 hb2) (below_alloc w2 (.cells #[.slice (some ⟨g, 0, none⟩) l.length cap] 37))
      have hs1 := b0.lt
      have hs2 := b1.lt
      clear x0
      go_wp2_with fail
      refine (write1_own g cap _ _ k text bt l s _ (hown.alloc _) rfl HK.out (cell_below B2 ht)).mono ?_
      rintro e w3 ⟨rfl, hown3, hg3⟩
      have b13 := b1'.grown hg3 (by simp; omega)
      have b23 := b2'.grown hg3 (by simp; omega)
      have x1 := b13.cell 0 _ rfl
      have f1 := b13.free 0
      have x2 := b23.cell 0 _ rfl
      go_wp2
      refine bodyPost_ret (v := .tuple #[.agg #[.slice (some ⟨g, 0, none⟩) l.length cap], .int .i64 0]) (by simp [results, Try.results35, go_sem, x1]) rfl ?_
      rw [e1.out]
      have hB3 := below_grown B2 hg3 (by simp; omega)
      refine ⟨_, rfl, ?_, fresh_some (by omega), hB3.setCell (by simp) _⟩
      rw [List.length_set]
      exact Sl.of_own (own_far hown3 (by simp; omega) _)
  · have e1 := Lib.hid (turn_bad (slot := slot) (f := writeS text) hc)
    have hne : (checkD l == 0) = false := by simpa using hc
    clear hc
    go_enter Try.func35, Try.ntmps35
    go_wp2_with fail
    refine (check_any _ l _ h'.out).mono ?_
    rintro e w1 ⟨rfl, hb⟩
    have b0 := (new_first w 37 #[.slice A l.length c] (.cells #[.slice none 0 0] 37)).below hb
    have b1 := (new_second w 37 #[.slice none 0 0] (.cells #[.slice A l.length c] 37)).below hb
    have x0 := b0.cell 0 _ rfl
    have x1 := b1.cell 0 _ rfl
    have f1 := b1.free 0
    go_wp2
    refine bodyPost_ret (v := .tuple #[.agg #[.slice none 0 0], .int .i64 (checkD l)]) (by simp [results, Try.results35, go_sem, x1]) rfl ?_
    rw [e1.out]
    exact ⟨_, rfl, Sl.nil_ _, fresh_nil _, (below_trans hB0 hb).setCell (by simp) _⟩


end Go.Proofs.Yteamepgonmdilaa
