/-
  Contracts of the reference: ReadIn, WriteIn, SyncIn, SameDisks.
-/
import Derived.Test.YteamepgonmdilaaDisk7
namespace Go.Proofs.Yteamepgonmdilaa
open Go.RowKit

def Slot.tells (s : Slot) : ByteArray := if s.has then s.wait else s.safe

set_option maxHeartbeats 400000 in
theorem readIn_any (v : Value) (l : List Slot) (k : Nat) (s : Slot) (w : World) (h : Sl w v l.length (slotCells l)) (hk : l[k]? = some s) :
    Calls Try.prog 31 #[.agg #[v], .int .i64 (k : Int)] w fun e w' => e = .returned (.string s.tells) ∧ Below w.heap.size w w' := by
  obtain ⟨A, c, rfl, h1, h2, -⟩ := id h
  unfold maxLen at h2
  obtain ⟨hlt, -⟩ := List.getElem?_eq_some_iff.1 hk
  obtain ⟨b, off, s', rfl, hs', hb, hc⟩ := slot_at h rfl hlt
  rw [hk] at hs'
  injection hs' with hs'
  subst hs'
  obtain ⟨c1, c2, c3⟩ := hc _ (below_alloc w (.cells #[.slice (some ⟨b, off, none⟩) l.length c] 37))
  clear hc h hk
  cases h4 : s.has
  · have e1 : Hid (s.tells = s.safe) := by simp [Slot.tells, h4, Hid]
    rw [h4] at c3
    go_enter Try.func31, Try.ntmps31
    go_wp2
    go_ret
    exact ⟨by rw [e1.out]; rfl, below_alloc _ _⟩
  · have e1 : Hid (s.tells = s.wait) := by simp [Slot.tells, h4, Hid]
    rw [h4] at c3
    go_enter Try.func31, Try.ntmps31
    go_wp2
    go_ret
    exact ⟨by rw [e1.out]; rfl, below_alloc _ _⟩

set_option maxHeartbeats 1000000 in
theorem writeIn_any (v : Value) (l : List Slot) (k : Nat) (s : Slot) (text : ByteArray) (w : World) (h : Sl w v l.length (slotCells l)) (hl8 : l.length ≤ 8) (hk : l[k]? = some s) :
    Calls Try.prog 29 #[.agg #[v], .int .i64 (k : Int), .string text] w (OwnRet w (ownF l k ⟨s.safe, text, true⟩)) := by
  have hB := below_trans (below_alloc w (.cells #[v] 37)) (below_alloc _ (.cells #[.slice none 0 0] 37))
  have h' := Lib.hid (h.below hB)
  obtain ⟨A, c, rfl, h1, h2, -⟩ := id h
  unfold maxLen at h2
  obtain ⟨hlt, -⟩ := List.getElem?_eq_some_iff.1 hk
  obtain ⟨b, off, s', rfl, hs', hb, hc⟩ := slot_at h rfl hlt
  rw [hk] at hs'
  injection hs' with hs'
  subst hs'
  obtain ⟨c1, -, -⟩ := hc _ hB
  have HC := Lib.hid hc
  clear hc h hk
  have hk0 : (0 : Int) ≤ (k : Int) := by omega
  have hk1 : (k : Int) < (l.length : Int) := by omega
  go_enter Try.func29, Try.ntmps29
  go_wp2_with fail
  go_region_held3 (fun w' => w'.cell? ⟨w.heap.size, 0, none⟩ = some (.slice (some ⟨b, off, none⟩) l.length c) ∧ w'.cell? ⟨b, off + k * 3, none⟩ = some (.string s.safe))
    (first | go_keep | exact ⟨x0, y0⟩ | exact ⟨z0, z1⟩)
    ((go_at_call 41
      refine (ownDisk_any _ l _ ⟨s.safe, text, true⟩ _ h'.out.drew hl8).mono ?_
      rintro e w1 ⟨v', rfl, hs, hfr, hb1⟩
      have hB1 := below_trans hB.drew hb1
      have x0 := ((new_first w 37 #[.slice (some ⟨b, off, none⟩) l.length c] (.cells #[.slice none 0 0] 37)).drew.below hb1).cell 0 _ rfl
      have y0 := (HC.out _ hB1).1
      have b1 := (new_second w 37 #[.slice none 0 0] (.cells #[.slice (some ⟨b, off, none⟩) l.length c] 37)).drew.below hb1
      have x1 := b1.cell 0 _ rfl
      have f1 := b1.free 0
      have HF := Lib.hid hfr
      have HS := Lib.hid hs
      have hlt1 := b1.lt
      have hne : b ≠ w.heap.size + 1 := by omega
      clear hfr hs
      obtain ⟨A', c', hvf, -⟩ := id HS.out
      subst hvf
      have z1 := (HC.out _ (hB1.setCell (p := ⟨w.heap.size + 1, 0, none⟩) (Nat.le_succ _) (.slice A' (ownF l k ⟨s.safe, text, true⟩).length c'))).1
      have z0 := (Blk.far ((new_first w 37 #[.slice (some ⟨b, off, none⟩) l.length c] (.cells #[.slice none 0 0] 37)).drew.below hb1) (p := ⟨w.heap.size + 1, 0, none⟩) (by simp) (.slice A' (ownF l k ⟨s.safe, text, true⟩).length c')).cell 0 _ rfl))
  all_goals
    go_wp2
    refine bodyPost_ret (v := .agg #[.slice A' (ownF l k ⟨s.safe, text, true⟩).length c']) (by simp [results, Try.results29, go_sem, x1]) rfl ?_
    exact ⟨_, rfl, HS.out.setCell (fresh_ne HF.out (by simp)) _, fresh_mono HF.out (by simp; omega), hB1.setCell (by simp) _⟩


set_option maxHeartbeats 1000000 in
theorem syncIn_any (v : Value) (l : List Slot) (k : Nat) (s : Slot) (w : World) (h : Sl w v l.length (slotCells l)) (hl8 : l.length ≤ 8) (hk : l[k]? = some s) :
    Calls Try.prog 30 #[.agg #[v], .int .i64 (k : Int)] w (OwnRet w (ownF l k ⟨s.tells, ⟨#[]⟩, false⟩)) := by
  have hB := below_trans (below_alloc w (.cells #[v] 37)) (below_alloc _ (.cells #[.slice none 0 0] 37))
  have h' := Lib.hid (h.below hB)
  obtain ⟨A, c, rfl, h1, h2, -⟩ := id h
  unfold maxLen at h2
  have HK := Lib.hid hk
  have b0 := new_first w 37 #[.slice A l.length c] (.cells #[.slice none 0 0] 37)
  have b1 := new_second w 37 #[.slice none 0 0] (.cells #[.slice A l.length c] 37)
  clear h hk
  go_enter Try.func30, Try.ntmps30
  go_wp2_with fail
  go_region_held3 (fun w' => w'.cell? ⟨w.heap.size, 0, none⟩ = some (.slice A l.length c))
    (first | go_keep | exact x0 | exact y0)
    (first
      | (go_at_call 31
         refine (readIn_any _ l k s _ h'.out.drew HK.out).mono ?_
         rintro e w1 ⟨rfl, hb1⟩
         have hB1 := below_trans hB.drew hb1
         have c0 := Blk.below (Blk.drew b0) hb1
         have c1 := Blk.below (Blk.drew b1) hb1
         have x0 := c0.cell 0 _ rfl)
      | (go_at_call 41
         refine (ownDisk_any _ l _ ⟨s.tells, ⟨#[]⟩, false⟩ _ ((h'.out.drew).below hb1) hl8).mono ?_
         rintro e w2 ⟨v', rfl, hs, hfr, hb2⟩
         have hB2 := below_trans hB1 hb2
         have d0 := Blk.below c0 hb2
         have d1 := Blk.below c1 hb2
         have y0 := d0.cell 0 _ rfl
         have x1 := d1.cell 0 _ rfl
         have f1 := d1.free 0
         have HF := Lib.hid hfr
         have HS := Lib.hid hs
         have hlt1 := d1.lt
         have hlt2 := c1.lt
         clear hfr hs
         obtain ⟨A', c', hvf, -⟩ := id HS.out
         subst hvf))
  all_goals
    go_wp2
    refine bodyPost_ret (v := .agg #[.slice A' (ownF l k ⟨s.tells, ⟨#[]⟩, false⟩).length c']) (by simp [results, Try.results30, go_sem, x1]) rfl ?_
    exact ⟨_, rfl, HS.out.setCell (fresh_ne HF.out (by simp; omega)) _, fresh_mono HF.out (by omega), hB2.setCell (by simp) _⟩

def slotEq (a b : Slot) : Bool := a.safe.toList == b.safe.toList && (a.wait.toList == b.wait.toList && a.has == b.has)
set_option maxRecDepth 100000 in
theorem run_eq_slot (s t : Slot) (W : World) : (Op.equalIn 10000 57 (.agg #[.string s.safe, .string s.wait, .bool s.has]) (.agg #[.string t.safe, .string t.wait, .bool t.has])).run Try.prog W = .ok (slotEq s t) W := by
  unfold slotEq
  cases h1 : s.safe.toList == t.safe.toList <;> cases h2 : s.wait.toList == t.wait.toList <;> cases h3 : s.has == t.has <;> go_simp
theorem run_neq_slot (s t : Slot) (W : World) : (binOp .neq 57 (.agg #[.string s.safe, .string s.wait, .bool s.has]) (.agg #[.string t.safe, .string t.wait, .bool t.has])).run Try.prog W = .ok (.bool (!slotEq s t)) W := by
  rw [run_neq_struct, run_eq_slot]
  rfl
def sameF (a b : List Slot) : Bool := a.length == b.length && (List.zip a b).all (fun p => slotEq p.1 p.2)
theorem same_len {a b : List Slot} (h : a.length ≠ b.length) : sameF a b = false := by simp [sameF, h]
theorem same_no {a b : List Slot} {k : Nat} {s t : Slot} (ha : a[k]? = some s) (hb : b[k]? = some t) (h : slotEq s t = false) : sameF a b = false := by
  unfold sameF
  rw [Bool.and_eq_false_iff]
  right
  rw [List.all_eq_false]
  refine ⟨(s, t), List.mem_of_getElem? (i := k) ?_, by simp [h]⟩
  simp [List.getElem?_zip_eq_some, ha, hb]
theorem same_yes {a b : List Slot} (hl : a.length = b.length) (h : ∀ (j : Nat) (s t : Slot), a[j]? = some s → b[j]? = some t → slotEq s t = true) : sameF a b = true := by
  unfold sameF
  rw [hl]
  simp only [beq_self_eq_true, Bool.true_and, List.all_eq_true]
  intro p hp
  obtain ⟨j, hj⟩ := List.getElem?_of_mem hp
  obtain ⟨p1, p2⟩ := p
  rw [List.getElem?_zip_eq_some] at hj
  exact h j p1 p2 hj.1 hj.2

set_option maxHeartbeats 1000000 in
theorem sameDisks_any (va vb : Value) (a b : List Slot) (w : World) (ha : Sl w va a.length (slotCells a)) (hb : Sl w vb b.length (slotCells b)) :
    Calls Try.prog 21 #[.agg #[va], .agg #[vb]] w fun e w' => e = .returned (.bool (sameF a b)) ∧ Below w.heap.size w w' := by
  have hB := below_trans (below_alloc w (.cells #[va] 37)) (below_alloc _ (.cells #[vb] 37))
  have Ha := Lib.hid ha
  have Hb := Lib.hid hb
  obtain ⟨A, c, rfl, h1, h2, -⟩ := ha
  obtain ⟨A', c', rfl, h1', h2', -⟩ := hb
  unfold maxLen at h2 h2'
  have B0 := Lib.hid (new_first w 37 #[.slice A a.length c] (.cells #[.slice A' b.length c'] 37))
  have B1 := Lib.hid (new_second w 37 #[.slice A' b.length c'] (.cells #[.slice A a.length c] 37))
  by_cases hl : a.length = b.length
  · have HL := Lib.hid hl
    have hl' : ((a.length : Int) == (b.length : Int)) = true := by simp [hl]
    have hle : a.length ≤ b.length := by omega
    clear hl
    go_enter Try.func21, Try.ntmps21
    go_wp2
    clear hl'
    go_loopw [5] (fun i wr => ∃ k : Nat, k ≤ a.length ∧ i = .int .i64 k ∧ Hid (∀ j s t, j < k → a[j]? = some s → b[j]? = some t → slotEq s t = true) ∧
        Below (w.heap.size + 2) ((w.alloc (.cells #[.slice A a.length c] 37)).alloc (.cells #[.slice A' b.length c'] 37)) wr)
      (fun i _ => a.length - (intOf i).toNat)
    case atStart => exact ⟨0, by omega, rfl, fun j s t hj => absurd hj (by omega), Below.refl _ _⟩
    case round =>
      obtain ⟨k, hk, rfl, H, hbw⟩ := hrel
      have hBw : Below w.heap.size w wr := hB.trans (hbw.mono (by omega))
      have x0 := Blk.cell ((hbw.block _ (by omega)).trans B0.out) 0 _ rfl
      have x1 := Blk.cell ((hbw.block _ (by omega)).trans B1.out) 0 _ rfl
      by_cases hlt : k < a.length
      · obtain ⟨g, off, s, rfl, hs, _, hc⟩ := slot_at Ha.out rfl hlt
        obtain ⟨g', off', t, rfl, ht, _, hc'⟩ := slot_at Hb.out rfl (show k < b.length by omega)
        obtain ⟨c1, c2, c3⟩ := hc _ hBw
        obtain ⟨d1, d2, d3⟩ := hc' _ hBw
        have HS := Lib.hid hs
        have HT := Lib.hid ht
        have k0 : (0 : Int) ≤ (k : Int) := by omega
        have k1 : (k : Int) < (a.length : Int) := by omega
        have k2 : (k : Int) < (b.length : Int) := by omega
        clear hs ht hc hc'
        have hneq := fun W => run_neq_slot s t W
        cases hq : slotEq s t
        all_goals
          rw [hq] at hneq
          simp only [Bool.not_true, Bool.not_false] at hneq
          have HQ := Lib.hid hq
          clear hq
        · go_wp2_with fail
          go_quiet (fail)
          go_wp2
          go_ret
          exact ⟨ret_bool (same_no HS.out HT.out HQ.out).symm, below_drewN hBw _⟩
        · go_wp2_with fail
          go_quiet (fail)
          go_wp2
          go_roundw
          case rel =>
            refine ⟨k + 1, by omega, by go_num, fun j s' t' hj h1 h2 => ?_, below_drewN hbw _⟩
            rcases Nat.lt_or_ge j k with hjk | hjk
            · exact H.out j s' t' hjk h1 h2
            · obtain rfl : j = k := by omega
              rw [HS.out] at h1
              rw [HT.out] at h2
              injection h1 with h1
              injection h2 with h2
              rw [← h1, ← h2]
              exact HQ.out
          case measure => simp [intOf]; omega
      · obtain rfl : k = a.length := by omega
        go_wp2
        go_ret
        refine ⟨ret_bool (same_yes HL.out ?_).symm, hBw⟩
        intro j s t h1 h2
        exact H.out j s t (List.getElem?_eq_some_iff.1 h1).1 h1 h2
  · have hl' : ((a.length : Int) == (b.length : Int)) = false := by simp; omega
    have e1 := Lib.hid (same_len hl)
    clear hl
    go_enter Try.func21, Try.ntmps21
    go_wp2
    go_ret
    exact ⟨ret_bool e1.out.symm, hB⟩

end Go.Proofs.Yteamepgonmdilaa
