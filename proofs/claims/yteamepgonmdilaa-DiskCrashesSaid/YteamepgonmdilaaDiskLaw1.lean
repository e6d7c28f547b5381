/-
  The walk of the law DiskSteps.
-/
import Derived.Test.YteamepgonmdilaaDisk11
namespace Go.Proofs.Yteamepgonmdilaa
open Go.RowKit

theorem sameF_refl (l : List Slot) : sameF l l = true := by
  refine same_yes rfl fun j s t h1 h2 => ?_
  rw [h1] at h2
  injection h2 with h2
  subst h2
  simp [slotEq]
theorem set_own (l : List Slot) (k : Nat) (s t : Slot) (hk : l[k]? = some s) : ownF l (k : Int) t = l.set k t := by
  apply List.ext_getElem?
  intro i
  obtain ⟨hlt, -⟩ := List.getElem?_eq_some_iff.1 hk
  simp only [ownF, List.getElem?_mapIdx, List.getElem?_set]
  by_cases h : k = i
  · subst h; simp [hlt]
  · simp [h, show ¬ (i : Int) = (k : Int) from by omega]

theorem bad_wait {l : List Slot} {k : Nat} {s : Slot} (hc : checkD l = 0) (hk : l[k]? = some s) : settleS s = ⟨s.tells, ⟨#[]⟩, false⟩ := by
  unfold checkD at hc
  by_cases hn : l.length < 1 ∨ 8 < l.length
  · rw [if_pos hn] at hc; omega
  · rw [if_neg hn] at hc
    have hb : s.bad = false := by
      cases h : s.bad
      · rfl
      · rw [if_pos (List.any_eq_true.2 ⟨s, List.mem_of_getElem? hk, h⟩)] at hc; omega
    obtain ⟨sa, wa, ha⟩ := s
    cases ha
    · simp only [Slot.bad, Bool.not_false, Bool.true_and, Bool.not_eq_false'] at hb
      have : wa = ⟨#[]⟩ := by
        rw [ByteArray.toList_eq] at hb
        obtain ⟨⟨x⟩⟩ := wa
        simp at hb
        subst hb
        rfl
      subst this
      rfl
    · rfl
theorem steps_cases (l : List Slot) (slot : Int) (text : ByteArray) :
    (∃ e, (e == 0) = false ∧ slotErr l slot = e ∧ turnF l slot (writeS text) = ([], e) ∧ turnF l slot settleS = ([], e) ∧ readF l slot = (⟨#[]⟩, e)) ∨
    (∃ k s, slot = ((k : Nat) : Int) ∧ l[k]? = some s ∧ checkD l = 0 ∧ slotErr l slot = 0 ∧ turnF l slot (writeS text) = (ownF l slot ⟨s.safe, text, true⟩, 0) ∧ turnF l slot settleS = (ownF l slot ⟨s.tells, ⟨#[]⟩, false⟩, 0) ∧ readF l slot = (s.tells, 0)) := by
  by_cases hc : checkD l = 0
  · by_cases hs : slot < 0 ∨ (l.length : Int) ≤ slot
    · left
      refine ⟨9, rfl, by unfold slotErr; rw [if_neg (by simpa using hc), if_pos hs], turn_none hc hs, turn_none hc hs, ?_⟩
      unfold readF
      rw [turn_none hc hs]
      rfl
    · right
      obtain ⟨k, rfl⟩ := Int.eq_ofNat_of_zero_le (show 0 ≤ slot by omega)
      have hlt : k < l.length := by omega
      have hk := List.getElem?_eq_getElem hlt
      generalize l[k] = s at hk
      have h2 := bad_wait hc hk
      refine ⟨k, s, rfl, hk, hc, by unfold slotErr; rw [if_neg (by simpa using hc), if_neg hs], ?_, ?_, ?_⟩
      · rw [turn_ok hc hk, set_own l k s _ hk]; rfl
      · rw [turn_ok hc hk, set_own l k s _ hk, h2]
      · unfold readF
        rw [turn_ok hc hk]
        have h3 : (l.set k (settleS s))[k]! = settleS s := by rw [getElem!_pos _ k (by rw [List.length_set]; exact hlt)]; simp
        simp only [ne_eq, not_true, if_false, Int.toNat_natCast]
        rw [h3, h2]
  · left
    refine ⟨checkD l, by simpa using hc, if_pos hc, turn_bad hc, turn_bad hc, ?_⟩
    unfold readF
    rw [turn_bad hc, if_pos (by simpa using hc)]

set_option maxHeartbeats 2000000 in
theorem diskSteps_walk (v : Value) (l : List Slot) (slot : Int) (text : ByteArray) (slots : Int) (w : World) (h : Sl w v l.length (slotCells l)) :
    Calls Try.prog 8 #[.agg #[v], .int .i64 slot, .string text, .int .i64 slots] w fun e w' => e = .returned (.bool true) ∧ Below w.heap.size w w' := by
  have HH := Lib.hid (h.below (below_alloc w (.cells #[v] 37)))
  obtain ⟨A, c, rfl, -⟩ := id h
  clear h
  by_cases hn : 1 ≤ slots ∧ slots ≤ 8
  · obtain ⟨m, rfl⟩ := Int.eq_ofNat_of_zero_le (show 0 ≤ slots by omega)
    obtain ⟨zs, hz, hsz, hmk⟩ := newF_make m (by omega)
    have hnew : newF (m : Int) = (List.replicate m Slot.none, 0) := by unfold newF; rw [if_neg (by omega)]; rfl
    have HN := Lib.hid hnew
    have HZ := Lib.hid hz
    have hm1 : 1 ≤ m := by omega
    have hm8 : m ≤ 8 := by omega
    clear hnew hz hsz hn
    go_enter Try.func8, Try.ntmps8
    go_wp2_with fail
    refine (new_any _ _).mono ?_
    rw [HN.out]
    rintro e w1 ⟨v0, rfl, hs0, hf0, hb1⟩
    have b1 := (Blk.new w 37 #[.slice A l.length c]).below hb1
    have K1 := Lib.hid (HH.out.below hb1)
    have hs0 : Sl w1 v0 m (slotCells (List.replicate m Slot.none)) := by simpa using hs0
    have H0 := Lib.hid hs0
    obtain ⟨A0, c0, hv0, -⟩ := hs0
    subst hv0
    clear hf0
    have bm := new_second w1 57 zs (.cells #[.slice A0 m c0] 37)
    have hmade : Sl ((w1.alloc (.cells #[.slice A0 m c0] 37)).alloc (.cells zs 57)) (.slice (some ⟨w1.heap.size + 1, 0, none⟩) m m) (List.replicate m Slot.none).length (slotCells (List.replicate m Slot.none)) := by
      have := Sl.block bm m m (Nat.le_refl _) (by unfold maxLen; omega)
      rw [HZ.out] at this
      simpa using this
    have hold : Sl ((w1.alloc (.cells #[.slice A0 m c0] 37)).alloc (.cells zs 57)) (.slice A0 m c0) (List.replicate m Slot.none).length (slotCells (List.replicate m Slot.none)) := by
      have := H0.out.below (below_trans (below_alloc w1 (.cells #[.slice A0 m c0] 37)) (below_alloc _ (.cells zs 57)))
      simpa using this
    have HM := Lib.hid hmade
    have HO := Lib.hid hold
    clear hmade hold bm
    go_wp2_with fail
    go_region_held3 (fun w' => w'.cell? ⟨w1.heap.size, 0, none⟩ = some (.slice A0 m c0))
      (first | go_keep | exact x2)
      ((go_at_call 21
        refine (sameDisks_any _ _ (List.replicate m Slot.none) (List.replicate m Slot.none) _ HO.out.drew HM.out.drew).mono ?_
        rw [sameF_refl]
        rintro e w2 ⟨rfl, hb2⟩
        have b2 := ((b1.alloc (.cells #[.slice A0 m c0] 37)).alloc (.cells zs 57)).drew.below hb2
        have n2 := ((Blk.new w1 37 #[.slice A0 m c0]).alloc (.cells zs 57)).drew.below hb2
        have hB2 := below_trans (below_trans (below_trans (below_trans (below_alloc w (.cells #[.slice A l.length c] 37)) hb1) (below_alloc _ (.cells #[.slice A0 m c0] 37))) (below_alloc _ (.cells zs 57))).drew hb2
        have K2 := Lib.hid ((K1.out.below (below_trans (below_alloc _ (.cells #[.slice A0 m c0] 37)) (below_alloc _ (.cells zs 57)))).drew.below hb2)
        have x2 := n2.cell 0 _ rfl
        have x1 := b2.cell 0 _ rfl))
    clear x2 n2
    go_wp2_with fail
    rcases steps_cases l slot text with ⟨e0, he0, hE, hW, hS, hR⟩ | ⟨k, s, rfl, hk, hck, hE, hW, hS, hR⟩
    · have HE := Lib.hid hE
      have HW := Lib.hid hW
      have HS := Lib.hid hS
      have HR := Lib.hid hR
      clear hE hW hS hR
      refine (write_any _ l slot text _ K2.out).mono ?_
      rw [HW.out]
      rintro e w3 ⟨v3, rfl, hs3, -, hb3⟩
      obtain ⟨A3, c3, rfl, -⟩ := hs3
      have a3 := Blk.new w3 37 #[.slice A3 0 c3]
      have d3 := (b2.below hb3).alloc (.cells #[.slice A3 0 c3] 37)
      have K3 := Lib.hid ((K2.out.below hb3).below (below_alloc _ (.cells #[.slice A3 0 c3] 37)))
      have B3 := below_trans (below_trans hB2 hb3) (below_alloc _ (.cells #[.slice A3 0 c3] 37))
      have x1 := d3.cell 0 _ rfl
      go_wp2_with fail
      refine (sync_any _ l slot _ K3.out).mono ?_
      rw [HS.out]
      rintro e w4 ⟨v4, rfl, hs4, -, hb4⟩
      obtain ⟨A4, c4, rfl, -⟩ := hs4
      have a4 := (a3.below hb4).alloc (.cells #[.slice A4 0 c4] 37)
      have s4 := Blk.new w4 37 #[.slice A4 0 c4]
      have d4 := (d3.below hb4).alloc (.cells #[.slice A4 0 c4] 37)
      have K4 := Lib.hid ((K3.out.below hb4).below (below_alloc _ (.cells #[.slice A4 0 c4] 37)))
      have B4 := below_trans (below_trans B3 hb4) (below_alloc _ (.cells #[.slice A4 0 c4] 37))
      have x1 := d4.cell 0 _ rfl
      go_wp2_with fail
      refine (read_any _ l slot _ K4.out).mono ?_
      rw [HR.out]
      rintro e w5 ⟨rfl, hb5⟩
      have x1 := (d4.below hb5).cell 0 _ rfl
      have K5 := Lib.hid (K4.out.below hb5)
      go_wp2_with fail
      refine (slotError_any _ l slot _ K5.out).mono ?_
      rw [HE.out]
      rintro e w6 ⟨rfl, hb6⟩
      have d6 := (d4.below hb5).below hb6
      have x1 := d6.cell 0 _ rfl
      have K6 := Lib.hid (K5.out.below hb6)
      have B6 := below_trans (below_trans B4 hb5) hb6
      go_wp2_with fail
      go_region_held3 (fun w' => w'.cell? ⟨w.heap.size, 0, none⟩ = some (.slice A l.length c))
        (first | go_keep | exact x7 | exact x8)
        (first
          | (go_at_call 26
             refine (check_any _ l _ K6.out.drew).mono ?_
             rintro e w7 ⟨rfl, hb7⟩
             have d7 := d6.drew.below hb7
             have x7 := d7.cell 0 _ rfl)
          | (go_at_call 27
             refine (rcheck_any _ l _ (K6.out.drew.below hb7)).mono ?_
             rintro e w8 ⟨rfl, hb8⟩
             have x8 := (d7.below hb8).cell 0 _ rfl
             have B8 := below_trans (below_trans B6.drew hb7) hb8
             have a8 := ((((a4.below hb5).below hb6).drew).below hb7).below hb8
             have s8 := ((((s4.below hb5).below hb6).drew).below hb7).below hb8))
      go_wp2_with fail
      refine (diskBegun_any _).mono ?_
      rintro e w9 ⟨rfl, hb9⟩
      have y1 := (a8.below hb9).cell 0 _ rfl
      have y2 := (s8.below hb9).cell 0 _ rfl
      have t0 := toList_mk #[]
      go_wp2
      go_ret
      exact ⟨rfl, below_trans B8 hb9⟩
    · have HE := Lib.hid hE
      have HW := Lib.hid hW
      have HS := Lib.hid hS
      have HR := Lib.hid hR
      have HK := Lib.hid hk
      have hl8 := (checkD_len hck).2
      have HC := Lib.hid hck
      clear hE hW hS hR hk hck
      refine (write_any _ l (k : Int) text _ K2.out).mono ?_
      rw [HW.out]
      rintro e w3 ⟨v3, rfl, hs3, -, hb3⟩
      have L3 := Lib.hid hs3
      obtain ⟨A3, c3, rfl, -⟩ := hs3
      have a3 := Blk.new w3 37 #[.slice A3 (ownF l (k : Int) ⟨s.safe, text, true⟩).length c3]
      have d3 := (b2.below hb3).alloc (.cells #[.slice A3 (ownF l (k : Int) ⟨s.safe, text, true⟩).length c3] 37)
      have K3 := Lib.hid ((K2.out.below hb3).below (below_alloc _ (.cells #[.slice A3 (ownF l (k : Int) ⟨s.safe, text, true⟩).length c3] 37)))
      have M3 := Lib.hid (L3.out.below (below_alloc _ (.cells #[.slice A3 (ownF l (k : Int) ⟨s.safe, text, true⟩).length c3] 37)))
      have B3 := below_trans (below_trans hB2 hb3) (below_alloc _ (.cells #[.slice A3 (ownF l (k : Int) ⟨s.safe, text, true⟩).length c3] 37))
      have x1 := d3.cell 0 _ rfl
      go_wp2_with fail
      refine (sync_any _ l (k : Int) _ K3.out).mono ?_
      rw [HS.out]
      rintro e w4 ⟨v4, rfl, hs4, -, hb4⟩
      have L4 := Lib.hid hs4
      obtain ⟨A4, c4, rfl, -⟩ := hs4
      have a4 := (a3.below hb4).alloc (.cells #[.slice A4 (ownF l (k : Int) ⟨s.tells, ⟨#[]⟩, false⟩).length c4] 37)
      have s4 := Blk.new w4 37 #[.slice A4 (ownF l (k : Int) ⟨s.tells, ⟨#[]⟩, false⟩).length c4]
      have d4 := (d3.below hb4).alloc (.cells #[.slice A4 (ownF l (k : Int) ⟨s.tells, ⟨#[]⟩, false⟩).length c4] 37)
      have K4 := Lib.hid ((K3.out.below hb4).below (below_alloc _ (.cells #[.slice A4 (ownF l (k : Int) ⟨s.tells, ⟨#[]⟩, false⟩).length c4] 37)))
      have M4 := Lib.hid ((M3.out.below hb4).below (below_alloc _ (.cells #[.slice A4 (ownF l (k : Int) ⟨s.tells, ⟨#[]⟩, false⟩).length c4] 37)))
      have N4 := Lib.hid (L4.out.below (below_alloc _ (.cells #[.slice A4 (ownF l (k : Int) ⟨s.tells, ⟨#[]⟩, false⟩).length c4] 37)))
      have B4 := below_trans (below_trans B3 hb4) (below_alloc _ (.cells #[.slice A4 (ownF l (k : Int) ⟨s.tells, ⟨#[]⟩, false⟩).length c4] 37))
      have x1 := d4.cell 0 _ rfl
      go_wp2_with fail
      refine (read_any _ l (k : Int) _ K4.out).mono ?_
      rw [HR.out]
      rintro e w5 ⟨rfl, hb5⟩
      have x1 := (d4.below hb5).cell 0 _ rfl
      have K5 := Lib.hid (K4.out.below hb5)
      go_wp2_with fail
      refine (slotError_any _ l (k : Int) _ K5.out).mono ?_
      rw [HE.out]
      rintro e w6 ⟨rfl, hb6⟩
      have d6 := (d4.below hb5).below hb6
      have x1 := d6.cell 0 _ rfl
      have K6 := Lib.hid (K5.out.below hb6)
      have B6 := below_trans (below_trans B4 hb5) hb6
      go_wp2_with fail
      go_region_held3 (fun w' => w'.cell? ⟨w.heap.size, 0, none⟩ = some (.slice A l.length c))
        (first | go_keep | exact x7 | exact x8)
        (first
          | (go_at_call 26
             refine (check_any _ l _ K6.out.drew).mono ?_
             rintro e w7 ⟨rfl, hb7⟩
             have d7 := d6.drew.below hb7
             have x7 := d7.cell 0 _ rfl)
          | (go_at_call 27
             refine (rcheck_any _ l _ (K6.out.drew.below hb7)).mono ?_
             rintro e w8 ⟨rfl, hb8⟩
             have x8 := (d7.below hb8).cell 0 _ rfl
             have B8 := below_trans (below_trans B6.drew hb7) hb8
             have S8 := below_trans (below_trans (below_trans hb5 hb6).drew hb7) hb8))
      have a8 := a4.below S8
      have s8 := s4.below S8
      have d8 := d4.below S8
      have K8 := Lib.hid (K4.out.below S8)
      have M8 := Lib.hid (M4.out.below S8)
      have N8 := Lib.hid (N4.out.below S8)
      have x1 := d8.cell 0 _ rfl
      have x2 := a8.cell 0 _ rfl
      have x3 := s8.cell 0 _ rfl
      have tokA : True := trivial
      have tokB : True := trivial
      clear x8
      go_wp2_with fail
      go_region_held3 (fun w' => w'.cell? ⟨w.heap.size, 0, none⟩ = some (.slice A l.length c) ∧ w'.cell? ⟨w3.heap.size, 0, none⟩ = some (.slice A3 (ownF l (k : Int) ⟨s.safe, text, true⟩).length c3) ∧ w'.cell? ⟨w4.heap.size, 0, none⟩ = some (.slice A4 (ownF l (k : Int) ⟨s.tells, ⟨#[]⟩, false⟩).length c4))
        (first | go_keep | exact z9 | exact z10 | exact z11 | exact z12 | exact z13 | exact z14)
        (first
          | (go_at_call 28
             refine (diskBegun_any _).mono ?_
             rintro e w9 ⟨rfl, hb9⟩
             have S9 := hb9
             have z9 := And.intro ((d8.drew.below S9).cell 0 _ rfl) (And.intro ((a8.drew.below S9).cell 0 _ rfl) ((s8.drew.below S9).cell 0 _ rfl)))
          | (go_at_call 29
             refine (writeIn_any _ l k s text _ (K8.out.drew.below S9) hl8 HK.out).mono ?_
             rintro e w10 ⟨v10, rfl, hs10, -, hb10⟩
             obtain ⟨A10, c10, hv10, -⟩ := id hs10
             subst hv10
             have L10 := Lib.hid hs10
             clear hs10
             have S10 := below_trans S9 hb10
             have z10 := And.intro ((d8.drew.below S10).cell 0 _ rfl) (And.intro ((a8.drew.below S10).cell 0 _ rfl) ((s8.drew.below S10).cell 0 _ rfl)))
          | (go_at_call 21
             have _t := tokA
             refine (sameDisks_any _ _ (ownF l (k : Int) ⟨s.safe, text, true⟩) (ownF l (k : Int) ⟨s.safe, text, true⟩) _ (M8.out.drew.below S10) L10.out).mono ?_
             rw [sameF_refl]
             rintro e w11 ⟨rfl, hb11⟩
             clear tokA
             have S11 := below_trans S10 hb11
             have z11 := And.intro ((d8.drew.below S11).cell 0 _ rfl) (And.intro ((a8.drew.below S11).cell 0 _ rfl) ((s8.drew.below S11).cell 0 _ rfl)))
          | (go_at_call 30
             refine (syncIn_any _ l k s _ (K8.out.drew.below S11) hl8 HK.out).mono ?_
             rintro e w12 ⟨v12, rfl, hs12, -, hb12⟩
             obtain ⟨A12, c12, hv12, -⟩ := id hs12
             subst hv12
             have L12 := Lib.hid hs12
             clear hs12
             have S12 := below_trans S11 hb12
             have z12 := And.intro ((d8.drew.below S12).cell 0 _ rfl) (And.intro ((a8.drew.below S12).cell 0 _ rfl) ((s8.drew.below S12).cell 0 _ rfl)))
          | (go_at_call 21
             have _t := tokB
             refine (sameDisks_any _ _ (ownF l (k : Int) ⟨s.tells, ⟨#[]⟩, false⟩) (ownF l (k : Int) ⟨s.tells, ⟨#[]⟩, false⟩) _ (N8.out.drew.below S12) L12.out).mono ?_
             rw [sameF_refl]
             rintro e w13 ⟨rfl, hb13⟩
             clear tokB
             have S13 := below_trans S12 hb13
             have z13 := And.intro ((d8.drew.below S13).cell 0 _ rfl) (And.intro ((a8.drew.below S13).cell 0 _ rfl) ((s8.drew.below S13).cell 0 _ rfl)))
          | (go_at_call 31
             refine (readIn_any _ l k s _ (K8.out.drew.below S13) HK.out).mono ?_
             rintro e w14 ⟨rfl, hb14⟩
             have S14 := below_trans S13 hb14
             have z14 := And.intro ((d8.drew.below S14).cell 0 _ rfl) (And.intro ((a8.drew.below S14).cell 0 _ rfl) ((s8.drew.below S14).cell 0 _ rfl))))
      go_wp2
      go_ret
      exact ⟨rfl, below_trans B8.drew S14⟩
  · have hnew : newF slots = ([], 3) := by unfold newF; rw [if_pos (by omega)]
    have HN := Lib.hid hnew
    have hn' : slots < 1 ∨ 8 < slots := by omega
    clear hnew hn
    rcases hn' with hn | hn
    all_goals
      go_enter Try.func8, Try.ntmps8
      go_wp2_with fail
      refine (new_any _ _).mono ?_
      rw [HN.out]
      rintro e w1 ⟨v0, rfl, hs0, -, hb1⟩
      obtain ⟨A0, c0, rfl, -⟩ := hs0
      have b2 := (((Blk.new w 37 #[.slice A l.length c]).below hb1).alloc (.cells #[.slice A0 0 c0] 37))
      have K2 := Lib.hid ((HH.out.below hb1).below (below_alloc _ (.cells #[.slice A0 0 c0] 37)))
      have hB2 := below_trans (below_trans (below_alloc w (.cells #[.slice A l.length c] 37)) hb1) (below_alloc _ (.cells #[.slice A0 0 c0] 37))
      have x1 := b2.cell 0 _ rfl
      go_wp2_with fail
      rcases steps_cases l slot text with ⟨e0, he0, hE, hW, hS, hR⟩ | ⟨k, s, rfl, hk, hck, hE, hW, hS, hR⟩
      · have HE := Lib.hid hE
        have HW := Lib.hid hW
        have HS := Lib.hid hS
        have HR := Lib.hid hR
        clear hE hW hS hR
        refine (write_any _ l slot text _ K2.out).mono ?_
        rw [HW.out]
        rintro e w3 ⟨v3, rfl, hs3, -, hb3⟩
        obtain ⟨A3, c3, rfl, -⟩ := hs3
        have a3 := Blk.new w3 37 #[.slice A3 0 c3]
        have d3 := (b2.below hb3).alloc (.cells #[.slice A3 0 c3] 37)
        have K3 := Lib.hid ((K2.out.below hb3).below (below_alloc _ (.cells #[.slice A3 0 c3] 37)))
        have B3 := below_trans (below_trans hB2 hb3) (below_alloc _ (.cells #[.slice A3 0 c3] 37))
        have x1 := d3.cell 0 _ rfl
        go_wp2_with fail
        refine (sync_any _ l slot _ K3.out).mono ?_
        rw [HS.out]
        rintro e w4 ⟨v4, rfl, hs4, -, hb4⟩
        obtain ⟨A4, c4, rfl, -⟩ := hs4
        have a4 := (a3.below hb4).alloc (.cells #[.slice A4 0 c4] 37)
        have s4 := Blk.new w4 37 #[.slice A4 0 c4]
        have d4 := (d3.below hb4).alloc (.cells #[.slice A4 0 c4] 37)
        have K4 := Lib.hid ((K3.out.below hb4).below (below_alloc _ (.cells #[.slice A4 0 c4] 37)))
        have B4 := below_trans (below_trans B3 hb4) (below_alloc _ (.cells #[.slice A4 0 c4] 37))
        have x1 := d4.cell 0 _ rfl
        go_wp2_with fail
        refine (read_any _ l slot _ K4.out).mono ?_
        rw [HR.out]
        rintro e w5 ⟨rfl, hb5⟩
        have x1 := (d4.below hb5).cell 0 _ rfl
        have K5 := Lib.hid (K4.out.below hb5)
        go_wp2_with fail
        refine (slotError_any _ l slot _ K5.out).mono ?_
        rw [HE.out]
        rintro e w6 ⟨rfl, hb6⟩
        have d6 := (d4.below hb5).below hb6
        have x1 := d6.cell 0 _ rfl
        have K6 := Lib.hid (K5.out.below hb6)
        have B6 := below_trans (below_trans B4 hb5) hb6
        go_wp2_with fail
        go_region_held3 (fun w' => w'.cell? ⟨w.heap.size, 0, none⟩ = some (.slice A l.length c))
          (first | go_keep | exact x7 | exact x8)
          (first
            | (go_at_call 26
               refine (check_any _ l _ K6.out.drew).mono ?_
               rintro e w7 ⟨rfl, hb7⟩
               have d7 := d6.drew.below hb7
               have x7 := d7.cell 0 _ rfl)
            | (go_at_call 27
               refine (rcheck_any _ l _ (K6.out.drew.below hb7)).mono ?_
               rintro e w8 ⟨rfl, hb8⟩
               have x8 := (d7.below hb8).cell 0 _ rfl
               have B8 := below_trans (below_trans B6.drew hb7) hb8
               have a8 := ((((a4.below hb5).below hb6).drew).below hb7).below hb8
               have s8 := ((((s4.below hb5).below hb6).drew).below hb7).below hb8))
        go_wp2_with fail
        refine (diskBegun_any _).mono ?_
        rintro e w9 ⟨rfl, hb9⟩
        have y1 := (a8.below hb9).cell 0 _ rfl
        have y2 := (s8.below hb9).cell 0 _ rfl
        have t0 := toList_mk #[]
        go_wp2
        go_ret
        exact ⟨rfl, below_trans B8 hb9⟩
      · have HE := Lib.hid hE
        have HW := Lib.hid hW
        have HS := Lib.hid hS
        have HR := Lib.hid hR
        have HK := Lib.hid hk
        have hl8 := (checkD_len hck).2
        have HC := Lib.hid hck
        clear hE hW hS hR hk hck
        refine (write_any _ l (k : Int) text _ K2.out).mono ?_
        rw [HW.out]
        rintro e w3 ⟨v3, rfl, hs3, -, hb3⟩
        have L3 := Lib.hid hs3
        obtain ⟨A3, c3, rfl, -⟩ := hs3
        have a3 := Blk.new w3 37 #[.slice A3 (ownF l (k : Int) ⟨s.safe, text, true⟩).length c3]
        have d3 := (b2.below hb3).alloc (.cells #[.slice A3 (ownF l (k : Int) ⟨s.safe, text, true⟩).length c3] 37)
        have K3 := Lib.hid ((K2.out.below hb3).below (below_alloc _ (.cells #[.slice A3 (ownF l (k : Int) ⟨s.safe, text, true⟩).length c3] 37)))
        have M3 := Lib.hid (L3.out.below (below_alloc _ (.cells #[.slice A3 (ownF l (k : Int) ⟨s.safe, text, true⟩).length c3] 37)))
        have B3 := below_trans (below_trans hB2 hb3) (below_alloc _ (.cells #[.slice A3 (ownF l (k : Int) ⟨s.safe, text, true⟩).length c3] 37))
        have x1 := d3.cell 0 _ rfl
        go_wp2_with fail
        refine (sync_any _ l (k : Int) _ K3.out).mono ?_
        rw [HS.out]
        rintro e w4 ⟨v4, rfl, hs4, -, hb4⟩
        have L4 := Lib.hid hs4
        obtain ⟨A4, c4, rfl, -⟩ := hs4
        have a4 := (a3.below hb4).alloc (.cells #[.slice A4 (ownF l (k : Int) ⟨s.tells, ⟨#[]⟩, false⟩).length c4] 37)
        have s4 := Blk.new w4 37 #[.slice A4 (ownF l (k : Int) ⟨s.tells, ⟨#[]⟩, false⟩).length c4]
        have d4 := (d3.below hb4).alloc (.cells #[.slice A4 (ownF l (k : Int) ⟨s.tells, ⟨#[]⟩, false⟩).length c4] 37)
        have K4 := Lib.hid ((K3.out.below hb4).below (below_alloc _ (.cells #[.slice A4 (ownF l (k : Int) ⟨s.tells, ⟨#[]⟩, false⟩).length c4] 37)))
        have M4 := Lib.hid ((M3.out.below hb4).below (below_alloc _ (.cells #[.slice A4 (ownF l (k : Int) ⟨s.tells, ⟨#[]⟩, false⟩).length c4] 37)))
        have N4 := Lib.hid (L4.out.below (below_alloc _ (.cells #[.slice A4 (ownF l (k : Int) ⟨s.tells, ⟨#[]⟩, false⟩).length c4] 37)))
        have B4 := below_trans (below_trans B3 hb4) (below_alloc _ (.cells #[.slice A4 (ownF l (k : Int) ⟨s.tells, ⟨#[]⟩, false⟩).length c4] 37))
        have x1 := d4.cell 0 _ rfl
        go_wp2_with fail
        refine (read_any _ l (k : Int) _ K4.out).mono ?_
        rw [HR.out]
        rintro e w5 ⟨rfl, hb5⟩
        have x1 := (d4.below hb5).cell 0 _ rfl
        have K5 := Lib.hid (K4.out.below hb5)
        go_wp2_with fail
        refine (slotError_any _ l (k : Int) _ K5.out).mono ?_
        rw [HE.out]
        rintro e w6 ⟨rfl, hb6⟩
        have d6 := (d4.below hb5).below hb6
        have x1 := d6.cell 0 _ rfl
        have K6 := Lib.hid (K5.out.below hb6)
        have B6 := below_trans (below_trans B4 hb5) hb6
        go_wp2_with fail
        go_region_held3 (fun w' => w'.cell? ⟨w.heap.size, 0, none⟩ = some (.slice A l.length c))
          (first | go_keep | exact x7 | exact x8)
          (first
            | (go_at_call 26
               refine (check_any _ l _ K6.out.drew).mono ?_
               rintro e w7 ⟨rfl, hb7⟩
               have d7 := d6.drew.below hb7
               have x7 := d7.cell 0 _ rfl)
            | (go_at_call 27
               refine (rcheck_any _ l _ (K6.out.drew.below hb7)).mono ?_
               rintro e w8 ⟨rfl, hb8⟩
               have x8 := (d7.below hb8).cell 0 _ rfl
               have B8 := below_trans (below_trans B6.drew hb7) hb8
               have S8 := below_trans (below_trans (below_trans hb5 hb6).drew hb7) hb8))
        have a8 := a4.below S8
        have s8 := s4.below S8
        have d8 := d4.below S8
        have K8 := Lib.hid (K4.out.below S8)
        have M8 := Lib.hid (M4.out.below S8)
        have N8 := Lib.hid (N4.out.below S8)
        have x1 := d8.cell 0 _ rfl
        have x2 := a8.cell 0 _ rfl
        have x3 := s8.cell 0 _ rfl
        have tokA : True := trivial
        have tokB : True := trivial
        clear x8
        go_wp2_with fail
        go_region_held3 (fun w' => w'.cell? ⟨w.heap.size, 0, none⟩ = some (.slice A l.length c) ∧ w'.cell? ⟨w3.heap.size, 0, none⟩ = some (.slice A3 (ownF l (k : Int) ⟨s.safe, text, true⟩).length c3) ∧ w'.cell? ⟨w4.heap.size, 0, none⟩ = some (.slice A4 (ownF l (k : Int) ⟨s.tells, ⟨#[]⟩, false⟩).length c4))
          (first | go_keep | exact z9 | exact z10 | exact z11 | exact z12 | exact z13 | exact z14)
          (first
            | (go_at_call 28
               refine (diskBegun_any _).mono ?_
               rintro e w9 ⟨rfl, hb9⟩
               have S9 := hb9
               have z9 := And.intro ((d8.drew.below S9).cell 0 _ rfl) (And.intro ((a8.drew.below S9).cell 0 _ rfl) ((s8.drew.below S9).cell 0 _ rfl)))
            | (go_at_call 29
               refine (writeIn_any _ l k s text _ (K8.out.drew.below S9) hl8 HK.out).mono ?_
               rintro e w10 ⟨v10, rfl, hs10, -, hb10⟩
               obtain ⟨A10, c10, hv10, -⟩ := id hs10
               subst hv10
               have L10 := Lib.hid hs10
               clear hs10
               have S10 := below_trans S9 hb10
               have z10 := And.intro ((d8.drew.below S10).cell 0 _ rfl) (And.intro ((a8.drew.below S10).cell 0 _ rfl) ((s8.drew.below S10).cell 0 _ rfl)))
            | (go_at_call 21
               have _t := tokA
               refine (sameDisks_any _ _ (ownF l (k : Int) ⟨s.safe, text, true⟩) (ownF l (k : Int) ⟨s.safe, text, true⟩) _ (M8.out.drew.below S10) L10.out).mono ?_
               rw [sameF_refl]
               rintro e w11 ⟨rfl, hb11⟩
               clear tokA
               have S11 := below_trans S10 hb11
               have z11 := And.intro ((d8.drew.below S11).cell 0 _ rfl) (And.intro ((a8.drew.below S11).cell 0 _ rfl) ((s8.drew.below S11).cell 0 _ rfl)))
            | (go_at_call 30
               refine (syncIn_any _ l k s _ (K8.out.drew.below S11) hl8 HK.out).mono ?_
               rintro e w12 ⟨v12, rfl, hs12, -, hb12⟩
               obtain ⟨A12, c12, hv12, -⟩ := id hs12
               subst hv12
               have L12 := Lib.hid hs12
               clear hs12
               have S12 := below_trans S11 hb12
               have z12 := And.intro ((d8.drew.below S12).cell 0 _ rfl) (And.intro ((a8.drew.below S12).cell 0 _ rfl) ((s8.drew.below S12).cell 0 _ rfl)))
            | (go_at_call 21
               have _t := tokB
               refine (sameDisks_any _ _ (ownF l (k : Int) ⟨s.tells, ⟨#[]⟩, false⟩) (ownF l (k : Int) ⟨s.tells, ⟨#[]⟩, false⟩) _ (N8.out.drew.below S12) L12.out).mono ?_
               rw [sameF_refl]
               rintro e w13 ⟨rfl, hb13⟩
               clear tokB
               have S13 := below_trans S12 hb13
               have z13 := And.intro ((d8.drew.below S13).cell 0 _ rfl) (And.intro ((a8.drew.below S13).cell 0 _ rfl) ((s8.drew.below S13).cell 0 _ rfl)))
            | (go_at_call 31
               refine (readIn_any _ l k s _ (K8.out.drew.below S13) HK.out).mono ?_
               rintro e w14 ⟨rfl, hb14⟩
               have S14 := below_trans S13 hb14
               have z14 := And.intro ((d8.drew.below S14).cell 0 _ rfl) (And.intro ((a8.drew.below S14).cell 0 _ rfl) ((s8.drew.below S14).cell 0 _ rfl))))
        go_wp2
        go_ret
        exact ⟨rfl, below_trans B8.drew S14⟩

end Go.Proofs.Yteamepgonmdilaa
