/-
  The walk of the law DiskCrashes.
-/
import Derived.Test.YteamepgonmdilaaDiskLaw1
namespace Go.Proofs.Yteamepgonmdilaa
open Go.RowKit

def chooseN (c : Int) (n : Nat) : Nat := ((if c < 0 then -(c + 1) else c) % (n : Int)).toNat
theorem chooseN_lt (c : Int) (n : Nat) (hn : 1 ≤ n) : chooseN c n < n := by
  unfold chooseN
  have h1 := Int.emod_nonneg (if c < 0 then -(c + 1) else c) (show (n : Int) ≠ 0 by omega)
  have h2 := Int.emod_lt_of_pos (if c < 0 then -(c + 1) else c) (show (0 : Int) < (n : Int) by omega)
  omega
theorem chooseN_eq (c : Int) (n : Nat) (hn : 1 ≤ n) : ((chooseN c n : Nat) : Int) = (if c < 0 then -(c + 1) else c) % (n : Int) := by
  unfold chooseN
  have h1 := Int.emod_nonneg (if c < 0 then -(c + 1) else c) (show (n : Int) ≠ 0 by omega)
  omega

set_option maxHeartbeats 400000 in
theorem choose_any (c : Int) (n : Nat) (w : World) (hn : 1 ≤ n) (hn' : n ≤ 9223372036854775807) (h1 : -9223372036854775808 ≤ c) (h2 : c ≤ 9223372036854775807) :
    Calls Try.prog 33 #[.int .i64 c, .int .i64 (n : Int)] w fun e w' => e = .returned (.int .i64 ((chooseN c n : Nat) : Int)) ∧ w = w' := by
  have E := chooseN_eq c n hn
  by_cases hc : c < 0
  · rw [if_pos hc] at E
    have H := Lib.hid E
    clear E
    have m1 := Int.emod_nonneg (-(c + 1)) (show (n : Int) ≠ 0 by omega)
    have m2 := Int.emod_lt_of_pos (-(c + 1)) (show (0 : Int) < (n : Int) by omega)
    have n1 : (1 : Int) ≤ (n : Int) := by omega
    go_enter Try.func33, Try.ntmps33
    go_wp2
    go_ret
    exact ⟨ret_int (by rw [H.out, ← Int.neg_tmod, Int.tmod_eq_emod_of_nonneg (by omega)]), rfl⟩
  · rw [if_neg hc] at E
    have H := Lib.hid E
    clear E
    have m1 := Int.emod_nonneg c (show (n : Int) ≠ 0 by omega)
    have m2 := Int.emod_lt_of_pos c (show (0 : Int) < (n : Int) by omega)
    have n1 : (1 : Int) ≤ (n : Int) := by omega
    go_enter Try.func33, Try.ntmps33
    go_wp2
    go_ret
    exact ⟨ret_int H.out.symm, rfl⟩

theorem checkD_zero {l : List Slot} (h1 : 1 ≤ l.length) (h8 : l.length ≤ 8) (h : ∀ (i : Nat) (s : Slot), l[i]? = some s → s.bad = false) : checkD l = 0 := by
  refine check_ok (by omega) fun x hx => ?_
  obtain ⟨i, hi⟩ := List.getElem?_of_mem hx
  exact h i x hi
theorem checkD_bad {l : List Slot} (hc : checkD l = 0) {i : Nat} {s : Slot} (hk : l[i]? = some s) : s.bad = false := by
  cases h : s.bad
  · rfl
  · have hlen := checkD_len hc
    rw [check_bad (by omega) hk h] at hc
    omega

theorem crash_facts (l : List Slot) (cuts : List Int) (k : Nat) (s : Slot) (hc : checkD l = 0) (hk : l[k]? = some s) :
    crashR cuts l = (crashF cuts l, 0) ∧ turnF l (k : Int) settleS = (ownF l (k : Int) ⟨s.tells, ⟨#[]⟩, false⟩, 0) ∧
    crashR cuts (ownF l (k : Int) ⟨s.tells, ⟨#[]⟩, false⟩) = (crashF cuts (ownF l (k : Int) ⟨s.tells, ⟨#[]⟩, false⟩), 0) ∧
    readF (crashF cuts (ownF l (k : Int) ⟨s.tells, ⟨#[]⟩, false⟩)) (k : Int) = (s.tells, 0) := by
  have hlen := checkD_len hc
  obtain ⟨hlt, -⟩ := List.getElem?_eq_some_iff.1 hk
  have e1 : checkD (ownF l (k : Int) ⟨s.tells, ⟨#[]⟩, false⟩) = 0 := by
    refine checkD_zero (by rw [ownF_len]; omega) (by rw [ownF_len]; omega) fun i t ht => ?_
    simp only [ownF, List.getElem?_mapIdx] at ht
    cases hx : l[i]? with
    | none => rw [hx] at ht; simp at ht
    | some x =>
      rw [hx] at ht
      simp only [Option.map_some, Option.some.injEq] at ht
      subst ht
      split
      · simp [Slot.bad, toList_mk]
      · exact checkD_bad hc hx
  have e2 : checkD (crashF cuts (ownF l (k : Int) ⟨s.tells, ⟨#[]⟩, false⟩)) = 0 := by
    refine checkD_zero (by rw [crashF_len, ownF_len]; omega) (by rw [crashF_len, ownF_len]; omega) fun i t ht => ?_
    simp only [crashF, List.getElem?_mapIdx] at ht
    cases hx : (ownF l (k : Int) ⟨s.tells, ⟨#[]⟩, false⟩)[i]? with
    | none => rw [hx] at ht; simp at ht
    | some x =>
      rw [hx] at ht
      simp only [Option.map_some, Option.some.injEq] at ht
      subst ht
      simp [Slot.bad, crashS, toList_mk]
  have e3 : (crashF cuts (ownF l (k : Int) ⟨s.tells, ⟨#[]⟩, false⟩))[k]? = some ⟨s.tells, ⟨#[]⟩, false⟩ := by
    simp [crashF, ownF, List.getElem?_mapIdx, hk, crashS]
  refine ⟨if_neg (by simpa using hc), ?_, if_neg (by simpa using e1), ?_⟩
  · rw [turn_ok hc hk, set_own l k s _ hk, bad_wait hc hk]
  · unfold readF
    rw [turn_ok e2 e3]
    simp only [ne_eq, not_true, if_false, Int.toNat_natCast]
    rw [getElem!_pos _ k (by rw [List.length_set, crashF_len, ownF_len]; exact hlt)]
    simp [settleS]

set_option maxHeartbeats 4000000 in
theorem diskCrashes_walk (v cv : Value) (l : List Slot) (cuts : List Int) (slot : Int) (w : World) (h : Sl w v l.length (slotCells l)) (hcv : Sl w cv cuts.length (intCells cuts)) (h1 : -9223372036854775808 ≤ slot) (h2 : slot ≤ 9223372036854775807) :
    Calls Try.prog 9 #[.agg #[v], cv, .int .i64 slot] w fun e w' => e = .returned (.bool true) ∧ Below w.heap.size w w' := by
  have HH := Lib.hid (h.below (below_alloc w (.cells #[v] 37)))
  have HV := Lib.hid (hcv.below (below_alloc w (.cells #[v] 37)))
  obtain ⟨A, c, rfl, hlc, hcm, -⟩ := id h
  have hl63 : l.length ≤ 9223372036854775807 := by unfold maxLen at hcm; omega
  clear hlc hcm
  clear h hcv
  by_cases hc : checkD l = 0
  · have hlen := checkD_len hc
    have hlt := chooseN_lt slot l.length hlen.1
    obtain ⟨k, hkd⟩ : ∃ k, k = chooseN slot l.length := ⟨_, rfl⟩
    rw [← hkd] at hlt
    have hk := List.getElem?_eq_getElem hlt
    generalize l[k] = s at hk
    obtain ⟨f1, f2, f3, f4⟩ := crash_facts l cuts k s hc hk
    have F1 := Lib.hid f1
    have F2 := Lib.hid f2
    have F3 := Lib.hid f3
    have F4 := Lib.hid f4
    have HK := Lib.hid hk
    have KD := Lib.hid hkd
    have HC := Lib.hid hc
    clear f1 f2 f3 f4 hk hkd hc
    go_enter Try.func9, Try.ntmps9
    go_wp2_with fail
    refine (crash_any _ _ l cuts _ HH.out HV.out).mono ?_
    rw [F1.out]
    rintro e w1 ⟨v1, rfl, hs1, -, hb1⟩
    have L1 := Lib.hid hs1
    obtain ⟨A1, c1, rfl, -⟩ := hs1
    have a1 := Blk.new w1 37 #[.slice A1 (crashF cuts l).length c1]
    have q1 := below_alloc w1 (.cells #[.slice A1 (crashF cuts l).length c1] 37)
    have d1 := ((Blk.new w 37 #[.slice A l.length c]).below hb1).below q1
    have K1 := Lib.hid ((HH.out.below hb1).below q1)
    have V1 := Lib.hid ((HV.out.below hb1).below q1)
    have M1 := Lib.hid (L1.out.below q1)
    have B1 := below_trans (below_trans (below_alloc w (.cells #[.slice A l.length c] 37)) hb1) q1
    have x1 := d1.cell 0 _ rfl
    go_wp2_with fail
    refine (rcheck_any _ l _ K1.out).mono ?_
    rw [HC.out]
    rintro e w2 ⟨rfl, hb2⟩
    have d2 := d1.below hb2
    have x1 := d2.cell 0 _ rfl
    go_wp2_with fail
    refine (choose_any slot l.length _ hlen.1 hl63 h1 h2).mono ?_
    rw [← KD.out]
    rintro e w2' ⟨rfl, rfl⟩
    go_wp2_with fail
    refine (sync_any _ l (k : Int) _ (K1.out.below hb2)).mono ?_
    rw [F2.out]
    rintro e w3 ⟨v3, rfl, hs3, -, hb3⟩
    have L3 := Lib.hid hs3
    obtain ⟨A3, c3, rfl, -⟩ := hs3
    have q3 := below_alloc w3 (.cells #[.slice A3 (ownF l (k : Int) ⟨s.tells, ⟨#[]⟩, false⟩).length c3] 37)
    have b13 := below_trans (below_trans hb2 hb3) q3
    have y3 := (Blk.new w3 37 #[.slice A3 (ownF l (k : Int) ⟨s.tells, ⟨#[]⟩, false⟩).length c3]).cell 0 _ rfl
    go_wp2_with fail
    refine (crash_any _ _ (ownF l (k : Int) ⟨s.tells, ⟨#[]⟩, false⟩) cuts _ (L3.out.below q3) (V1.out.below b13)).mono ?_
    rw [F3.out]
    rintro e w4 ⟨v4, rfl, hs4, -, hb4⟩
    have L4 := Lib.hid hs4
    obtain ⟨A4, c4, rfl, -⟩ := hs4
    have q4 := below_alloc w4 (.cells #[.slice A4 (crashF cuts (ownF l (k : Int) ⟨s.tells, ⟨#[]⟩, false⟩)).length c4] 37)
    have b14 := below_trans (below_trans b13 hb4) q4
    go_wp2_with fail
    refine (read_any _ (crashF cuts (ownF l (k : Int) ⟨s.tells, ⟨#[]⟩, false⟩)) (k : Int) _ (L4.out.below q4)).mono ?_
    rw [F4.out]
    rintro e w5 ⟨rfl, hb5⟩
    have b15 := below_trans b14 hb5
    have a5 := a1.below b15
    have d5 := d1.below b15
    have K5 := Lib.hid (K1.out.below b15)
    have V5 := Lib.hid (V1.out.below b15)
    have M5 := Lib.hid (M1.out.below b15)
    have x2 := a5.cell 0 _ rfl
    have x3 := d5.cell 0 _ rfl
    have B5 := below_trans B1 b15
    clear x1 y3
    go_wp2_with fail
    go_region_held3 (fun w' => w'.cell? ⟨w.heap.size, 0, none⟩ = some (.slice A l.length c) ∧ w'.cell? ⟨w1.heap.size, 0, none⟩ = some (.slice A1 (crashF cuts l).length c1))
      (first | go_keep | exact z9 | exact z10 | exact z11 | exact z12)
      (first
        | (go_at_call 28
           refine (diskBegun_any _).mono ?_
           rintro e w9 ⟨rfl, hb9⟩
           have S9 := hb9
           have z9 := And.intro ((d5.drew.below S9).cell 0 _ rfl) ((a5.drew.below S9).cell 0 _ rfl))
        | (go_at_call 34
           refine (crashIn_any _ _ l cuts _ (K5.out.drew.below S9) (V5.out.drew.below S9) hlen.1 hlen.2).mono ?_
           rintro e w10 ⟨v10, rfl, hs10, hb10⟩
           obtain ⟨A10, c10, hv10, -⟩ := id hs10
           subst hv10
           have L10 := Lib.hid hs10
           clear hs10
           have S10 := below_trans S9 hb10
           have z10 := And.intro ((d5.drew.below S10).cell 0 _ rfl) ((a5.drew.below S10).cell 0 _ rfl))
        | (go_at_call 21
           refine (sameDisks_any _ _ (crashF cuts l) (crashF cuts l) _ (M5.out.drew.below S10) L10.out).mono ?_
           rw [sameF_refl]
           rintro e w11 ⟨rfl, hb11⟩
           have S11 := below_trans S10 hb11
           have z11 := And.intro ((d5.drew.below S11).cell 0 _ rfl) ((a5.drew.below S11).cell 0 _ rfl))
        | (go_at_call 31
           refine (readIn_any _ l k s _ (K5.out.drew.below S11) HK.out).mono ?_
           rintro e w12 ⟨rfl, hb12⟩
           have S12 := below_trans S11 hb12
           have z12 := And.intro ((d5.drew.below S12).cell 0 _ rfl) ((a5.drew.below S12).cell 0 _ rfl)))
    go_wp2
    go_ret
    exact ⟨rfl, below_trans B5.drew S12⟩
  · have f1 : crashR cuts l = ([], checkD l) := if_pos hc
    have F1 := Lib.hid f1
    have hne : (checkD l == 0) = false := by simpa using hc
    clear f1 hc
    go_enter Try.func9, Try.ntmps9
    go_wp2_with fail
    refine (crash_any _ _ l cuts _ HH.out HV.out).mono ?_
    rw [F1.out]
    rintro e w1 ⟨v1, rfl, hs1, -, hb1⟩
    obtain ⟨A1, c1, rfl, -⟩ := hs1
    have a1 := Blk.new w1 37 #[.slice A1 0 c1]
    have q1 := below_alloc w1 (.cells #[.slice A1 0 c1] 37)
    have d1 := ((Blk.new w 37 #[.slice A l.length c]).below hb1).below q1
    have x1 := d1.cell 0 _ rfl
    have K1 := Lib.hid ((HH.out.below hb1).below q1)
    have B1 := below_trans (below_trans (below_alloc w (.cells #[.slice A l.length c] 37)) hb1) q1
    go_wp2_with fail
    refine (rcheck_any _ l _ K1.out).mono ?_
    rintro e w2 ⟨rfl, hb2⟩
    go_wp2_with fail
    refine (diskBegun_any _).mono ?_
    rintro e w3 ⟨rfl, hb3⟩
    have x2 := ((a1.below hb2).below hb3).cell 0 _ rfl
    go_wp2
    go_ret
    exact ⟨rfl, below_trans (below_trans B1 hb2) hb3⟩

end Go.Proofs.Yteamepgonmdilaa
