/-
  Something done at a place: Meet and Take.
-/
import Derived.Test.YteabfalklgffmaaGreatDoorBuf32
set_option linter.unusedSimpArgs false
set_option linter.unusedVariables false
namespace Go.Proofs.YteabfalklgffmaaGreatDoor
open Go.RowKit

def placeE (key : List UInt8) (t s : Int) : Ent := ⟨.slice none 0 0, ⟨key, t, s, [], false⟩⟩
theorem placeE_agg (key : List UInt8) (t s : Int) : (placeE key t s).agg = .agg #[.string (str key), .int .i64 t, .int .i64 s, .slice none 0 0, .bool false] := rfl
def atS (b : Bu) (key : List UInt8) (t s : Int) : Int := if checkB b ≠ 0 then checkB b else if isE b.all ⟨key, t, s, [], false⟩ = true then 0 else 9
theorem grown_below_some {A B : World} (h : Below A.heap.size A B) (P : Nat) : A.grownBy B (some P) := grown_of_below h _

set_option maxHeartbeats 2000000 in
theorem meet1_any (P : Nat) (c0 c1 c2 c3 c4 : Value) (W : World) (hP : Blk W P 48 #[c0, c1, c2, c3, c4]) :
    Calls Tryz.prog 23 #[.pointer (some ⟨P, 0, none⟩)] W fun e w2 => e = .returned (.bool true) ∧ w2 = W.setCell ⟨P, 4, none⟩ (.bool true) := by
  have x4 := hP.cell 4 _ rfl
  have f4 := hP.free 4
  clear hP
  go_enter Tryz.func23, Tryz.ntmps23
  go_wp2
  go_ret
  exact ⟨rfl, rfl⟩
set_option maxHeartbeats 2000000 in
theorem take1_any (P : Nat) (W : World) :
    Calls Tryz.prog 24 #[.pointer (some ⟨P, 0, none⟩)] W fun e w2 => e = .returned (.bool false) ∧ w2 = W := by
  go_enter Tryz.func24, Tryz.ntmps24
  go_wp2
  go_ret
  exact ⟨rfl, rfl⟩

set_option maxHeartbeats 8000000 in
set_option maxRecDepth 10000 in
theorem at1Meet_any (key : List UInt8) (t s : Int) (c d : Nat) (x : Ent) (W : World) (P : Nat) (hP : Blk W P 48 #[.string (str x.e.key), .int .i64 x.e.t, .int .i64 x.e.s, x.v, .bool x.e.met])
    (hc : Blk W c 48 #[.string (str key), .int .i64 t, .int .i64 s, .slice none 0 0, .bool false]) (hd : Blk W d 49 #[.func (.func 23) #[] #[]]) (hv : ∃ A n k, x.v = .slice A n k) :
    Calls Tryz.prog 49 #[.pointer (some ⟨P, 0, none⟩), .pointer (some ⟨c, 0, none⟩), .pointer (some ⟨d, 0, none⟩)] W fun e w2 => e = .returned (.bool true) ∧
      Blk w2 P 48 #[.string (str x.e.key), .int .i64 x.e.t, .int .i64 x.e.s, x.v, .bool (if atE key t s x.e = true then true else x.e.met)] ∧ W.grownBy w2 (some P) := by
  have HOR := Lib.hid (fun w' => order_ent x (placeE key t s) w')
  have HAT : Hid (atE key t s x.e = decide (cmpE x.e (placeE key t s).e = 0)) := Lib.hid (atE_iff false [])
  generalize hR : cmpE x.e (placeE key t s).e = R at HAT HOR
  generalize hMQ : (if atE key t s x.e = true then true else x.e.met) = MQ
  generalize atE key t s x.e = AT at HAT hMQ
  obtain ⟨A, n, k, hv⟩ := hv
  rw [placeE_agg] at HOR
  unfold Ent.agg at HOR
  rw [hv] at HOR hP ⊢
  have HK := Lib.hid hP
  have HC := Lib.hid hc
  have HD := Lib.hid hd
  have x0 := hP.cell 0 _ rfl
  have x1 := hP.cell 1 _ rfl
  have x2 := hP.cell 2 _ rfl
  have x3 := hP.cell 3 _ rfl
  have x4 := hP.cell 4 _ rfl
  have y0 := hc.cell 0 _ rfl
  have y1 := hc.cell 1 _ rfl
  have y2 := hc.cell 2 _ rfl
  have y3 := hc.cell 3 _ rfl
  have y4 := hc.cell 4 _ rfl
  have d0 := hd.cell 0 _ rfl
  clear hR hP hc hd hv
  by_cases h0 : R = 0
  · have HA : Hid (MQ = true) := Lib.hid (by rw [← hMQ, HAT.out, decide_eq_true h0]; rfl)
    have hb0 : (R != 0) = false := by simp [h0]
    clear HAT hMQ
    go_enter Tryz.func49, Tryz.ntmps49
    go_wp2_with fail
    go_region_with (first
      | (go_at_call 39
         refine (HOR.out _).mono ?_
         rintro e w5 ⟨rfl, hb5⟩
         have HB5 := Lib.hid hb5
         have K5 := HK.out.drew.below hb5
         have q4 := K5.cell 4 _ rfl
         have HK5 := Lib.hid K5
         have d1 := (HD.out.drew.below hb5).cell 0 _ rfl
         clear K5 hb5)
      | (go_at_call 23
         refine (meet1_any P _ _ _ _ _ _ HK5.out).mono ?_
         rintro e w6 ⟨rfl, hw6⟩
         have HW6 := Lib.hid hw6
         clear hw6))
    all_goals
      go_wp2
      go_ret
      refine ⟨rfl, ?_, ?_⟩
      · rw [HA.out, HW6.out]
        exact HK5.out.set_ 4 (.bool true)
      · rw [HW6.out]
        exact drew_grown (grown_setE (grown_of_below HB5.out _) 4 _)
  · have HA : Hid (MQ = x.e.met) := Lib.hid (by rw [← hMQ, HAT.out, decide_eq_false h0]; rfl)
    have hb0 := bneT h0
    clear HAT hMQ
    go_enter Tryz.func49, Tryz.ntmps49
    go_wp2_with fail
    refine wp_region_held_drew (S := (fun w' => w'.cell? ⟨P, 0, none⟩ = some (.string (str x.e.key)) ∧ w'.cell? ⟨P, 1, none⟩ = some (.int .i64 x.e.t) ∧ w'.cell? ⟨P, 2, none⟩ = some (.int .i64 x.e.s) ∧ w'.cell? ⟨P, 3, none⟩ = some (.slice A n k) ∧ w'.cell? ⟨P, 4, none⟩ = some (.bool x.e.met) ∧ w'.cell? ⟨c, 0, none⟩ = some (.string (str key)) ∧ w'.cell? ⟨c, 1, none⟩ = some (.int .i64 t) ∧ w'.cell? ⟨c, 2, none⟩ = some (.int .i64 s) ∧ w'.cell? ⟨c, 3, none⟩ = some (.slice none 0 0) ∧ w'.cell? ⟨c, 4, none⟩ = some (.bool false))) (by kernel_rfl) (And.intro (x0) (And.intro (x1) (And.intro (x2) (And.intro (x3) (And.intro (x4) (And.intro (y0) (And.intro (y1) (And.intro (y2) (And.intro (y3) (y4)))))))))) (fun hHeld => ?_)
    (refine wpAnyH_take (i := 0) (oi := _) (v := ?v1) (by simp only [List.getElem?_toArray, List.getElem?_cons_succ, List.getElem?_cons_zero]; rfl) (by kernel_rfl) (by kernel_rfl) (by kernel_rfl) (by intro _ _ _ h; exact h) (Or.inl ⟨by kernel_rfl, ?hy1⟩) (by assumption) ?rest1; case hy1 => (intro w hSw; (try dsimp only at hSw); go_simp; try with_reducible rfl))
    try simp only [Act.put, List.setIfInBounds_toArray, List.set_cons_zero, List.set_cons_succ]
    (refine wpAnyH_take (i := 1) (oi := _) (v := ?v2) (by simp only [List.getElem?_toArray, List.getElem?_cons_succ, List.getElem?_cons_zero]; rfl) (by kernel_rfl) (by kernel_rfl) (by kernel_rfl) (by intro _ _ _ h; exact h) (Or.inl ⟨by kernel_rfl, ?hy2⟩) (by assumption) ?rest2; case hy2 => (intro w hSw; (try dsimp only at hSw); go_simp; try with_reducible rfl))
    try simp only [Act.put, List.setIfInBounds_toArray, List.set_cons_zero, List.set_cons_succ]
    (refine wpAnyH_take (i := 2) (oi := _) (v := ?v3) (by simp only [List.getElem?_toArray, List.getElem?_cons_succ, List.getElem?_cons_zero]; rfl) (by kernel_rfl) (by kernel_rfl) (by kernel_rfl) (by intro _ _ _ h; exact h) (Or.inl ⟨by kernel_rfl, ?hy3⟩) (by assumption) ?rest3; case hy3 => (intro w hSw; (try dsimp only at hSw); go_simp; try with_reducible rfl))
    try simp only [Act.put, List.setIfInBounds_toArray, List.set_cons_zero, List.set_cons_succ]
    (refine wpAnyH_take (i := 3) (oi := _) (v := ?v4) (by simp only [List.getElem?_toArray, List.getElem?_cons_succ, List.getElem?_cons_zero]; rfl) (by kernel_rfl) (by kernel_rfl) (by kernel_rfl) (by intro _ _ _ h; exact h) (Or.inl ⟨by kernel_rfl, ?hy4⟩) (by assumption) ?rest4; case hy4 => (intro w hSw; (try dsimp only at hSw); go_simp; try with_reducible rfl))
    try simp only [Act.put, List.setIfInBounds_toArray, List.set_cons_zero, List.set_cons_succ]
    refine wpAnyH_ready (rs := [4]) (by kernel_rfl) (by simp) ?_
    refine AllReadyH.cons (by simp only [List.getElem?_toArray, List.getElem?_cons_succ, List.getElem?_cons_zero]; rfl) (fun K hK => ?_) AllReadyH.nil
    go_simp
    refine (HOR.out _).mono ?_
    rintro e w5 ⟨rfl, hb5⟩
    have HB5 := Lib.hid hb5
    have K5 := HK.out.drew.below hb5
    have C5 := HC.out.drew.below hb5
    have HK5 := Lib.hid K5
    have zz := And.intro (K5.cell 0 _ rfl) (And.intro (K5.cell 1 _ rfl) (And.intro (K5.cell 2 _ rfl) (And.intro (K5.cell 3 _ rfl) (And.intro (K5.cell 4 _ rfl) (And.intro (C5.cell 0 _ rfl) (And.intro (C5.cell 1 _ rfl) (And.intro (C5.cell 2 _ rfl) (And.intro (C5.cell 3 _ rfl) (C5.cell 4 _ rfl)))))))))
    go_wp2_with fail
    refine hK.out _ _ zz (fun hHeld4 => ?_)
    clear hK K
    try simp only [Act.put, List.setIfInBounds_toArray, List.set_cons_zero, List.set_cons_succ]
    (refine wpAnyH_take (i := 5) (oi := _) (v := ?v5) (by simp only [List.getElem?_toArray, List.getElem?_cons_succ, List.getElem?_cons_zero]; rfl) (by kernel_rfl) (by kernel_rfl) (by kernel_rfl) (by intro _ _ _ h; exact h) (Or.inl ⟨by kernel_rfl, ?hy5⟩) (by assumption) ?rest5; case hy5 => (intro w hSw; (try dsimp only at hSw); go_simp; try with_reducible rfl))
    try simp only [Act.put, List.setIfInBounds_toArray, List.set_cons_zero, List.set_cons_succ]
    (refine wpAnyH_take (i := 6) (oi := _) (v := ?v6) (by simp only [List.getElem?_toArray, List.getElem?_cons_succ, List.getElem?_cons_zero]; rfl) (by kernel_rfl) (by kernel_rfl) (by kernel_rfl) (by intro _ _ _ h; exact h) (Or.inl ⟨by kernel_rfl, ?hy6⟩) (by assumption) ?rest6; case hy6 => (intro w hSw; (try dsimp only at hSw); go_simp; try with_reducible rfl))
    try simp only [Act.put, List.setIfInBounds_toArray, List.set_cons_zero, List.set_cons_succ]
    (refine wpAnyH_take (i := 7) (oi := _) (v := _) (by simp only [List.getElem?_toArray, List.getElem?_cons_succ, List.getElem?_cons_zero]; rfl) (by kernel_rfl) (by kernel_rfl) (by kernel_rfl) (by intro _ _ _ h; exact h) (Or.inr ⟨by kernel_rfl, rfl⟩) (by assumption) ?_)
    try simp only [Act.put, List.setIfInBounds_toArray, List.set_cons_zero, List.set_cons_succ]
    (refine wpAnyH_take (i := 8) (oi := _) (v := _) (by simp only [List.getElem?_toArray, List.getElem?_cons_succ, List.getElem?_cons_zero]; rfl) (by kernel_rfl) (by kernel_rfl) (by kernel_rfl) (by intro _ _ _ h; exact h) (Or.inr ⟨by kernel_rfl, rfl⟩) (by assumption) ?_)
    try simp only [Act.put, List.setIfInBounds_toArray, List.set_cons_zero, List.set_cons_succ]
    refine wpAnyH_take (i := 9) (oi := _) (v := _) (by simp only [List.getElem?_toArray, List.getElem?_cons_succ, List.getElem?_cons_zero]; rfl) (by kernel_rfl) (by kernel_rfl) (by kernel_rfl) (by intro _ _ _ h; exact h) (Or.inr ⟨by kernel_rfl, rfl⟩) (by assumption) ?_
    try simp only [Act.put, List.setIfInBounds_toArray, List.set_cons_zero, List.set_cons_succ]
    (refine wpAnyH_take (i := 10) (oi := _) (v := ?v9) (by simp only [List.getElem?_toArray, List.getElem?_cons_succ, List.getElem?_cons_zero]; rfl) (by kernel_rfl) (by kernel_rfl) (by kernel_rfl) (by intro _ _ _ h; exact h) (Or.inl ⟨by kernel_rfl, ?hy9⟩) (by assumption) ?rest9; case hy9 => (intro w hSw; (try dsimp only at hSw); go_simp; try with_reducible rfl))
    try simp only [Act.put, List.setIfInBounds_toArray, List.set_cons_zero, List.set_cons_succ]
    (refine wpAnyH_take (i := 11) (oi := _) (v := ?v10) (by simp only [List.getElem?_toArray, List.getElem?_cons_succ, List.getElem?_cons_zero]; rfl) (by kernel_rfl) (by kernel_rfl) (by kernel_rfl) (by intro _ _ _ h; exact h) (Or.inl ⟨by kernel_rfl, ?hy10⟩) (by assumption) ?rest10; case hy10 => (intro w hSw; (try dsimp only at hSw); go_simp; try with_reducible rfl))
    try simp only [Act.put, List.setIfInBounds_toArray, List.set_cons_zero, List.set_cons_succ]
    refine wpAnyH_done (by kernel_rfl) ?_ _
    all_goals
      go_wp2
      go_ret
      refine ⟨rfl, ?_, ?_⟩
      · rw [HA.out]; exact HK5.out
      · exact drew_grown (grown_of_below HB5.out _)

set_option maxHeartbeats 8000000 in
set_option maxRecDepth 10000 in
theorem at1Take_any (key : List UInt8) (t s : Int) (c d : Nat) (x : Ent) (W : World) (P : Nat) (hP : Blk W P 48 #[.string (str x.e.key), .int .i64 x.e.t, .int .i64 x.e.s, x.v, .bool x.e.met])
    (hc : Blk W c 48 #[.string (str key), .int .i64 t, .int .i64 s, .slice none 0 0, .bool false]) (hd : Blk W d 49 #[.func (.func 24) #[] #[]]) (hv : ∃ A n k, x.v = .slice A n k) :
    Calls Tryz.prog 49 #[.pointer (some ⟨P, 0, none⟩), .pointer (some ⟨c, 0, none⟩), .pointer (some ⟨d, 0, none⟩)] W fun e w2 => e = .returned (.bool (!atE key t s x.e)) ∧
      Blk w2 P 48 #[.string (str x.e.key), .int .i64 x.e.t, .int .i64 x.e.s, x.v, .bool x.e.met] ∧ W.grownBy w2 (some P) := by
  have HOR := Lib.hid (fun w' => order_ent x (placeE key t s) w')
  have HAT : Hid (atE key t s x.e = decide (cmpE x.e (placeE key t s).e = 0)) := Lib.hid (atE_iff false [])
  generalize hR : cmpE x.e (placeE key t s).e = R at HAT HOR
  generalize atE key t s x.e = AT at HAT ⊢
  obtain ⟨A, n, k, hv⟩ := hv
  rw [placeE_agg] at HOR
  unfold Ent.agg at HOR
  rw [hv] at HOR hP ⊢
  have HK := Lib.hid hP
  have HC := Lib.hid hc
  have HD := Lib.hid hd
  have x0 := hP.cell 0 _ rfl
  have x1 := hP.cell 1 _ rfl
  have x2 := hP.cell 2 _ rfl
  have x3 := hP.cell 3 _ rfl
  have x4 := hP.cell 4 _ rfl
  have y0 := hc.cell 0 _ rfl
  have y1 := hc.cell 1 _ rfl
  have y2 := hc.cell 2 _ rfl
  have y3 := hc.cell 3 _ rfl
  have y4 := hc.cell 4 _ rfl
  have d0 := hd.cell 0 _ rfl
  clear hR hP hc hd hv
  by_cases h0 : R = 0
  · have HA : Hid (AT = true) := Lib.hid (HAT.out.trans (decide_eq_true h0))
    have hb0 : (R != 0) = false := by simp [h0]
    clear HAT
    go_enter Tryz.func49, Tryz.ntmps49
    go_wp2_with fail
    go_region_with (first
      | (go_at_call 39
         refine (HOR.out _).mono ?_
         rintro e w5 ⟨rfl, hb5⟩
         have HB5 := Lib.hid hb5
         have HK5 := Lib.hid (HK.out.drew.below hb5)
         have d1 := (HD.out.drew.below hb5).cell 0 _ rfl
         clear hb5)
      | (go_at_call 24
         refine (take1_any P _).mono ?_
         rintro e w6 ⟨rfl, rfl⟩))
    all_goals
      go_wp2
      go_ret
      refine ⟨?_, HK5.out, drew_grown (grown_of_below HB5.out _)⟩
      first
        | rfl
        | (rw [HA.out]; rfl)
  · have HA : Hid (AT = false) := Lib.hid (HAT.out.trans (decide_eq_false h0))
    have hb0 := bneT h0
    clear HAT
    go_enter Tryz.func49, Tryz.ntmps49
    go_wp2_with fail
    refine wp_region_held_drew (S := (fun w' => w'.cell? ⟨P, 0, none⟩ = some (.string (str x.e.key)) ∧ w'.cell? ⟨P, 1, none⟩ = some (.int .i64 x.e.t) ∧ w'.cell? ⟨P, 2, none⟩ = some (.int .i64 x.e.s) ∧ w'.cell? ⟨P, 3, none⟩ = some (.slice A n k) ∧ w'.cell? ⟨P, 4, none⟩ = some (.bool x.e.met) ∧ w'.cell? ⟨c, 0, none⟩ = some (.string (str key)) ∧ w'.cell? ⟨c, 1, none⟩ = some (.int .i64 t) ∧ w'.cell? ⟨c, 2, none⟩ = some (.int .i64 s) ∧ w'.cell? ⟨c, 3, none⟩ = some (.slice none 0 0) ∧ w'.cell? ⟨c, 4, none⟩ = some (.bool false))) (by kernel_rfl) (And.intro (x0) (And.intro (x1) (And.intro (x2) (And.intro (x3) (And.intro (x4) (And.intro (y0) (And.intro (y1) (And.intro (y2) (And.intro (y3) (y4)))))))))) (fun hHeld => ?_)
    (refine wpAnyH_take (i := 0) (oi := _) (v := ?v11) (by simp only [List.getElem?_toArray, List.getElem?_cons_succ, List.getElem?_cons_zero]; rfl) (by kernel_rfl) (by kernel_rfl) (by kernel_rfl) (by intro _ _ _ h; exact h) (Or.inl ⟨by kernel_rfl, ?hy11⟩) (by assumption) ?rest11; case hy11 => (intro w hSw; (try dsimp only at hSw); go_simp; try with_reducible rfl))
    try simp only [Act.put, List.setIfInBounds_toArray, List.set_cons_zero, List.set_cons_succ]
    (refine wpAnyH_take (i := 1) (oi := _) (v := ?v12) (by simp only [List.getElem?_toArray, List.getElem?_cons_succ, List.getElem?_cons_zero]; rfl) (by kernel_rfl) (by kernel_rfl) (by kernel_rfl) (by intro _ _ _ h; exact h) (Or.inl ⟨by kernel_rfl, ?hy12⟩) (by assumption) ?rest12; case hy12 => (intro w hSw; (try dsimp only at hSw); go_simp; try with_reducible rfl))
    try simp only [Act.put, List.setIfInBounds_toArray, List.set_cons_zero, List.set_cons_succ]
    (refine wpAnyH_take (i := 2) (oi := _) (v := ?v13) (by simp only [List.getElem?_toArray, List.getElem?_cons_succ, List.getElem?_cons_zero]; rfl) (by kernel_rfl) (by kernel_rfl) (by kernel_rfl) (by intro _ _ _ h; exact h) (Or.inl ⟨by kernel_rfl, ?hy13⟩) (by assumption) ?rest13; case hy13 => (intro w hSw; (try dsimp only at hSw); go_simp; try with_reducible rfl))
    try simp only [Act.put, List.setIfInBounds_toArray, List.set_cons_zero, List.set_cons_succ]
    (refine wpAnyH_take (i := 3) (oi := _) (v := ?v14) (by simp only [List.getElem?_toArray, List.getElem?_cons_succ, List.getElem?_cons_zero]; rfl) (by kernel_rfl) (by kernel_rfl) (by kernel_rfl) (by intro _ _ _ h; exact h) (Or.inl ⟨by kernel_rfl, ?hy14⟩) (by assumption) ?rest14; case hy14 => (intro w hSw; (try dsimp only at hSw); go_simp; try with_reducible rfl))
    try simp only [Act.put, List.setIfInBounds_toArray, List.set_cons_zero, List.set_cons_succ]
    refine wpAnyH_ready (rs := [4]) (by kernel_rfl) (by simp) ?_
    refine AllReadyH.cons (by simp only [List.getElem?_toArray, List.getElem?_cons_succ, List.getElem?_cons_zero]; rfl) (fun K hK => ?_) AllReadyH.nil
    go_simp
    refine (HOR.out _).mono ?_
    rintro e w5 ⟨rfl, hb5⟩
    have HB5 := Lib.hid hb5
    have K5 := HK.out.drew.below hb5
    have C5 := HC.out.drew.below hb5
    have HK5 := Lib.hid K5
    have zz := And.intro (K5.cell 0 _ rfl) (And.intro (K5.cell 1 _ rfl) (And.intro (K5.cell 2 _ rfl) (And.intro (K5.cell 3 _ rfl) (And.intro (K5.cell 4 _ rfl) (And.intro (C5.cell 0 _ rfl) (And.intro (C5.cell 1 _ rfl) (And.intro (C5.cell 2 _ rfl) (And.intro (C5.cell 3 _ rfl) (C5.cell 4 _ rfl)))))))))
    go_wp2_with fail
    refine hK.out _ _ zz (fun hHeld4 => ?_)
    clear hK K
    try simp only [Act.put, List.setIfInBounds_toArray, List.set_cons_zero, List.set_cons_succ]
    (refine wpAnyH_take (i := 5) (oi := _) (v := ?v15) (by simp only [List.getElem?_toArray, List.getElem?_cons_succ, List.getElem?_cons_zero]; rfl) (by kernel_rfl) (by kernel_rfl) (by kernel_rfl) (by intro _ _ _ h; exact h) (Or.inl ⟨by kernel_rfl, ?hy15⟩) (by assumption) ?rest15; case hy15 => (intro w hSw; (try dsimp only at hSw); go_simp; try with_reducible rfl))
    try simp only [Act.put, List.setIfInBounds_toArray, List.set_cons_zero, List.set_cons_succ]
    (refine wpAnyH_take (i := 6) (oi := _) (v := ?v16) (by simp only [List.getElem?_toArray, List.getElem?_cons_succ, List.getElem?_cons_zero]; rfl) (by kernel_rfl) (by kernel_rfl) (by kernel_rfl) (by intro _ _ _ h; exact h) (Or.inl ⟨by kernel_rfl, ?hy16⟩) (by assumption) ?rest16; case hy16 => (intro w hSw; (try dsimp only at hSw); go_simp; try with_reducible rfl))
    try simp only [Act.put, List.setIfInBounds_toArray, List.set_cons_zero, List.set_cons_succ]
    (refine wpAnyH_take (i := 7) (oi := _) (v := _) (by simp only [List.getElem?_toArray, List.getElem?_cons_succ, List.getElem?_cons_zero]; rfl) (by kernel_rfl) (by kernel_rfl) (by kernel_rfl) (by intro _ _ _ h; exact h) (Or.inr ⟨by kernel_rfl, rfl⟩) (by assumption) ?_)
    try simp only [Act.put, List.setIfInBounds_toArray, List.set_cons_zero, List.set_cons_succ]
    (refine wpAnyH_take (i := 8) (oi := _) (v := _) (by simp only [List.getElem?_toArray, List.getElem?_cons_succ, List.getElem?_cons_zero]; rfl) (by kernel_rfl) (by kernel_rfl) (by kernel_rfl) (by intro _ _ _ h; exact h) (Or.inr ⟨by kernel_rfl, rfl⟩) (by assumption) ?_)
    try simp only [Act.put, List.setIfInBounds_toArray, List.set_cons_zero, List.set_cons_succ]
    refine wpAnyH_take (i := 9) (oi := _) (v := _) (by simp only [List.getElem?_toArray, List.getElem?_cons_succ, List.getElem?_cons_zero]; rfl) (by kernel_rfl) (by kernel_rfl) (by kernel_rfl) (by intro _ _ _ h; exact h) (Or.inr ⟨by kernel_rfl, rfl⟩) (by assumption) ?_
    try simp only [Act.put, List.setIfInBounds_toArray, List.set_cons_zero, List.set_cons_succ]
    (refine wpAnyH_take (i := 10) (oi := _) (v := ?v19) (by simp only [List.getElem?_toArray, List.getElem?_cons_succ, List.getElem?_cons_zero]; rfl) (by kernel_rfl) (by kernel_rfl) (by kernel_rfl) (by intro _ _ _ h; exact h) (Or.inl ⟨by kernel_rfl, ?hy19⟩) (by assumption) ?rest19; case hy19 => (intro w hSw; (try dsimp only at hSw); go_simp; try with_reducible rfl))
    try simp only [Act.put, List.setIfInBounds_toArray, List.set_cons_zero, List.set_cons_succ]
    (refine wpAnyH_take (i := 11) (oi := _) (v := ?v20) (by simp only [List.getElem?_toArray, List.getElem?_cons_succ, List.getElem?_cons_zero]; rfl) (by kernel_rfl) (by kernel_rfl) (by kernel_rfl) (by intro _ _ _ h; exact h) (Or.inl ⟨by kernel_rfl, ?hy20⟩) (by assumption) ?rest20; case hy20 => (intro w hSw; (try dsimp only at hSw); go_simp; try with_reducible rfl))
    try simp only [Act.put, List.setIfInBounds_toArray, List.set_cons_zero, List.set_cons_succ]
    refine wpAnyH_done (by kernel_rfl) ?_ _
    all_goals
      go_wp2
      go_ret
      refine ⟨?_, HK5.out, drew_grown (grown_of_below HB5.out _)⟩
      first
        | rfl
        | (rw [HA.out]; rfl)
end Go.Proofs.YteabfalklgffmaaGreatDoor
