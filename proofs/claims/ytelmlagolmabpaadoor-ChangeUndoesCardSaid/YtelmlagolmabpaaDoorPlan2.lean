/-
  Plans: ranges, counts.
-/
import Derived.Test.YtelmlagolmabpaaDoorPlan1
namespace Go.Proofs.YtelmlagolmabpaaDoor
open Go.RowKit
open tm (fitsB fits_any)

def rangesB (p : Pl) : Bool :=
  (if p.kind = 1 then fitsB p.low && (fitsB p.high && p.size == 0) else if p.kind = 2 then p.low == 0 && (p.high == 0 && btw p.size 1 1099511627776) else p.low == 0 && (p.high == 0 && p.size == 0)) && btw p.limit 1 64
theorem bne_of {a b : Int} {q : Bool} (h : (a == b) = q) : (a != b) = !q := by rw [bne, h]

set_option maxHeartbeats 4000000 in
set_option maxRecDepth 10000 in
theorem ranges_any (p : Pl) (w : World) :
    Calls Tryd.prog 59 #[.agg #[.int .i64 p.kind, .int .i64 p.mode, .int .i64 p.low, .int .i64 p.high, .int .i64 p.size, .int .i64 p.limit, p.vl, p.vr, p.vk, p.vq, .bool p.grouped, p.vg, p.va]] w fun e w' => e = .returned (.bool (rangesB p)) ∧ Below w.heap.size w w' := by
  have hB := below_alloc w (.cells #[.int .i64 p.kind, .int .i64 p.mode, .int .i64 p.low, .int .i64 p.high, .int .i64 p.size, .int .i64 p.limit, p.vl, p.vr, p.vk, p.vq, .bool p.grouped, p.vg, p.va] 25)
  obtain ⟨kind, mode, low, high, size, limit, vl, vr, vk, vq, grouped, vg, va, left, right, lkeys, rkeys, group, aggs⟩ := p
  simp only at hB ⊢
  by_cases hk : kind = 1
  · have hb := beqT hk
    have H := Lib.hid (show rangesB ⟨kind, mode, low, high, size, limit, vl, vr, vk, vq, grouped, vg, va, left, right, lkeys, rkeys, group, aggs⟩ = ((fitsB low && (fitsB high && size == 0)) && btw limit 1 64) from by simp [rangesB, hk])
    clear hk
    cases h1 : fitsB low <;> cases h2 : fitsB high <;> cases h3 : (size == 0) <;> cases h4 : btw limit 1 64
    all_goals
      have g3 := bne_of h3
      simp only [Bool.not_true, Bool.not_false] at g3
      have R := Lib.hid (H.out.trans (by rw [h1, h2, h3, h4]))
      clear H
      go_enter Tryd.func59, Tryd.ntmps59
      go_wp2_with (first
        | (go_at_call 87; refine (between_any _ _ _ _).mono ?_; rintro e w' ⟨rfl, rfl⟩)
        | (go_at_call 27; refine (fits_any _ _).mono ?_; rintro e w' ⟨rfl, rfl⟩))
      go_ret
      exact ⟨ret_bool (by rw [R.out]; rfl), hB⟩
  · by_cases hk2 : kind = 2
    · have hb0 := beqF hk
      have hb := beqT hk2
      have H := Lib.hid (show rangesB ⟨kind, mode, low, high, size, limit, vl, vr, vk, vq, grouped, vg, va, left, right, lkeys, rkeys, group, aggs⟩ = ((low == 0 && (high == 0 && btw size 1 1099511627776)) && btw limit 1 64) from by simp [rangesB, hk2])
      clear hk hk2
      cases h1 : (low == 0) <;> cases h2 : (high == 0) <;> cases h3 : btw size 1 1099511627776 <;> cases h4 : btw limit 1 64
      all_goals
        have g1 := bne_of h1
        have g2 := bne_of h2
        simp only [Bool.not_true, Bool.not_false] at g1 g2
        have R := Lib.hid (H.out.trans (by rw [h1, h2, h3, h4]))
        clear H
        go_enter Tryd.func59, Tryd.ntmps59
        go_wp2_with (first
          | (go_at_call 87; refine (between_any _ _ _ _).mono ?_; rintro e w' ⟨rfl, rfl⟩)
          | (go_at_call 27; refine (fits_any _ _).mono ?_; rintro e w' ⟨rfl, rfl⟩))
        go_ret
        exact ⟨ret_bool (by rw [R.out]; rfl), hB⟩
    · have hb0 := beqF hk
      have hb := beqF hk2
      have H := Lib.hid (show rangesB ⟨kind, mode, low, high, size, limit, vl, vr, vk, vq, grouped, vg, va, left, right, lkeys, rkeys, group, aggs⟩ = ((low == 0 && (high == 0 && size == 0)) && btw limit 1 64) from by simp [rangesB, hk, hk2])
      clear hk hk2
      cases h1 : (low == 0) <;> cases h2 : (high == 0) <;> cases h3 : (size == 0) <;> cases h4 : btw limit 1 64
      all_goals
        have g1 := bne_of h1
        have g2 := bne_of h2
        have g3 := bne_of h3
        simp only [Bool.not_true, Bool.not_false] at g1 g2 g3
        have R := Lib.hid (H.out.trans (by rw [h1, h2, h3, h4]))
        clear H
        go_enter Tryd.func59, Tryd.ntmps59
        go_wp2_with (first
          | (go_at_call 87; refine (between_any _ _ _ _).mono ?_; rintro e w' ⟨rfl, rfl⟩)
          | (go_at_call 27; refine (fits_any _ _).mono ?_; rintro e w' ⟨rfl, rfl⟩))
        go_ret
        exact ⟨ret_bool (by rw [R.out]; rfl), hB⟩

def lens (p : Pl) : List Bool := [btw p.left.length 1 4, btw p.right.length 1 4, btw p.lkeys.length 1 4, btw p.rkeys.length 1 4]
def countsB (p : Pl) : Bool := allB id (lens p) && (if p.grouped then btw p.aggs.length 1 4 && decide ((p.group.length : Int) ≤ 8 - p.aggs.length) else (p.group.length : Int) + p.aggs.length == 0)

set_option maxHeartbeats 4000000 in
set_option maxRecDepth 10000 in
theorem counts_any (p : Pl) (w : World) (h : p.ok w) :
    Calls Tryd.prog 60 #[.agg #[.int .i64 p.kind, .int .i64 p.mode, .int .i64 p.low, .int .i64 p.high, .int .i64 p.size, .int .i64 p.limit, p.vl, p.vr, p.vk, p.vq, .bool p.grouped, p.vg, p.va]] w fun e w' => e = .returned (.bool (countsB p)) ∧ Below w.heap.size w w' := by
  obtain ⟨kind, mode, low, high, size, limit, vl, vr, vk, vq, grouped, vg, va, left, right, lkeys, rkeys, group, aggs⟩ := p
  obtain ⟨sl, sr, sk, sq, sg, sa⟩ := h
  simp only at sl sr sk sq sg sa ⊢
  obtain ⟨A0, c0, rfl, n0, m0, -⟩ := sl
  obtain ⟨A1, c1, rfl, n1, m1, -⟩ := sr
  obtain ⟨A2, c2, rfl, n2, m2, -⟩ := sk
  obtain ⟨A3, c3, rfl, n3, m3, -⟩ := sq
  obtain ⟨A4, c4, rfl, n4, m4, -⟩ := sg
  obtain ⟨A5, c5, rfl, n5, m5, -⟩ := sa
  unfold maxLen at m0 m1 m2 m3 m4 m5
  have K1 := new_first w 25 #[.int .i64 kind, .int .i64 mode, .int .i64 low, .int .i64 high, .int .i64 size, .int .i64 limit, .slice A0 left.length c0, .slice A1 right.length c1, .slice A2 lkeys.length c2, .slice A3 rkeys.length c3, .bool grouped, .slice A4 group.length c4, .slice A5 aggs.length c5] (.cells #[.slice A0 left.length c0, .slice A1 right.length c1, .slice A2 lkeys.length c2, .slice A3 rkeys.length c3] 22)
  have K2 := new_second w 22 #[.slice A0 left.length c0, .slice A1 right.length c1, .slice A2 lkeys.length c2, .slice A3 rkeys.length c3] (.cells #[.int .i64 kind, .int .i64 mode, .int .i64 low, .int .i64 high, .int .i64 size, .int .i64 limit, .slice A0 left.length c0, .slice A1 right.length c1, .slice A2 lkeys.length c2, .slice A3 rkeys.length c3, .bool grouped, .slice A4 group.length c4, .slice A5 aggs.length c5] 25)
  have hB := fun o1 o2 => below_trans (below_alloc w o1) (below_alloc _ o2)
  have HL : Hid (lens ⟨kind, mode, low, high, size, limit, .slice A0 left.length c0, .slice A1 right.length c1, .slice A2 lkeys.length c2, .slice A3 rkeys.length c3, grouped, .slice A4 group.length c4, .slice A5 aggs.length c5, left, right, lkeys, rkeys, group, aggs⟩ = [btw left.length 1 4, btw right.length 1 4, btw lkeys.length 1 4, btw rkeys.length 1 4]) := Lib.hid rfl
  have HC : Hid (countsB ⟨kind, mode, low, high, size, limit, .slice A0 left.length c0, .slice A1 right.length c1, .slice A2 lkeys.length c2, .slice A3 rkeys.length c3, grouped, .slice A4 group.length c4, .slice A5 aggs.length c5, left, right, lkeys, rkeys, group, aggs⟩ =
    (allB id [btw left.length 1 4, btw right.length 1 4, btw lkeys.length 1 4, btw rkeys.length 1 4] && (if grouped then btw aggs.length 1 4 && decide ((group.length : Int) ≤ 8 - aggs.length) else (group.length : Int) + aggs.length == 0))) := Lib.hid rfl
  generalize countsB ⟨kind, mode, low, high, size, limit, .slice A0 left.length c0, .slice A1 right.length c1, .slice A2 lkeys.length c2, .slice A3 rkeys.length c3, grouped, .slice A4 group.length c4, .slice A5 aggs.length c5, left, right, lkeys, rkeys, group, aggs⟩ = R at HC ⊢
  clear HL
  have z0 := K2.cell 0 _ rfl
  have z1 := K2.cell 1 _ rfl
  have z2 := K2.cell 2 _ rfl
  have z3 := K2.cell 3 _ rfl
  have ZZ := Lib.hid (And.intro z0 (And.intro z1 (And.intro z2 z3)))
  have y0 := K1.cell 10 _ rfl
  have y1 := K1.cell 11 _ rfl
  have y2 := K1.cell 12 _ rfl
  clear z0 z1 z2 z3 K1 K2
  have HB := Lib.hid hB
  clear hB
  obtain ⟨bs, hbs⟩ : ∃ bs : List Bool, bs = [btw left.length 1 4, btw right.length 1 4, btw lkeys.length 1 4, btw rkeys.length 1 4] := ⟨_, rfl⟩
  have HBS := Lib.hid hbs
  have HW := Lib.hid (show (wrap64 ((group.length : Int) + aggs.length) == 0) = ((group.length : Int) + aggs.length == 0) from by rw [Bool.eq_iff_iff]; simp only [beq_iff_eq]; unfold wrap64; omega)
  clear hbs
  go_enter Tryd.func60, Tryd.ntmps60
  go_wp2
  go_loop [4, 15] (fun _ i => ∃ k : Nat, k ≤ 4 ∧ i = .int .i64 k ∧ Hid (∀ b ∈ bs.take k, id b = true)) (fun _ i => 4 - (intOf i).toNat)
  case atStart => exact ⟨0, by omega, rfl, by simp [Hid]⟩
  case round =>
    obtain ⟨k, hk, rfl, H⟩ := hrel
    have hk4 : k = 0 ∨ k = 1 ∨ k = 2 ∨ k = 3 ∨ k = 4 := by omega
    rcases hk4 with rfl | rfl | rfl | rfl | rfl
    · obtain ⟨z0, z1, z2, z3⟩ := ZZ.out
      cases hq : btw left.length 1 4
      · have E := Lib.hid (all_no (f := id) (l := bs) (k := 0) (by rw [HBS.out]; rfl) hq)
        clear H
        go_wp2_with (go_at_call 87; refine (between_any _ _ _ _).mono ?_; rintro e w' ⟨rfl, rfl⟩)
        go_ret
        exact ⟨ret_bool (by rw [HC.out, ← HBS.out, E.out]; rfl), HB.out _ _⟩
      · have E := Lib.hid (all_step (f := id) (l := bs) (k := 0) H.out (by rw [HBS.out]; rfl) hq)
        clear H
        go_wp2_with (go_at_call 87; refine (between_any _ _ _ _).mono ?_; rintro e w' ⟨rfl, rfl⟩)
        go_round
        case rel => exact ⟨1, by omega, by go_num, E.out⟩
        case measure => simp [intOf]
    · obtain ⟨z0, z1, z2, z3⟩ := ZZ.out
      cases hq : btw right.length 1 4
      · have E := Lib.hid (all_no (f := id) (l := bs) (k := 1) (by rw [HBS.out]; rfl) hq)
        clear H
        go_wp2_with (go_at_call 87; refine (between_any _ _ _ _).mono ?_; rintro e w' ⟨rfl, rfl⟩)
        go_ret
        exact ⟨ret_bool (by rw [HC.out, ← HBS.out, E.out]; rfl), HB.out _ _⟩
      · have E := Lib.hid (all_step (f := id) (l := bs) (k := 1) H.out (by rw [HBS.out]; rfl) hq)
        clear H
        go_wp2_with (go_at_call 87; refine (between_any _ _ _ _).mono ?_; rintro e w' ⟨rfl, rfl⟩)
        go_round
        case rel => exact ⟨2, by omega, by go_num, E.out⟩
        case measure => simp [intOf]
    · obtain ⟨z0, z1, z2, z3⟩ := ZZ.out
      cases hq : btw lkeys.length 1 4
      · have E := Lib.hid (all_no (f := id) (l := bs) (k := 2) (by rw [HBS.out]; rfl) hq)
        clear H
        go_wp2_with (go_at_call 87; refine (between_any _ _ _ _).mono ?_; rintro e w' ⟨rfl, rfl⟩)
        go_ret
        exact ⟨ret_bool (by rw [HC.out, ← HBS.out, E.out]; rfl), HB.out _ _⟩
      · have E := Lib.hid (all_step (f := id) (l := bs) (k := 2) H.out (by rw [HBS.out]; rfl) hq)
        clear H
        go_wp2_with (go_at_call 87; refine (between_any _ _ _ _).mono ?_; rintro e w' ⟨rfl, rfl⟩)
        go_round
        case rel => exact ⟨3, by omega, by go_num, E.out⟩
        case measure => simp [intOf]
    · obtain ⟨z0, z1, z2, z3⟩ := ZZ.out
      cases hq : btw rkeys.length 1 4
      · have E := Lib.hid (all_no (f := id) (l := bs) (k := 3) (by rw [HBS.out]; rfl) hq)
        clear H
        go_wp2_with (go_at_call 87; refine (between_any _ _ _ _).mono ?_; rintro e w' ⟨rfl, rfl⟩)
        go_ret
        exact ⟨ret_bool (by rw [HC.out, ← HBS.out, E.out]; rfl), HB.out _ _⟩
      · have E := Lib.hid (all_step (f := id) (l := bs) (k := 3) H.out (by rw [HBS.out]; rfl) hq)
        clear H
        go_wp2_with (go_at_call 87; refine (between_any _ _ _ _).mono ?_; rintro e w' ⟨rfl, rfl⟩)
        go_round
        case rel => exact ⟨4, by omega, by go_num, E.out⟩
        case measure => simp [intOf]
    · have E := Lib.hid (all_yes (f := id) (l := bs) (by have := H.out; rw [HBS.out] at this ⊢; exact this))
      clear H ZZ
      cases grouped
      · cases hq : ((group.length : Int) + aggs.length == 0)
        all_goals
          have HQ := Lib.hid (HC.out.trans (by rw [← HBS.out, E.out, hq]))
          go_wp2
          go_ret
          exact ⟨ret_bool (by rw [HQ.out, HW.out, hq]; rfl), HB.out _ _⟩
      · cases h1 : btw aggs.length 1 4
        · have HQ := Lib.hid (HC.out.trans (by rw [← HBS.out, E.out, h1]))
          go_wp2_with (go_at_call 87; refine (between_any _ _ _ _).mono ?_; rintro e w' ⟨rfl, rfl⟩)
          go_ret
          exact ⟨ret_bool (by rw [HQ.out]; rfl), HB.out _ _⟩
        · cases hq : decide ((group.length : Int) ≤ 8 - aggs.length)
          all_goals
            have HQ := Lib.hid (HC.out.trans (by rw [← HBS.out, E.out, h1, hq]))
            go_wp2_with (go_at_call 87; refine (between_any _ _ _ _).mono ?_; rintro e w' ⟨rfl, rfl⟩)
            go_ret
            exact ⟨ret_bool (by rw [HQ.out]; first | rfl | exact hq), HB.out _ _⟩

end Go.Proofs.YtelmlagolmabpaaDoor
