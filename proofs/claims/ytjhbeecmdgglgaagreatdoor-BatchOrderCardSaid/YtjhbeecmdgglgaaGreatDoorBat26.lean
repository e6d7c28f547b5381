/-
  Batches: the law BatchOrder. (Printed by genbat26.py.)
-/
import Derived.Test.YtjhbeecmdgglgaaGreatDoorBat23
import Derived.Test.YtjhbeecmdgglgaaGreatDoorBat25
import Derived.Test.YtjhbeecmdgglgaaGreatDoorGrpX15
import Derived.Test.YtjhbeecmdgglgaaGreatDoorGrpX43
set_option linter.unusedSimpArgs false
set_option linter.unusedVariables false
namespace Go.Proofs.YtjhbeecmdgglgaaGreatDoor
open Go.RowKit

theorem ball_like (p : Pl) (vL vR : Value) (L R : List Chn) (A : AV) (w : World) (h : p.ok w) (hfit : p.fit) (hL : Chs w vL L) (hR : Chs w vR R) (hfl : ∀ x ∈ L, Fine x.r) (hfr : ∀ x ∈ R, Fine x.r) (hm : Mx w) (hz : batchE p (ac L) (ac R) = 0) (hv : allV p (ac L) (ac R) = A) :
    Calls Tryz.prog 22 #[.agg #[.int .i64 p.kind, .int .i64 p.mode, .int .i64 p.low, .int .i64 p.high, .int .i64 p.size, .int .i64 p.limit, p.vl, p.vr, p.vk, p.vq, .bool p.grouped, p.vg, p.va], vL, vR] w fun e w' => ∃ v' l', e = .returned (.tuple #[v', .int .i64 0]) ∧ View w' v' l' ∧ av l' = A ∧ Below w.heap.size w w' := by
  have h1 := ball_any p vL vR L R w h hfit hL hR hfl hfr hm
  rw [hz, hv] at h1
  exact h1
theorem ac_swap (l : List Chn) (i k : Nat) : (ac (swapI l i k)).Perm (ac l) := by
  have e : ac (swapI l i k) = swapI (ac l) i k := swapI_map _ l i k
  rw [e]
  exact swapI_perm _ _ _
theorem ac_time {R : List Chn} {i : Nat} {x : Chn} (h : R[i]? = some x) : ((ac R).getD i zC).1 = x.k := by
  unfold ac
  rw [List.getD_eq_getElem?_getD, List.getElem?_map, h]
  rfl
set_option maxHeartbeats 8000000 in
set_option maxRecDepth 10000 in
theorem batchOrder_walk (p : Pl) (vL vR : Value) (L R : List Chn) (a b : Int) (w : World) (h : p.ok w) (hfit : p.fit) (hL : Chs w vL L) (hcL : FineC L) (hR : Chs w vR R) (hcR : FineC R) (hca : -9223372036854775808 ≤ a ∧ a ≤ 9223372036854775807) (hcb : -9223372036854775808 ≤ b ∧ b ≤ 9223372036854775807) (hm : Mx w) :
    Calls Tryz.prog 7 #[.agg #[.int .i64 p.kind, .int .i64 p.mode, .int .i64 p.low, .int .i64 p.high, .int .i64 p.size, .int .i64 p.limit, p.vl, p.vr, p.vk, p.vq, .bool p.grouped, p.vg, p.va], vL, vR, .int .i64 a, .int .i64 b] w fun e w' => e = .returned (.bool true) ∧ Below w.heap.size w w' := by
  have hfl := hcL.rows
  have hfr := hcR.rows
  have HM := Lib.hid hm
  have HLC := Lib.hid hL
  have HRC := Lib.hid hR
  have HJ := Lib.hid (fun (W : World) (hb : Below w.heap.size w W) => ball_any p vL vR L R W (h.below hb) hfit (hL.below hb) (hR.below hb) hfl hfr (hm.below hb))
  have HFEW : Hid (batchE p (ac L) (ac R) = 0 → L.length ≤ 1000 ∧ R.length ≤ 1000) := Lib.hid fun hz => by
    have h1 := (batch_zero.1 hz).few
    unfold ac at h1
    rw [List.length_map, List.length_map] at h1
    omega
  have HSL := Lib.hid (fun (hz : batchE p (ac L) (ac R) = 0) (W : World) (hb : Below w.heap.size w W) => swapped_any vL L a b W (hL.below hb) (HFEW.out hz).1 hca hcb)
  have HSR := Lib.hid (fun (hz : batchE p (ac L) (ac R) = 0) (W : World) (hb : Below w.heap.size w W) => swapped_any vR R a b W (hR.below hb) (HFEW.out hz).2 hca hcb)
  have HLL := Lib.hid (fun (hz : batchE p (ac L) (ac R) = 0) (W : World) (v : Value) (i k : Nat) (hb : Below w.heap.size w W) (hv : Chs W v (swapI L i k)) => ball_like p v vR (swapI L i k) R (allV p (ac L) (ac R)) W (h.below hb) hfit hv (hR.below hb) (fun x hx => hfl x (swapI_mem hx)) hfr (hm.below hb) (order_left hz (nums_ac hfl hfr) (ac_swap L i k)).1 (order_left hz (nums_ac hfl hfr) (ac_swap L i k)).2)
  have HRR := Lib.hid (fun (hz : batchE p (ac L) (ac R) = 0) (hu : p.kind = 3 → unlikeT (ac R)) (W : World) (v : Value) (i k : Nat) (hb : Below w.heap.size w W) (hv : Chs W v (swapI R i k)) => ball_like p vL v L (swapI R i k) (allV p (ac L) (ac R)) W (h.below hb) hfit (hL.below hb) hv hfl (fun x hx => hfr x (swapI_mem hx)) (hm.below hb) (order_right hz (nums_ac hfl hfr) hu (ac_swap R i k)).1 (order_right hz (nums_ac hfl hfr) hu (ac_swap R i k)).2)
  obtain ⟨AV0, hAV⟩ : ∃ y, allV p (ac L) (ac R) = y := ⟨_, rfl⟩
  rw [hAV] at HJ HLL HRR
  clear hAV
  obtain ⟨E, hE⟩ : ∃ y, batchE p (ac L) (ac R) = y := ⟨_, rfl⟩
  rw [hE] at HJ HLL HRR HSL HSR HFEW
  clear hE
  obtain ⟨A0, c0, h0, n0, m0, -⟩ := id h.l
  obtain ⟨A1, c1, h1, n1, m1, -⟩ := id h.r
  obtain ⟨A2, c2, h2, n2, m2, -⟩ := id h.k
  obtain ⟨A3, c3, h3, n3, m3, -⟩ := id h.q
  obtain ⟨A4, c4, h4, n4, m4, -⟩ := id h.g
  obtain ⟨A5, c5, h5, n5, m5, -⟩ := id h.a
  obtain ⟨AL, cL, rfl, -⟩ := id hL.sl
  obtain ⟨AR, cR, rfl, nR, mR, -⟩ := id hR.sl
  rw [h0, h1, h2, h3, h4, h5] at HJ HLL HRR ⊢
  have HB := Lib.hid (below_alloc w (.cells #[.int .i64 p.kind, .int .i64 p.mode, .int .i64 p.low, .int .i64 p.high, .int .i64 p.size, .int .i64 p.limit, .slice A0 p.left.length c0, .slice A1 p.right.length c1, .slice A2 p.lkeys.length c2, .slice A3 p.rkeys.length c3, .bool p.grouped, .slice A4 p.group.length c4, .slice A5 p.aggs.length c5] 25))
  have HK0 := Lib.hid (Blk.new w 25 #[.int .i64 p.kind, .int .i64 p.mode, .int .i64 p.low, .int .i64 p.high, .int .i64 p.size, .int .i64 p.limit, .slice A0 p.left.length c0, .slice A1 p.right.length c1, .slice A2 p.lkeys.length c2, .slice A3 p.rkeys.length c3, .bool p.grouped, .slice A4 p.group.length c4, .slice A5 p.aggs.length c5])
  obtain ⟨W1, hW1⟩ : ∃ V, w.alloc (.cells #[.int .i64 p.kind, .int .i64 p.mode, .int .i64 p.low, .int .i64 p.high, .int .i64 p.size, .int .i64 p.limit, .slice A0 p.left.length c0, .slice A1 p.right.length c1, .slice A2 p.lkeys.length c2, .slice A3 p.rkeys.length c3, .bool p.grouped, .slice A4 p.group.length c4, .slice A5 p.aggs.length c5] 25) = V := ⟨_, rfl⟩
  rw [hW1] at HB HK0
  have hb1 := HB.out
  obtain ⟨z0, z1, z2, z3, z4, z5, z6, z7, z8, z9, z10, z11, z12⟩ := pl_cells HK0.out
  clear h h0 h1 h2 h3 h4 h5 n0 n1 n2 n3 n4 n5 m0 m1 m2 m3 m4 m5 hL hR hcL hcR hfl hfr hfit hm hca hcb
  go_enter Tryz.func7, Tryz.ntmps7
  go_wp2_with fail
  refine Calls.mono (by with_reducible exact HJ.out _ hb1) ?_
  rintro e w2 ⟨v2, l2, rfl, hV2, ha2, hb2⟩
  have HV2 := Lib.hid hV2
  have HA2 := Lib.hid ha2
  obtain ⟨Av, cv, rfl, -⟩ := id hV2.sl
  have hy2 := hb2
  have hbw2 := below_trans hb1 hb2
  clear hV2 ha2 hb2 hW1 z0 z1 z2 z3 z4 z5 z6 z7 z8 z9 z10 z11 z12 HJ
  by_cases hz : E = 0
  · subst hz
    have HLLz := Lib.hid (HLL.out (by trivial))
    clear HLL
    have HRRz := Lib.hid (HRR.out (by trivial))
    clear HRR
    have HSLz := Lib.hid (HSL.out (by trivial))
    clear HSL
    have HSRz := Lib.hid (HSR.out (by trivial))
    clear HSR
    have hd0 : Below w2.heap.size w2 w2.drew := (Below.refl _ w2).drew
    have hRf : R.length ≤ 1000 := (HFEW.out (by trivial)).2
    clear HFEW
    have HSS := Lib.hid (fun w' (h : Below w2.heap.size w2 w') => And.intro ((HK0.out.below (below_trans hy2 h)).cell 0 _ rfl) (And.intro ((HK0.out.below (below_trans hy2 h)).cell 1 _ rfl) (And.intro ((HK0.out.below (below_trans hy2 h)).cell 2 _ rfl) (And.intro ((HK0.out.below (below_trans hy2 h)).cell 3 _ rfl) (And.intro ((HK0.out.below (below_trans hy2 h)).cell 4 _ rfl) (And.intro ((HK0.out.below (below_trans hy2 h)).cell 5 _ rfl) (And.intro ((HK0.out.below (below_trans hy2 h)).cell 6 _ rfl) (And.intro ((HK0.out.below (below_trans hy2 h)).cell 7 _ rfl) (And.intro ((HK0.out.below (below_trans hy2 h)).cell 8 _ rfl) (And.intro ((HK0.out.below (below_trans hy2 h)).cell 9 _ rfl) (And.intro ((HK0.out.below (below_trans hy2 h)).cell 10 _ rfl) (And.intro ((HK0.out.below (below_trans hy2 h)).cell 11 _ rfl) ((HK0.out.below (below_trans hy2 h)).cell 12 _ rfl)))))))))))))
    go_upto_region 4 with fail
    refine tr (S := (fun w' => w'.cell? ⟨w.heap.size, 0, none⟩ = some (.int .i64 p.kind) ∧ w'.cell? ⟨w.heap.size, 1, none⟩ = some (.int .i64 p.mode) ∧ w'.cell? ⟨w.heap.size, 2, none⟩ = some (.int .i64 p.low) ∧ w'.cell? ⟨w.heap.size, 3, none⟩ = some (.int .i64 p.high) ∧ w'.cell? ⟨w.heap.size, 4, none⟩ = some (.int .i64 p.size) ∧ w'.cell? ⟨w.heap.size, 5, none⟩ = some (.int .i64 p.limit) ∧ w'.cell? ⟨w.heap.size, 6, none⟩ = some (.slice A0 p.left.length c0) ∧ w'.cell? ⟨w.heap.size, 7, none⟩ = some (.slice A1 p.right.length c1) ∧ w'.cell? ⟨w.heap.size, 8, none⟩ = some (.slice A2 p.lkeys.length c2) ∧ w'.cell? ⟨w.heap.size, 9, none⟩ = some (.slice A3 p.rkeys.length c3) ∧ w'.cell? ⟨w.heap.size, 10, none⟩ = some (.bool p.grouped) ∧ w'.cell? ⟨w.heap.size, 11, none⟩ = some (.slice A4 p.group.length c4) ∧ w'.cell? ⟨w.heap.size, 12, none⟩ = some (.slice A5 p.aggs.length c5))) (HSS.out _ hd0) (fun hHeld => ?_)
    refine tk 0 ?_; refine tk 1 ?_; refine tk 2 ?_; refine tk 3 ?_; refine tk 5 ?_
    refine tc 4 ?_
    intro K hK
    go_simp
    refine Calls.mono (by with_reducible exact HSLz.out _ (below_trans hbw2 hd0)) ?_
    rintro e w4 ⟨v4, L4, i4, k4, rfl, hC4, rfl, hb4⟩
    have hd4 := below_trans hd0 hb4
    have HC4 := Lib.hid hC4
    clear hb4 hC4
    go_wp2_with fail
    refine hK.out _ _ (HSS.out _ hd4) (fun hHeld4 => ?_)
    clear hK K
    refine tc 6 ?_
    intro K hK
    go_simp
    refine Calls.mono (by with_reducible exact HLLz.out _ _ _ _ (below_trans hbw2 hd4) HC4.out) ?_
    rintro e w6 ⟨v6, l6, rfl, hV6, ha6, hb6⟩
    have hd6 := below_trans hd4 hb6
    have HV6 := Lib.hid hV6
    have HA6 := Lib.hid ha6
    obtain ⟨B6, n6, e6, -⟩ := id hV6.sl
    subst e6
    clear hb6 hV6 ha6
    go_wp2_with fail
    refine hK.out _ _ (HSS.out _ hd6) (fun hHeld6 => ?_)
    clear hK K
    refine tk 7 ?_; refine tk 8 ?_; refine tk 9 ?_; refine tk 10 ?_; refine tk 11 ?_
    refine td ?_
    have hy6 := below_trans hy2 hd6
    have hbw6 := below_trans hb1 hy6
    have HV2 := Lib.hid (HV2.out.below hd6)
    clear HSS HC4 hd0 hd4 hHeld
    go_wp2_with fail
    go_loopw [15, 16, 17] (fun uv iv _ wr => ∃ i : Nat, i ≤ R.length ∧ iv = .int .i64 i ∧ uv = .bool (unlikeR (ac R) i) ∧ Hid (p.kind ≠ 3 → i = 0) ∧ Below w6.heap.size w6 wr) (fun _ iv _ _ => R.length - (intOf iv).toNat)
    case atStart => exact ⟨0, by omega, rfl, rfl, Lib.hid (fun _ => rfl), Below.refl _ _⟩
    case round =>
      rename World => wr
      obtain ⟨i, hi, rfl, rfl, HKI, hbr⟩ := hrel
      have hyr := below_trans hy6 hbr
      have hBr := below_trans hb1 hyr
      have z0 := (HK0.out.below hyr).cell 0 _ rfl
      have i0 : (0 : Int) ≤ (i : Int) := by omega
      by_cases hlt : i < R.length ∧ p.kind = 3
      · obtain ⟨hlt, hk⟩ := hlt
        have hq := beqT hk
        have HK3 := Lib.hid hk
        have i1 : (i : Int) < (R.length : Int) := by omega
        have hx := List.getElem?_eq_getElem (l := R) hlt
        generalize R[i] = x at hx
        obtain ⟨bx, ox, hAx, -, hcx⟩ := chn_at HRC.out.sl rfl hx
        subst hAx
        have HCX := Lib.hid (fun (W : World) (hb : Below w.heap.size w W) => (hcx W hb).1)
        have HTX := Lib.hid (ac_time hx)
        clear hk hx hcx
        go_wp2_with fail
        go_loopw [15, 17] (fun uv kv wr2 => ∃ k : Nat, k ≤ i ∧ kv = .int .i64 k ∧ uv = .bool (unlikeR (ac R) i && freshB (ac R) i k) ∧ Below wr.heap.size wr wr2) (fun _ kv _ => i - (intOf kv).toNat)
        case atStart => exact ⟨0, by omega, rfl, by simp [freshB], Below.refl _ _⟩
        case round =>
          rename World => wr2
          obtain ⟨k, hk, rfl, rfl, hb3⟩ := hrel
          have hB3 := below_trans hBr hb3
          have k0 : (0 : Int) ≤ (k : Int) := by omega
          by_cases hlk : k < i
          · have k1 : (k : Int) < (i : Int) := by omega
            have k2 : (k : Int) < (R.length : Int) := by omega
            have hx := List.getElem?_eq_getElem (l := R) (i := k) (by omega)
            generalize R[k] = y at hx
            obtain ⟨by_, oy, hAy, -, hcy⟩ := chn_at HRC.out.sl rfl hx
            injection hAy with hAy
            injection hAy with e1 e2
            subst e1 e2
            have y1 := (hcy wr2 hB3).1
            have x1 := HCX.out wr2 hB3
            have HST := Lib.hid (freshB_step (ac R) i k)
            have HTY := Lib.hid (ac_time hx)
            rw [HTX.out, HTY.out] at HST
            obtain ⟨U, hU⟩ : ∃ U, unlikeR (ac R) i = U := ⟨_, rfl⟩
            obtain ⟨F, hF⟩ : ∃ F, freshB (ac R) i k = F := ⟨_, rfl⟩
            obtain ⟨T, hT⟩ : ∃ T, (x.k == y.k) = T := ⟨_, rfl⟩
            have hT2 : (x.k != y.k) = !T := by rw [← hT]; rfl
            rw [hF, hT] at HST
            have HU := Lib.hid hU
            have HF := Lib.hid hF
            obtain ⟨G, hG⟩ : ∃ G, (U && F) = G := ⟨_, rfl⟩
            have HG := Lib.hid hG
            rw [hU, hF, hG]
            have HRL : Hid ((G && !T) = (U && freshB (ac R) i (k + 1))) := Lib.hid (by rw [HST.out, ← HG.out, Bool.and_assoc])
            clear hx hcy hU hF hT hG HST HTY
            have HBF := Lib.hid hb3
            have hs1 : i ≤ R.length := hi
            cases G with
            | false =>
              go_wp2_with fail
              go_quiet (fail)
              go_wp2
              go_roundw
              case rel =>
                first
                  | exact ⟨k + 1, by omega, by go_num, by rw [← HRL.out]; rfl, below_drewN HBF.out _⟩
                  | ((repeat apply Exists.intro); exact ⟨⟨k + 1, by omega, by go_num, by rw [← HRL.out]; rfl, below_drewN HBF.out _⟩, rfl⟩)
              case measure => simp [intOf]; omega
            | true =>
              go_wp2_with fail
              go_quiet (fail)
              go_wp2
              go_roundw
              case rel =>
                first
                  | exact ⟨k + 1, by omega, by go_num, by rw [← HRL.out]; rfl, below_drewN HBF.out _⟩
                  | ((repeat apply Exists.intro); exact ⟨⟨k + 1, by omega, by go_num, by rw [← HRL.out]; rfl, below_drewN HBF.out _⟩, rfl⟩)
              case measure => simp [intOf]; omega
          · obtain rfl : k = i := by omega
            have hq3 : ¬ (k : Int) < (k : Int) := by omega
            have HST := Lib.hid (unlikeR_step (ac R) k)
            have HBF := Lib.hid (below_trans hbr hb3)
            go_wp2
            go_roundw
            case rel =>
              first
                | exact ⟨k + 1, by omega, by go_num, by rw [HST.out], Lib.hid (fun h => absurd HK3.out h), HBF.out⟩
                | ((repeat apply Exists.intro); exact ⟨⟨k + 1, by omega, by go_num, by rw [HST.out], Lib.hid (fun h => absurd HK3.out h), HBF.out⟩, rfl⟩)
            case measure => simp [intOf]; omega
      · have HUQ : Hid (unlikeR (ac R) i = true → p.kind = 3 → unlikeT (ac R)) := Lib.hid (fun hu hk => by
          have : i = R.length := by omega
          rw [this] at hu
          refine unlikeR_is ?_
          unfold ac at hu ⊢
          rwa [List.length_map])
        obtain ⟨U, hU⟩ : ∃ U, unlikeR (ac R) i = U := ⟨_, rfl⟩
        rw [hU] at HUQ ⊢
        clear hU
        have HV2 := Lib.hid (HV2.out.below hbr)
        have HV6 := Lib.hid (HV6.out.below hbr)
        have HBG := Lib.hid (fun (W : World) (hb : Below w.heap.size w W) => batchBegun_any W (HM.out.below hb))
        have hout : (decide ((i : Int) < (R.length : Int)) = true ∧ (p.kind == 3) = false) ∨ ¬ (i : Int) < (R.length : Int) := by
          by_cases h1 : i < R.length
          · exact .inl ⟨decide_eq_true (by omega), beqF (fun h => hlt ⟨h1, h⟩)⟩
          · exact .inr (by omega)
        have hcont : ∀ X : Prop, (∀ q1 : ¬ (i : Int) < (R.length : Int), X) → (∀ (q1 : (i : Int) < (R.length : Int)) (q2 : (p.kind == 3) = false), X) → X := fun X f g => by
          rcases hout with h | h
          · exact g (of_decide_eq_true h.1) h.2
          · exact f h
        clear hout hlt
        refine hcont _ (fun q1 => ?_) (fun q1 q2 => ?_)
        all_goals
          cases U with
          | false =>
            have HSV := Lib.hid (fun (W : World) (hb : Below wr.heap.size wr W) => sameViews_any (.slice Av l2.length cv) (.slice B6 l6.length n6) l2 l6 W (HV2.out.below hb) (HV6.out.below hb) (by rw [HA2.out, HA6.out]))
            go_wp2_with fail
            refine Calls.mono (by with_reducible exact HBG.out wr hBr) ?_
            rintro e w7 ⟨rfl, hb7⟩
            go_wp2_with fail
            refine Calls.mono (by with_reducible exact HSV.out _ hb7) ?_
            rintro e w8 ⟨rfl, hb8⟩
            have HF := Lib.hid (below_trans hBr (below_trans hb7 hb8))
            go_wp2
            go_ret
            exact ⟨rfl, HF.out⟩
          | true =>
            have HUT := Lib.hid (HUQ.out rfl)
            have hg0 : Below wr.heap.size wr wr.drew := (Below.refl _ wr).drew
            have HST := Lib.hid (fun w' (h : Below wr.heap.size wr w') => And.intro ((HK0.out.below (below_trans hyr h)).cell 0 _ rfl) (And.intro ((HK0.out.below (below_trans hyr h)).cell 1 _ rfl) (And.intro ((HK0.out.below (below_trans hyr h)).cell 2 _ rfl) (And.intro ((HK0.out.below (below_trans hyr h)).cell 3 _ rfl) (And.intro ((HK0.out.below (below_trans hyr h)).cell 4 _ rfl) (And.intro ((HK0.out.below (below_trans hyr h)).cell 5 _ rfl) (And.intro ((HK0.out.below (below_trans hyr h)).cell 6 _ rfl) (And.intro ((HK0.out.below (below_trans hyr h)).cell 7 _ rfl) (And.intro ((HK0.out.below (below_trans hyr h)).cell 8 _ rfl) (And.intro ((HK0.out.below (below_trans hyr h)).cell 9 _ rfl) (And.intro ((HK0.out.below (below_trans hyr h)).cell 10 _ rfl) (And.intro ((HK0.out.below (below_trans hyr h)).cell 11 _ rfl) ((HK0.out.below (below_trans hyr h)).cell 12 _ rfl)))))))))))))
            go_upto_region 15 with fail
            refine tr (S := (fun w' => w'.cell? ⟨w.heap.size, 0, none⟩ = some (.int .i64 p.kind) ∧ w'.cell? ⟨w.heap.size, 1, none⟩ = some (.int .i64 p.mode) ∧ w'.cell? ⟨w.heap.size, 2, none⟩ = some (.int .i64 p.low) ∧ w'.cell? ⟨w.heap.size, 3, none⟩ = some (.int .i64 p.high) ∧ w'.cell? ⟨w.heap.size, 4, none⟩ = some (.int .i64 p.size) ∧ w'.cell? ⟨w.heap.size, 5, none⟩ = some (.int .i64 p.limit) ∧ w'.cell? ⟨w.heap.size, 6, none⟩ = some (.slice A0 p.left.length c0) ∧ w'.cell? ⟨w.heap.size, 7, none⟩ = some (.slice A1 p.right.length c1) ∧ w'.cell? ⟨w.heap.size, 8, none⟩ = some (.slice A2 p.lkeys.length c2) ∧ w'.cell? ⟨w.heap.size, 9, none⟩ = some (.slice A3 p.rkeys.length c3) ∧ w'.cell? ⟨w.heap.size, 10, none⟩ = some (.bool p.grouped) ∧ w'.cell? ⟨w.heap.size, 11, none⟩ = some (.slice A4 p.group.length c4) ∧ w'.cell? ⟨w.heap.size, 12, none⟩ = some (.slice A5 p.aggs.length c5))) (HST.out _ hg0) (fun hHeld => ?_)
            refine tk 0 ?_; refine tk 1 ?_; refine tk 2 ?_; refine tk 3 ?_; refine tk 4 ?_
            refine tc 5 ?_
            intro K hK
            go_simp
            refine Calls.mono (by with_reducible exact HSRz.out _ (below_trans hBr hg0)) ?_
            rintro e w8 ⟨v8, R8, i8, k8, rfl, hC8, rfl, hb8⟩
            have hg8 := below_trans hg0 hb8
            have HC8 := Lib.hid hC8
            clear hb8 hC8
            go_wp2_with fail
            refine hK.out _ _ (HST.out _ hg8) (fun hHeld5 => ?_)
            clear hK K
            refine tc 6 ?_
            intro K hK
            go_simp
            refine Calls.mono (by with_reducible exact HRRz.out HUT.out _ _ _ _ (below_trans hBr hg8) HC8.out) ?_
            rintro e w9 ⟨v9, l9, rfl, hV9, ha9, hb9⟩
            have hg9 := below_trans hg8 hb9
            have HV9 := Lib.hid hV9
            have HA9 := Lib.hid ha9
            obtain ⟨B9, n9, e9, -⟩ := id hV9.sl
            subst e9
            clear hb9 hV9 ha9
            go_wp2_with fail
            refine hK.out _ _ (HST.out _ hg9) (fun hHeld6 => ?_)
            clear hK K
            refine tk 7 ?_; refine tk 8 ?_; refine tk 9 ?_; refine tk 10 ?_; refine tk 11 ?_
            refine td ?_
            have HV2 := Lib.hid (HV2.out.below hg9)
            have HV6 := Lib.hid (HV6.out.below hg9)
            have hB9 := below_trans hBr hg9
            have HSV := Lib.hid (fun (W : World) (hb : Below w9.heap.size w9 W) => sameViews_any (.slice Av l2.length cv) (.slice B6 l6.length n6) l2 l6 W (HV2.out.below hb) (HV6.out.below hb) (by rw [HA2.out, HA6.out]))
            have HSX := Lib.hid (fun (W : World) (hb : Below w9.heap.size w9 W) => sameViews_any (.slice Av l2.length cv) (.slice B9 l9.length n9) l2 l9 W (HV2.out.below hb) (HV9.out.below hb) (by rw [HA2.out, HA9.out]))
            clear HST HC8 hg0 hg8 hHeld
            go_wp2_with fail
            refine Calls.mono (by with_reducible exact HBG.out w9 hB9) ?_
            rintro e w10 ⟨rfl, hb10⟩
            go_wp2_with fail
            refine Calls.mono (by with_reducible exact HSV.out _ hb10) ?_
            rintro e w11 ⟨rfl, hb11⟩
            have hb11' := below_trans hb10 hb11
            go_wp2_with fail
            refine Calls.mono (by with_reducible exact HSX.out _ hb11') ?_
            rintro e w12 ⟨rfl, hb12⟩
            have HF := Lib.hid (below_trans hB9 (below_trans hb11' hb12))
            go_wp2
            go_ret
            exact ⟨rfl, HF.out⟩
  · have hq := bneT hz
    have HBG := Lib.hid (batchBegun_any w2 (HM.out.below hbw2))
    clear hz HLL HRR HSL HSR HFEW
    go_wp2_with fail
    refine Calls.mono (by with_reducible exact HBG.out) ?_
    rintro e w4 ⟨rfl, hb4⟩
    have HF := Lib.hid (below_trans hbw2 hb4)
    go_wp2
    go_ret
    exact ⟨rfl, HF.out⟩
end Go.Proofs.YtjhbeecmdgglgaaGreatDoor
