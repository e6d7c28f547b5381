/-
  Net.
-/
import Derived.Test.YtelmlagolmabpaaDoorChg22
set_option linter.unusedSimpArgs false
set_option linter.unusedVariables false
namespace Go.Proofs.YtelmlagolmabpaaDoor
open Go.RowKit Go.Maps

/-- What is left of changes: how often each row comes more than it goes. -/
def netR : AV → List (Int × List Val) → AV
  | A, [] => A
  | A, c :: t => netR (putA A c.2 (lookA A c.2 + stepI c.1)) t
def netS (m : List Chn) : KL × Int := if formC m ≠ 0 then ([], formC m) else ((toldS (netR [] (ac m))).1, 0)
theorem ac_at2 {m : List Chn} {k : Nat} {x : Chn} (h : m[k]? = some x) : (ac m).drop k = (x.k, x.r) :: (ac m).drop (k + 1) := by
  have h' : (ac m)[k]? = some (x.k, x.r) := by unfold ac; rw [List.getElem?_map, h]; rfl
  obtain ⟨hk, e⟩ := List.getElem?_eq_some_iff.1 h'
  rw [List.drop_eq_getElem_cons hk, e]
theorem look_abs {A : AV} {b : Int} (r : List Val) (hb : 0 ≤ b) (h : ∀ p ∈ A, -b ≤ p.2 ∧ p.2 ≤ b) : -b ≤ lookA A r ∧ lookA A r ≤ b := by
  induction A with
  | nil => simp [lookA]; omega
  | cons x t ih =>
    obtain ⟨x, m⟩ := x
    have := h (x, m) (by simp)
    have i := ih fun p hp => h p (by simp [hp])
    simp only at this
    unfold lookA
    split
    · omega
    · exact i
theorem put_abs {A : AV} {r : List Val} {n b : Int} (h : ∀ p ∈ A, -b ≤ p.2 ∧ p.2 ≤ b) (hn : -b ≤ n ∧ n ≤ b) : ∀ p ∈ putA A r n, -b ≤ p.2 ∧ p.2 ≤ b := fun p hp => by
  rcases put_mem2 hp with hp | hp
  · exact h p hp
  · rw [hp]; exact hn

theorem bump_next {w w' : World} {M n : Nat} {B : AV} {r : List Val} {ky : ByteArray} {v : Int} (hown : w.ownsMap Tryd.prog 9 (plainElem (H := Unit) Tryd.prog 3) M n (mkD B)) (hb : Below w.heap.size w w') (hky : keyOf Tryd.prog 9 (.string ky) = some (kOf r)) (hB : Rises B) (hr : GoodR r) (hn : n < maxLen) (hv : (Lit.int .i64 v).wf = true) :
    (Instr.lookup 89 (.map (some M)) (.string ky) false).run Tryd.prog w' = .ok (.int .i64 (lookA B r)) w' ∧
    ∃ w6, (Instr.mapUpdate 89 (.map (some M)) (.string ky) (.int .i64 v)).run Tryd.prog w' = .ok () w6 ∧ w6.ownsMap Tryd.prog 9 (plainElem (H := Unit) Tryd.prog 3) M (n + 1) (mkD (putA B r v)) ∧ w'.grownBy w6 (some M) := by
  have h2 := map_below hown hb
  obtain ⟨c, hrun, hat, -⟩ := h2.lookup_int (t := 89) lawS Tryd.underlying89 Tryd.underlying3 (zeroS _) hky
  obtain rfl := lit_inj (hat.symm.trans (mkD_at hB.good hr))
  refine ⟨hrun, ?_⟩
  obtain ⟨w6, h6, o6, g6⟩ := h2.update (t := 89) lawS Tryd.underlying89 hn hky (plainElem_int (H := Unit) Tryd.underlying3 hv)
  rw [mkD_put hB hr] at o6
  exact ⟨w6, h6, o6, g6⟩

set_option maxHeartbeats 4000000 in
set_option maxRecDepth 100000 in
theorem cnet_any (vm : Value) (m : List Chn) (w : World) (hs : Chs w vm m) (hfm : FineC m) (hm : Mx w) :
    Calls Tryd.prog 44 #[vm] w fun e w' => ∃ v' l', e = .returned (.tuple #[v', .int .i64 (netS m).2]) ∧ Chs w' v' l' ∧ ac l' = (netS m).1 ∧ Below w.heap.size w w' := by
  have hmm := @run_makeMap Tryd.prog
  have HS := Lib.hid hs
  have HFM := Lib.hid hfm
  have HM := Lib.hid hm
  have HE : Hid (netS m = if formC m ≠ 0 then ([], formC m) else ((toldS (netR [] (ac m))).1, 0)) := Lib.hid rfl
  have HFZ := Lib.hid (form_zero hfm)
  generalize netS m = R at HE ⊢
  obtain ⟨Am, cm, rfl, hm1, hm2, -⟩ := id hs.sl
  unfold maxLen at hm2
  clear hs hfm hm
  generalize hy : formC m = y at HE HFZ
  have HY := Lib.hid hy
  clear hy
  go_enter Tryd.func44, Tryd.ntmps44
  go_wp2_with fail
  refine (cform_any _ m _ HS.out HFM.out HM.out).mono ?_
  rw [HY.out]
  rintro e w1 ⟨rfl, hb1⟩
  by_cases hy : y = 0
  · have HE2 := Lib.hid (HE.out.trans (if_neg (fun h => h hy)))
    have HGC := Lib.hid (HFZ.out hy)
    subst hy
    have hml : m.length ≤ 4096 := HGC.out.few
    have hw1 := hb1.size
    have hB := hb1.alloc hb1.size (.map #[] 0)
    have HO := Lib.hid (World.ownsMap_made w1 Tryd.prog 9 (plainElem (H := Unit) Tryd.prog 3))
    clear HE HFZ
    go_wp2_with fail
    go_loopw [7, 8, 9, 20] (fun _ _ _ i wr => ∃ (k n : Nat) (B : AV), k ≤ m.length ∧ n ≤ k ∧ i = .int .i64 k ∧ Hid (netR [] (ac m) = netR B ((ac m).drop k)) ∧ Hid (Rises B) ∧ B.length ≤ k ∧ Hid (∀ p ∈ B, -(k : Int) ≤ p.2 ∧ p.2 ≤ (k : Int)) ∧ wr.ownsMap Tryd.prog 9 (plainElem (H := Unit) Tryd.prog 3) w1.heap.size n (mkD B) ∧ Below w.heap.size w wr) (fun _ _ _ i _ => m.length - (intOf i).toNat)
    case atStart => exact ⟨0, 0, [], by omega, by omega, rfl, Lib.hid rfl, Lib.hid Rises.nil, by simp, Lib.hid nofun, HO.out, hB⟩
    case round =>
      obtain ⟨k, n, B, hk, hnk, rfl, HN, HRB, hBl, HNB, hown, hbw⟩ := hrel
      by_cases hlt : k < m.length
      · have hx := List.getElem?_eq_getElem (l := m) hlt
        generalize m[k] = x at hx
        obtain ⟨g, off, rfl, -, hcc⟩ := chn_at HS.out.sl rfl hx
        obtain ⟨d1, d2⟩ := hcc _ hbw
        have hmem := List.mem_of_getElem? hx
        have HRW := Lib.hid (HS.out.rows x hmem)
        have HFX := Lib.hid (HFM.out.rows x hmem)
        have HGX := Lib.hid (HGC.out.good x hmem).1
        have hx1 := (HGC.out.good x hmem).2.1
        have hx4 := (HGC.out.good x hmem).2.2
        have HN1 : Hid (netR [] (ac m) = netR B ((x.k, x.r) :: (ac m).drop (k + 1))) := Lib.hid (by rw [HN.out, ac_at2 hx])
        clear hx hcc hmem HN
        obtain ⟨xv, xr, xk⟩ := x
        simp only at d1 d2 HRW HFX HGX hx1 hx4 HN1
        obtain ⟨Ax, cx, rfl, -⟩ := id HRW.out
        have hbw2 := hbw.alloc hbw.size (.cells #[.int .i64 xk, .slice Ax xr.length cx] 92)
        have HSX := Lib.hid (HRW.out.below hbw2)
        have kb := (Blk.new wr 92 #[.int .i64 xk, .slice Ax xr.length cx])
        have HOW := Lib.hid (map_below hown (below_alloc wr (.cells #[.int .i64 xk, .slice Ax xr.length cx] 92)))
        have HKE := Lib.hid (keyErr_ok (r := xr) (by
          have hz : firstNZ (xr.map checkV) = 0 := firstNZ_none (by intro y hy; obtain ⟨z, hz, rfl⟩ := List.mem_map.1 hy; exact (HGX.out.good z hz).1)
          unfold keyErr
          rw [if_neg (by have := HGX.out.few; omega), hz]))
        have HKY := Lib.hid (keyS HGX.out)
        generalize str (keyRow xr) = ky at HKE HKY
        clear hown
        go_wp2_with fail
        refine (key_any _ xr _ HSX.out HFX.out (HM.out.below hbw2)).mono ?_
        rw [HKE.out]
        rintro e w4 ⟨rfl, hb4⟩
        have kb4 := kb.below hb4
        have y0 := kb4.cell 0 _ rfl
        have y1 := kb4.cell 1 _ rfl
        have hown4 := map_below HOW.out hb4
        have hbw4 := below_trans hbw2 hb4
        have HKB := Lib.hid kb4
        clear HOW kb4
        have hln := look_abs xr (by omega) HNB.out
        obtain ⟨c, hrun, hat, -⟩ := hown4.drew.lookup_int (t := 89) lawS Tryd.underlying89 Tryd.underlying3 (zeroS _) HKY.out
        obtain rfl := lit_inj (hat.symm.trans (mkD_at HRB.out.good HGX.out))
        have hs2 := stepI_two xk
        have HOWN := Lib.hid hown4
        generalize hst : stepI xk = st at hs2
        have HST := Lib.hid hst
        have hww : IntKind.i64.wrap (lookA B xr + st) = lookA B xr + st := by rw [IntKind.wrap_i64]; omega
        clear hst hat hown4
        go_wp2_with fail
        have HNX := Lib.hid (fun w' hb => bump_next (w' := w') (v := lookA B xr + st) HOWN.out.drew hb HKY.out HRB.out HGX.out (by unfold maxLen; omega) (wf_of (by omega)))
        go_region_with (go_at_call 73; refine (cstep_any xk _ _ hx1 hx4).mono ?_; rw [HST.out]; rintro e w5 ⟨rfl, hb5⟩; obtain ⟨hrun5, w6, hupd, hown6, hg6⟩ := HNX.out _ hb5; have z0 := (HKB.out.drew.below hb5).cell 0 _ rfl; have z1 := (HKB.out.drew.below hb5).cell 1 _ rfl; have HO6 := Lib.hid hown6; have HG6 := Lib.hid hg6; clear hown6 hg6)
        all_goals
          have hb45 := below_trans hbw4.drew hb5
          have hbw6 : Below w.heap.size w w6 := hb45.grown HG6.out hb45.size (fun j hj => by cases hj; exact hw1)
          have HN2 : Hid (netR [] (ac m) = netR (putA B xr (lookA B xr + st)) ((ac m).drop (k + 1))) := Lib.hid (by rw [HN1.out, ← HST.out]; rfl)
          have HR2 := Lib.hid (rises_put (n := lookA B xr + st) HRB.out HGX.out)
          have hl2 := putA_len B xr (lookA B xr + st)
          have HNB2 : Hid (∀ p ∈ putA B xr (lookA B xr + st), -((k + 1 : Nat) : Int) ≤ p.2 ∧ p.2 ≤ ((k + 1 : Nat) : Int)) := Lib.hid (put_abs (fun p hp => by have := HNB.out p hp; omega) (by omega))
          clear hrun hrun5 hupd y0 y1 z0 z1
          have HO7 := Lib.hid HO6.out
          generalize putA B xr (lookA B xr + st) = B2 at HN2 HR2 hl2 HNB2 HO7
          go_wp2
          go_roundw
          case rel =>
            first
              | exact ⟨k + 1, n + 1, B2, by omega, by omega, by go_num, HN2.out, HR2.out, by omega, HNB2.out, HO7.out, hbw6⟩
              | (refine ⟨_, _, _, _, _, _, _, _, _, _, _, _, _, _, _, _, _, _, _, _, ?_, rfl⟩; exact ⟨k + 1, n + 1, B2, by omega, by omega, by go_num, HN2.out, HR2.out, by omega, HNB2.out, HO7.out, hbw6⟩)
          case measure => simp [intOf]; omega
      · obtain rfl : k = m.length := by omega
        have EE : Hid (R = ((toldS B).1, 0)) := Lib.hid (by rw [HE2.out, HN.out, show (ac m).drop m.length = [] from List.drop_of_length_le (by rw [ac_len]; exact Nat.le_refl _)]; rfl)
        have HPL : Hid (Pile wr w1.heap.size 4096 B) := Lib.hid ⟨n, by omega, hown⟩
        clear HN hown
        go_wp2_with fail
        refine (told_any _ HPL.out HRB.out (by omega) (fun p hp => by have := HNB.out p hp; omega)).mono ?_
        rintro e w2 ⟨v2, l2, rfl, hc2, ha2, hb2⟩
        have HC2 := Lib.hid hc2
        have HA2 := Lib.hid ha2
        have hb3 := below_trans hbw hb2
        clear hc2 ha2
        go_wp2
        go_ret2
        first
          | exact ⟨v2, l2, by rw [EE.out]; rfl, HC2.out, by rw [EE.out]; exact HA2.out, hb3⟩
          | exact ⟨v2, by rw [EE.out]; rfl, l2, HC2.out, by rw [EE.out]; exact HA2.out, hb3⟩
  · have EE := Lib.hid (HE.out.trans (if_pos hy))
    have hy' := beqF hy
    clear HE HFZ hy
    go_wp2
    go_ret2
    first
      | exact ⟨.slice none 0 0, [], by rw [EE.out]; rfl, Chs.nil _, by rw [EE.out]; rfl, hb1⟩
      | exact ⟨.slice none 0 0, by rw [EE.out]; rfl, [], Chs.nil _, by rw [EE.out]; rfl, hb1⟩

end Go.Proofs.YtelmlagolmabpaaDoor
