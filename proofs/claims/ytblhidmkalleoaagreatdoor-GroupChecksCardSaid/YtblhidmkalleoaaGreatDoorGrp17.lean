/-
  Groups: Step. (Printed by gengrp17.py.)
-/
import Derived.Test.YtblhidmkalleoaaGreatDoorGrpA15
import Derived.Test.YtblhidmkalleoaaGreatDoorGrpA6
set_option linter.unusedSimpArgs false
set_option linter.unusedVariables false
namespace Go.Proofs.YtblhidmkalleoaaGreatDoor
open Go.RowKit Go.Maps Go.Sort
open Go.Lib (compareBytes)

theorem look_all (i0 i1 i2 i3 i4 i5 : Int) (b : Bool) (a0 a1 a2 a3 a4 a5 a6 a7 : Option Addr) (n0 n1 n2 n3 n4 n5 n6 n7 c0 c1 c2 c3 c4 c5 c6 c7 : Nat) (w : World) :
    (Instr.field 117 (.agg #[.int .i64 i0, .int .i64 i1, .int .i64 i2, .int .i64 i3, .int .i64 i4, .int .i64 i5, .slice a0 n0 c0, .slice a1 n1 c1, .slice a2 n2 c2, .slice a3 n3 c3, .bool b, .slice a4 n4 c4, .slice a5 n5 c5, .slice a6 n6 c6, .slice a7 n7 c7]) 1).run Tryz.prog w = .ok (.slice a6 n6 c6) w := by
  kernel_rfl

theorem good_lens {p : Pl} {G : List Gm} (hp : checkP p = 0) (hg : p.grouped = true) (h : GoodGs p (gps G)) : ∀ x ∈ G, x.bags.length ≤ 1000000 ∧ ∀ q ∈ x.bags, q.2.length ≤ 1099511627776 := fun x hx => by
  have h1 := h.each x.gp (gps_mem hx)
  have h2 := h1.bl
  have h3 := (group_few hp hg).2.2
  have h4 : x.gp.bags.length = x.bags.length := List.length_map ..
  refine ⟨by omega, fun q hq => ?_⟩
  obtain ⟨j, hj⟩ := List.mem_iff_getElem?.1 hq
  have hjl := (List.getElem?_eq_some_iff.1 hj).1
  have h5 : x.gp.bags[j]? = some q.2 := by show (x.bags.map (·.2))[j]? = _; rw [List.getElem?_map, hj]; rfl
  have h6 := h1.bags (p.aggs[j]'(by omega), q.2) (List.mem_iff_getElem?.2 ⟨j, by rw [List.getElem?_zip_eq_some]; exact ⟨List.getElem?_eq_getElem (by omega), h5⟩⟩)
  have h7 := h1.num
  rcases h6 with ⟨-, e⟩ | ⟨-, hgt, hsum⟩
  · have e : q.2 = [] := e
    rw [e]; simp
  · have hgt : GoodT _ q.2 := hgt
    have hsum : sumT q.2 = x.gp.n := hsum
    have := sumT_len hgt.vals
    omega

set_option maxHeartbeats 8000000 in
set_option maxRecDepth 100000 in
theorem gstep_any (p : Pl) (v : Value) (G : List Gm) (u : Value) (l : List Chn) (w : World) (h : p.ok w) (hpf : p.fit) (hG : Gms w v G) (hGf : ∀ x ∈ G, x.fit) (hC : Chs w u l) (hCf : FineC l) (hm : Mx w) :
    Calls Tryz.prog 21 #[.agg #[.int .i64 p.kind, .int .i64 p.mode, .int .i64 p.low, .int .i64 p.high, .int .i64 p.size, .int .i64 p.limit, p.vl, p.vr, p.vk, p.vq, .bool p.grouped, p.vg, p.va], v, u] w fun e w' => ∃ v' u' G' l', e = .returned (.tuple #[v', u', .int .i64 (stepG p (gps G) l).2.2]) ∧ Gms w' v' G' ∧ Chs w' u' l' ∧ gps G' = (stepG p (gps G) l).1 ∧ ac l' = (stepG p (gps G) l).2.1 ∧ Below w.heap.size w w' := by
  have HP := Lib.hid h
  have HG := Lib.hid hG
  have HCC := Lib.hid hC
  have HM := Lib.hid hm
  have HCK := Lib.hid (fun W (hb : Below w.heap.size w W) => gcheck_any p v G W (h.below hb) hpf (hG.below hb) hGf (hm.below hb))
  have HFO := Lib.hid (fun W (hb : Below w.heap.size w W) => cform_any u l W (hC.below hb) hCf (hm.below hb))
  have HLO := Lib.hid (fun W (hb : Below w.heap.size w W) (hz : checkP p = 0) => looks_any p W (h.below hb) hz)
  have HTF := Lib.hid (fun W (hb : Below w.heap.size w W) (c : Chn) (hc : c ∈ l) vt (ht : Sl W vt (allT p).length (intCells (allT p))) (hl : c.r.length = (allT p).length) => typesFit_any c.v vt c.r (allT p) W ((hC.rows c hc).below hb) ht hl)
  have HZ := Lib.hid (fun (hz : checkG p (gps G) = 0) => (check_zeroG (p := p) (G := gps G) (fun g hg => by
    obtain ⟨x, hx, rfl⟩ := List.mem_map.1 hg
    exact (hGf x hx).fine)).1 hz)
  have HFZ := Lib.hid (fun (hz : formC l = 0) => form_zero hCf hz)
  have HST : Hid (stepG p (gps G) l = if checkG p (gps G) ≠ 0 then ([], [], checkG p (gps G)) else if formC l ≠ 0 then ([], [], formC l) else if typesG p (ac l) ≠ 0 then ([], [], typesG p (ac l))
    else if (turnAll p (gps G) (ac l)).2 ≠ 0 then ([], [], (turnAll p (gps G) (ac l)).2) else ((turnAll p (gps G) (ac l)).1, changedG p (gps G) (turnAll p (gps G) (ac l)).1, 0)) := Lib.hid rfl
  generalize stepG p (gps G) l = SG at HST ⊢
  obtain ⟨A0, c0, h0, n0, m0, -⟩ := id h.l
  obtain ⟨A1, c1, h1, n1, m1, -⟩ := id h.r
  obtain ⟨A2, c2, h2, n2, m2, -⟩ := id h.k
  obtain ⟨A3, c3, h3, n3, m3, -⟩ := id h.q
  obtain ⟨A4, c4, h4, n4, m4, -⟩ := id h.g
  obtain ⟨A5, c5, h5, n5, m5, -⟩ := id h.a
  obtain ⟨Au, cu, rfl, nu, mu, -⟩ := id hC.sl
  unfold maxLen at mu
  unfold lookCells at HLO
  rw [h0, h1, h2, h3, h4, h5] at HCK HLO ⊢
  have HVA : Hid (p.va = .slice A5 p.aggs.length c5) := Lib.hid h5
  have HVG : Hid (p.vg = .slice A4 p.group.length c4) := Lib.hid h4
  have HV0 := Lib.hid h0
  have HV1 := Lib.hid h1
  have HV2 := Lib.hid h2
  have HV3 := Lib.hid h3
  have HB := Lib.hid (below_alloc w (.cells #[.int .i64 p.kind, .int .i64 p.mode, .int .i64 p.low, .int .i64 p.high, .int .i64 p.size, .int .i64 p.limit, .slice A0 p.left.length c0, .slice A1 p.right.length c1, .slice A2 p.lkeys.length c2, .slice A3 p.rkeys.length c3, .bool p.grouped, .slice A4 p.group.length c4, .slice A5 p.aggs.length c5] 25))
  have HK0 := Lib.hid (Blk.new w 25 #[.int .i64 p.kind, .int .i64 p.mode, .int .i64 p.low, .int .i64 p.high, .int .i64 p.size, .int .i64 p.limit, .slice A0 p.left.length c0, .slice A1 p.right.length c1, .slice A2 p.lkeys.length c2, .slice A3 p.rkeys.length c3, .bool p.grouped, .slice A4 p.group.length c4, .slice A5 p.aggs.length c5])
  obtain ⟨W1, hW1⟩ : ∃ V, w.alloc (.cells #[.int .i64 p.kind, .int .i64 p.mode, .int .i64 p.low, .int .i64 p.high, .int .i64 p.size, .int .i64 p.limit, .slice A0 p.left.length c0, .slice A1 p.right.length c1, .slice A2 p.lkeys.length c2, .slice A3 p.rkeys.length c3, .bool p.grouped, .slice A4 p.group.length c4, .slice A5 p.aggs.length c5] 25) = V := ⟨_, rfl⟩
  rw [hW1] at HB HK0
  have hb1 := HB.out
  clear h h0 h1 h2 h3 h4 h5 n0 n1 n2 n3 n4 n5 m0 m1 m2 m3 m4 m5 hG hGf hC hCf hm hpf
  obtain ⟨E1, hE1⟩ : ∃ y, checkG p (gps G) = y := ⟨_, rfl⟩
  obtain ⟨E2, hE2⟩ : ∃ y, formC l = y := ⟨_, rfl⟩
  rw [hE1] at HCK HZ HST
  rw [hE2] at HFO HFZ HST
  clear hE1 hE2
  go_enter Tryz.func21, Tryz.ntmps21
  go_upto_region 1 with fail
  try rw [hW1]
  clear hW1
  have z0 := HK0.out.cell 0 _ rfl
  have z1 := HK0.out.cell 1 _ rfl
  have z2 := HK0.out.cell 2 _ rfl
  have z3 := HK0.out.cell 3 _ rfl
  have z4 := HK0.out.cell 4 _ rfl
  have z5 := HK0.out.cell 5 _ rfl
  have z6 := HK0.out.cell 6 _ rfl
  have z7 := HK0.out.cell 7 _ rfl
  have z8 := HK0.out.cell 8 _ rfl
  have z9 := HK0.out.cell 9 _ rfl
  have z10 := HK0.out.cell 10 _ rfl
  have z11 := HK0.out.cell 11 _ rfl
  have z12 := HK0.out.cell 12 _ rfl
  by_cases q1 : E1 = 0
  · have b1 : (E1 != 0) = false := by simp [q1]
    have HQ1 := Lib.hid q1
    clear q1
    go_wp2_with fail
    refine Calls.mono (by with_reducible exact HCK.out _ hb1) ?_
    rintro e w2 ⟨rfl, hb2⟩
    have hbw2 := below_trans hb1 hb2
    clear z0 z1 z2 z3 z4 z5 z6 z7 z8 z9 z10 z11 z12
    by_cases q2 : E2 = 0
    · have b2 : (E2 != 0) = false := by simp [q2]
      have HQ2 := Lib.hid q2
      clear q2
      go_wp2_with fail
      refine Calls.mono (by with_reducible exact HFO.out _ hbw2) ?_
      rintro e w3 ⟨rfl, hb3⟩
      have hbw3 := below_trans hbw2 hb3
      have HK3 := Lib.hid ((HK0.out.below hb2).below hb3)
      have z0 := HK3.out.cell 0 _ rfl
      have z1 := HK3.out.cell 1 _ rfl
      have z2 := HK3.out.cell 2 _ rfl
      have z3 := HK3.out.cell 3 _ rfl
      have z4 := HK3.out.cell 4 _ rfl
      have z5 := HK3.out.cell 5 _ rfl
      have z6 := HK3.out.cell 6 _ rfl
      have z7 := HK3.out.cell 7 _ rfl
      have z8 := HK3.out.cell 8 _ rfl
      have z9 := HK3.out.cell 9 _ rfl
      have z10 := HK3.out.cell 10 _ rfl
      have z11 := HK3.out.cell 11 _ rfl
      have z12 := HK3.out.cell 12 _ rfl
      obtain ⟨hcp, hgr, hgood⟩ := HZ.out HQ1.out
      have HCP := Lib.hid hcp
      have HGR := Lib.hid hgr
      have HGD := Lib.hid hgood
      clear hcp hgr hgood
      go_wp2_with fail
      refine Calls.mono (by with_reducible exact HLO.out _ hbw3 HCP.out) ?_
      rintro e w4 ⟨va, vo, rfl, hsa, hso, hb4⟩
      obtain ⟨Ao, co, rfl, -⟩ := id hso
      clear hso
      have hbw4 := below_trans hbw3 hb4
      have HK4 := Lib.hid (HK3.out.below hb4)
      obtain ⟨At, ct, rfl, nt, mt, -⟩ := id hsa
      unfold maxLen at mt
      have HSA := Lib.hid hsa
      clear z0 z1 z2 z3 z4 z5 z6 z7 z8 z9 z10 z11 z12 hsa
      have HB4 := Lib.hid hbw4
      have hlk := look_all p.kind p.mode p.low p.high p.size p.limit p.grouped A0 A1 A2 A3 A4 A5 At Ao p.left.length p.right.length p.lkeys.length p.rkeys.length p.group.length p.aggs.length (allT p).length (ownT p).length c0 c1 c2 c3 c4 c5 ct co w4
      go_wp2_with fail
      clear hlk
      go_loopw [13, 47] (fun _ iv wr => ∃ i : Nat, i ≤ l.length ∧ iv = .int .i64 i ∧ Hid (∀ x ∈ l.take i, fitE (allT p) x.r = 0) ∧ Below w4.heap.size w4 wr) (fun _ iv _ => l.length - (intOf iv).toNat)
      case atStart => exact ⟨0, by omega, rfl, Lib.hid (fun x hx => by simp at hx), Below.refl _ _⟩
      case round =>
        obtain ⟨i, hi, rfl, HPR, hbr⟩ := hrel
        have hbwr := below_trans HB4.out hbr
        by_cases hlt : i < l.length
        · have hx := List.getElem?_eq_getElem (l := l) hlt
          generalize l[i] = x at hx
          have hxm := List.mem_of_getElem? hx
          obtain ⟨bx, ox, hAx, -, hcx⟩ := chn_at HCC.out.sl rfl hx
          subst hAx
          obtain ⟨e0, e1⟩ := hcx _ hbwr
          obtain ⟨Ax, cx, ev, nx, mx, -⟩ := id (HCC.out.rows x hxm)
          unfold maxLen at mx
          rw [ev] at e1
          have HX := Lib.hid hx
          have HXM := Lib.hid hxm
          have i0 : (0 : Int) ≤ (i : Int) := by omega
          have i1 : (i : Int) < (l.length : Int) := by omega
          by_cases hl : x.r.length = (allT p).length
          · have b3 : ((x.r.length : Int) != ((allT p).length : Int)) = false := by simp [hl]
            have HCL := Lib.hid (fun W (hb : Below w4.heap.size w4 W) => HTF.out W (below_trans HB4.out hb) x hxm _ (HSA.out.below hb) hl)
            rw [ev] at HCL
            have HLL := Lib.hid hl
            have hba := hbr.alloc hbr.size (.cells #[.int .i64 x.k, .slice Ax x.r.length cx] 73)
            clear hx hxm hcx ev hl
            go_wp2_with fail
            refine Calls.mono (by with_reducible exact HCL.out _ hba) ?_
            rintro e w6 ⟨rfl, hb6⟩
            have hbw6 := below_trans hba hb6
            cases hfit : allB fitOne ((allT p).zip x.r) with
            | false =>
              have HE : Hid (SG = ([], [], 5)) := Lib.hid (by
                have h5 := fit_not HLL.out hfit
                rw [HST.out, if_neg (by simp [HQ1.out]), if_neg (by simp [HQ2.out]), types_bad HPR.out HX.out (by rw [h5]; decide), h5, if_pos (by decide)])
              have hb9 := below_trans HB4.out hbw6
              clear hfit
              go_wp2
              refine bodyPost_ret (v := .tuple #[.slice none 0 0, .slice none 0 0, .int .i64 5]) (by simp [results, Tryz.results21, go_sem]) rfl ?_
              exact ⟨_, _, [], [], by rw [HE.out], Gms.nil _, Chs.nil _, by rw [HE.out]; rfl, by rw [HE.out]; rfl, hb9⟩
            | true =>
              have HPN : Hid (∀ y ∈ l.take (i + 1), fitE (allT p) y.r = 0) := Lib.hid (fun y hy => by
                rw [List.take_add_one, HX.out] at hy
                rcases List.mem_append.1 hy with hy | hy
                · exact HPR.out y hy
                · rw [show y = x by simpa using hy]
                  exact fit_yes HLL.out hfit)
              clear hfit
              go_wp2_with fail
              go_roundw
              case rel => exact ⟨i + 1, by omega, by go_num, HPN, hbw6⟩
              case measure => simp [intOf]; omega
          · have b3 : ((x.r.length : Int) != ((allT p).length : Int)) = true := by simp; omega
            have HE : Hid (SG = ([], [], 2)) := Lib.hid (by
              have h5 := fit_len hl
              rw [HST.out, if_neg (by simp [HQ1.out]), if_neg (by simp [HQ2.out]), types_bad HPR.out HX.out (by rw [h5]; decide), h5, if_pos (by decide)])
            have hb9 := below_trans HB4.out (hbr.alloc hbr.size (.cells #[.int .i64 x.k, .slice Ax x.r.length cx] 73))
            clear hx hxm hcx ev hl
            go_wp2
            refine bodyPost_ret (v := .tuple #[.slice none 0 0, .slice none 0 0, .int .i64 2]) (by simp [results, Tryz.results21, go_sem]) rfl ?_
            exact ⟨_, _, [], [], by rw [HE.out], Gms.nil _, Chs.nil _, by rw [HE.out]; rfl, by rw [HE.out]; rfl, hb9⟩
        · obtain rfl : i = l.length := by omega
          have hft : ∀ x ∈ l, fitE (allT p) x.r = 0 := by have := HPR.out; rw [List.take_length] at this; exact this
          have HTG : Hid (∀ c ∈ l, TypedG p c.r) := Lib.hid (fun c hc => fit_zero ((HFZ.out HQ2.out).good c hc).1 (hft c hc))
          have HKN : Hid (∀ c ∈ l, 1 ≤ c.k ∧ c.k ≤ 4) := Lib.hid (fun c hc => ((HFZ.out HQ2.out).good c hc).2)
          have HLF : Hid (l.length ≤ 4096) := Lib.hid (HFZ.out HQ2.out).few
          have HS2 : Hid (SG = if (turnAll p (gps G) (ac l)).2 ≠ 0 then ([], [], (turnAll p (gps G) (ac l)).2) else ((turnAll p (gps G) (ac l)).1, changedG p (gps G) (turnAll p (gps G) (ac l)).1, 0)) := Lib.hid (by
            rw [HST.out, if_neg (by simp [HQ1.out]), if_neg (by simp [HQ2.out]), if_neg (by rw [types_ok hft]; simp)])
          clear hft
          have HBY := Lib.hid (fun W (hb : Below w.heap.size w W) => byKeys_any v G W (HG.out.below hb) (fun g hg => (HGD.out.each g hg).row) HGD.out.rise (by have := HGD.out.few; rw [gps_len] at this; exact this) (good_lens HCP.out HGR.out HGD.out) (HM.out.below hb))
          have HTA := Lib.hid (fun wa (hba : Below w.heap.size w wa) (W : World) M N X (c : Chn) (hc : c ∈ l) (hb : Below wa.heap.size wa W) (hX : GMap W wa.heap.size M N X) (hG : GoodGs p (gx X)) (hN : N ≤ 1000000) => turn_any p c.k c.v c.r M N X wa W (HP.out.below hba) HCP.out HGR.out hb hX hG hN (HKN.out c hc) (HTG.out c hc) ((HCC.out.rows c hc).below hba) (HM.out.below hba))
          rw [HV0.out, HV1.out, HV2.out, HV3.out, HVG.out, HVA.out] at HTA
          go_wp2_with fail
          refine Calls.mono (by with_reducible exact HBY.out _ hbwr) ?_
          rintro e wa ⟨M0, rfl, X0, hX0, hgx0, hba⟩
          have hbwa := below_trans hbwr hba
          have HX0 := Lib.hid hX0
          have HG0 := Lib.hid hgx0
          clear hX0 hgx0
          go_wp2_with fail
          refine Calls.mono (by with_reducible exact HBY.out _ hbwa) ?_
          rintro e wb ⟨M1, rfl, X1, hX1, hgx1, hbb⟩
          have HX1 := Lib.hid hX1
          have HG1 := Lib.hid hgx1
          have HBWA := Lib.hid hbwa
          have HBB := Lib.hid hbb
          have HKA := Lib.hid ((HK4.out.below hbr).below hba)
          have HWS : Hid (w.heap.size < wa.heap.size) := Lib.hid ((HK4.out.below hbr).below hba).lt
          clear hX1 hgx1 hbb hbwa
          go_wp2_with fail
          go_loopw [17, 18, 69] (fun _ _ iv wr2 => ∃ (i : Nat) (X' : List (Nat × Gm)), i ≤ l.length ∧ iv = .int .i64 i ∧ Hid (Tn wb wa.heap.size M1 X1 wr2 (4096 + i) X') ∧ Hid (turnAll p (gps G) (ac l) = turnAll p (gx X') ((ac l).drop i)) ∧ Hid (GoodGs p (gx X'))) (fun _ _ iv _ => l.length - (intOf iv).toNat)
          case atStart => exact ⟨0, X1, by omega, rfl, Lib.hid (Tn.start HX1.out), Lib.hid (by rw [HG1.out]; rfl), Lib.hid (by rw [HG1.out]; exact HGD.out)⟩
          case round =>
            rename World => wr2
            obtain ⟨i, X', hi, rfl, HTn, HAl, HGn⟩ := hrel
            have HBA := Lib.hid (below_turned HBB.out HTn.out.turned (fun k hk => (HX1.out.range hk).1))
            have hbw2 := below_trans HBWA.out HBA.out
            by_cases hlt : i < l.length
            · have hx := List.getElem?_eq_getElem (l := l) hlt
              generalize l[i] = x at hx
              have hxm := List.mem_of_getElem? hx
              obtain ⟨bx, ox, hAx, -, hcx⟩ := chn_at HCC.out.sl rfl hx
              subst hAx
              obtain ⟨e0, e1⟩ := hcx _ hbw2
              obtain ⟨Ax, cx, ev, nx, mx, -⟩ := id (HCC.out.rows x hxm)
              unfold maxLen at mx
              rw [ev] at e1
              have HX := Lib.hid hx
              have i0 : (0 : Int) ≤ (i : Int) := by omega
              have i1 : (i : Int) < (l.length : Int) := by omega
              have HTb := Lib.hid (HTn.out.below (below_alloc _ (.cells #[.int .i64 x.k, .slice Ax x.r.length cx] 73)))
              have HBb := Lib.hid (HBA.out.alloc HBA.out.size (.cells #[.int .i64 x.k, .slice Ax x.r.length cx] 73))
              have HKB := Lib.hid (HKA.out.below HBb.out)
              have HTt := Lib.hid (HTA.out wa HBWA.out _ M1 (4096 + i) X' x hxm HBb.out HTb.out.map HGn.out (by have := HLF.out; omega))
              have HTg := Lib.hid (turn_good (c := (x.k, x.r)) HCP.out HGR.out HGn.out (HTG.out x hxm))
              have HAt := Lib.hid ((turnAll_at (p := p) (G := gx X') (acG_at hx)))
              rw [ev] at HTt
              obtain ⟨TI, hTI⟩ : ∃ y, turnG p (gx X') (x.k, x.r) = y := ⟨_, rfl⟩
              rw [hTI] at HTt HTg HAt
              clear hTI hx hxm hcx ev hbw2
              have z0 := HKB.out.cell 0 _ rfl
              have z1 := HKB.out.cell 1 _ rfl
              have z2 := HKB.out.cell 2 _ rfl
              have z3 := HKB.out.cell 3 _ rfl
              have z4 := HKB.out.cell 4 _ rfl
              have z5 := HKB.out.cell 5 _ rfl
              have z6 := HKB.out.cell 6 _ rfl
              have z7 := HKB.out.cell 7 _ rfl
              have z8 := HKB.out.cell 8 _ rfl
              have z9 := HKB.out.cell 9 _ rfl
              have z10 := HKB.out.cell 10 _ rfl
              have z11 := HKB.out.cell 11 _ rfl
              have z12 := HKB.out.cell 12 _ rfl
              by_cases q3 : TI.2 = 0
              · have b5 : (TI.2 != 0) = false := by simp [q3]
                have HQ3 := Lib.hid q3
                clear q3
                go_wp2_with fail
                refine Calls.mono (by with_reducible exact HTt.out) ?_
                rintro e w7 ⟨rfl, ht7, hX7⟩
                obtain ⟨X7, hn7, hg7⟩ := hX7 HQ3.out
                have HT7 := Lib.hid (HTb.out.trans hn7)
                have HA7 : Hid (turnAll p (gps G) (ac l) = turnAll p (gx X7) ((ac l).drop (i + 1))) := Lib.hid (by rw [HAl.out, HAt.out, if_pos HQ3.out, hg7])
                have HG7 : Hid (GoodGs p (gx X7)) := Lib.hid (by rw [hg7]; exact HTg.out HQ3.out)
                clear ht7 hX7 hn7 hg7 z0 z1 z2 z3 z4 z5 z6 z7 z8 z9 z10 z11 z12
                go_wp2_with fail
                go_roundw
                case rel => exact ⟨i + 1, X7, by omega, by go_num, HT7, HA7, HG7⟩
                case measure => simp [intOf]; omega
              · have b5 : (TI.2 != 0) = true := by simp [q3]
                have HQ3 := Lib.hid q3
                have HE : Hid (SG = ([], [], TI.2)) := Lib.hid (by
                  rw [HS2.out, HAl.out, HAt.out, if_neg q3]
                  exact if_pos q3)
                clear q3
                go_wp2_with fail
                refine Calls.mono (by with_reducible exact HTt.out) ?_
                rintro e w7 ⟨rfl, ht7, -⟩
                have hb7 := below_turned (below_trans HBWA.out HBb.out) ht7 (fun k hk => by have := (HTb.out.map.range hk).1; have := HWS.out; omega)
                clear ht7 z0 z1 z2 z3 z4 z5 z6 z7 z8 z9 z10 z11 z12
                go_wp2
                refine bodyPost_ret (v := .tuple #[.slice none 0 0, .slice none 0 0, .int .i64 TI.2]) (by simp [results, Tryz.results21, go_sem]) rfl ?_
                exact ⟨_, _, [], [], by rw [HE.out], Gms.nil _, Chs.nil _, by rw [HE.out]; rfl, by rw [HE.out]; rfl, hb7⟩
            · obtain rfl : i = l.length := by omega
              have HAE : Hid (turnAll p (gps G) (ac l) = (gx X', 0)) := Lib.hid (by rw [HAl.out, ← acG_len, turnAll_end])
              have HS3 : Hid (SG = (gx X', changedG p (gps G) (gx X'), 0)) := Lib.hid (by rw [HS2.out, HAE.out]; exact if_neg (by simp))
              have HXO := Lib.hid ((HX0.out.below HBB.out).turned HTn.out.turned (fun k hk hf => by have := (HX0.out.range hk).2; have := (HX1.out.range hf).1; omega))
              have HXN := Lib.hid (HTn.out.map)
              have HWR := Lib.hid hbw2
              have HKC := Lib.hid (HKA.out.below HBA.out)
              clear HTA HBY HTF HFZ HZ HST HS2 HAl HAE HTn HPR HCK HFO HLO hbw2
              have hmm := @run_makeMap Tryz.prog
              have HKM := Lib.hid (map_below (World.ownsMap_made wr2 Tryz.prog 9 (plainElem (H := Unit) Tryz.prog 3)) (below_alloc _ (.cells #[.map (some M0), .map (some M1)] 122)))
              have HKT := Lib.hid (new_second wr2 122 #[.map (some M0), .map (some M1)] (.map #[] 0))
              have HBT := Lib.hid (below_trans (below_alloc wr2 (.map #[] 0)) (below_alloc _ (.cells #[.map (some M0), .map (some M1)] 122)))
              have HGA : Hid (GoodGs p (gx X0)) := Lib.hid (by rw [HG0.out]; exact HGD.out)
              have HRA := Lib.hid (rises_gps (fun _ => 0) (fun g hg' => (HGA.out.each g hg').row) HGA.out.rise (ax_rows X0))
              have HRB := Lib.hid (rises_gps (fun _ => 0) (fun g hg' => (HGn.out.each g hg').row) HGn.out.rise (ax_rows X'))
              have HLA : Hid ((ax X0).length ≤ 4096) := Lib.hid (by have h1 := HGA.out.few; have h2 : (gx X0).length = X0.length := List.length_map ..; have h3 : (ax X0).length = X0.length := List.length_map ..; omega)
              have HLB : Hid ((ax X').length ≤ 4096) := Lib.hid (by have h1 := HGn.out.few; have h2 : (gx X').length = X'.length := List.length_map ..; have h3 : (ax X').length = X'.length := List.length_map ..; omega)
              have HRW := Lib.hid (fun W (hb : Below w.heap.size w W) (x : Gm) (hx : GoodG1 p x.gp) (hok : x.ok W) => let y := gm_fit_len hx; grow_any p x W (HP.out.below hb).a hok y.1 y.2.1 (group_few HCP.out HGR.out).2.2 y.2.2)
              unfold Gm.agg at HRW
              rw [HV0.out, HV1.out, HV2.out, HV3.out, HVG.out, HVA.out] at HRW
              have HXAM := HXO
              have HXBM := HXN
              have HGO := Lib.hid (fun q (hq : q ∈ X0) => HXO.out.each q hq)
              have HGP := Lib.hid (fun q (hq : q ∈ X') => HXN.out.each q hq)
              go_wp2_with fail
              go_loopw [86] (fun iv wr3 => ∃ (i n : Nat) (C : AV), iv = .int .i64 i ∧ i ≤ 2 ∧ n ≤ 5000 * i ∧ C.length ≤ 5000 * i ∧ Hid (KS (ax X0) (ax X') i C) ∧ Hid (wr3.ownsMap Tryz.prog 9 (plainElem (H := Unit) Tryz.prog 3) wr2.heap.size n (mkD C)) ∧ Hid (Blk wr3 (wr2.heap.size + 1) 122 #[.map (some M0), .map (some M1)]) ∧ Below wr2.heap.size wr2 wr3) (fun iv _ => 2 - (intOf iv).toNat)
              case atStart => exact ⟨0, 0, [], rfl, by omega, by omega, by simp, Lib.hid (KS.start _ _), HKM, HKT, HBT.out⟩
              case round =>
                rename World => wr3
                clear HKM HKT HBT
                obtain ⟨i, n, C, rfl, hi, hn, hCl, HKS, HOK, HK, hbw⟩ := hrel
                have hD : i = 0 ∨ i = 1 ∨ i = 2 := by omega
                rcases hD with rfl | rfl | rfl
                · have y0 := HK.out.cell 0 _ rfl
                  have HOX := Lib.hid (HXAM.out.below hbw).map
                  obtain ⟨nX, -, hownX⟩ := id HOX.out
                  have HSZ := Lib.hid (mkD_size (ax X0))
                  have hMl : M0 < wr2.heap.size := HXAM.out.lt
                  have hkl : wr2.heap.size + 1 < wr3.heap.size := HK.out.lt
                  go_wp2_with (first
                    | (at_range; refine wpList_range_own _ rfl _ 122 rfl 9 129 lawS Tryz.underlying122 ptrE M0 nX (mkD (ax X0)) rfl hownX ?_; intro w4 hrg4 hg4 hs4)
                    | go_in)
                  go_frame
                  have hbw4 : Below wr2.heap.size wr2 w4 := hbw.grown hg4 hbw.size (fun j hj => by cases hj)
                  have HO4 := Lib.hid (HOK.out.kept hg4 (by simp))
                  have HK4 := Lib.hid (HK.out.grown hg4 (by simp))
                  have HPT := Lib.hid (KP.start HRA.out HKS.out.rises HKS.out.look)
                  clear hs4 hg4 hownX HOX HOK y0 HK
                  go_loopw [22] (fun _ wr4 => ∃ (left : Lit → Bool) (cnt nn : Nat) (P : AV) (m : Int), wr4.ranges Tryz.prog 9 ptrE M0 wr3.heap.size nX (mkD (ax X0)) left cnt ∧ nn + cnt ≤ 5000 ∧ P.length + cnt ≤ 5000 ∧ m + cnt ≤ 5000 ∧ wr4.ownsMap Tryz.prog 9 (plainElem (H := Unit) Tryz.prog 3) wr2.heap.size nn (mkD P) ∧ Hid (KP (ax X0) C P left m) ∧ Hid (Blk wr4 (wr2.heap.size + 1) 122 #[.map (some M0), .map (some M1)]) ∧ Below wr2.heap.size wr2 wr4) (fun _ wr4 => wr4.rangeLeft M0 wr3.heap.size)
                  case atStart => exact ⟨_, _, n, C, ((5000 * 0 : Nat) : Int), hrg4, by rw [HSZ.out]; have := HLA.out; omega, by rw [HSZ.out]; have := HLA.out; omega, by rw [HSZ.out]; have := HLA.out; omega, HO4.out, HPT, HK4, hbw4⟩
                  case round =>
                    rename World => wr4
                    clear hrg4 HO4 HPT HK4 hbw4
                    obtain ⟨left, cnt, nn, P, m, hrg, hnc, hPc, hmc, hown, HPT, HK, hbw4⟩ := hrel
                    go_wp2_with (first
                      | (at_next; refine wpList_next_ranges _ rfl _ rfl 9 lawS ptrE encStr ptrV (fun key kl hk => by obtain ⟨x, hx, _⟩ := Maps.keyOf_str Tryz.underlying9 hk; exact ⟨x, hx⟩) (fun v y hv => ptrV_of hv) M0 wr3.heap.size nX _ _ _ rfl hrg ?_ ?_)
                      | go_in)
                    · intro hc0 hl0
                      have HKN := Lib.hid (HKS.out.one HPT.out hl0 (by omega))
                      have HON := Lib.hid hown
                      clear hc0 hl0 hrg hown HPT
                      go_wp2
                      go_roundw
                      case rel => exact ⟨1, nn, P, by go_num, by omega, by omega, by omega, HKN, HON, HK, hbw4⟩
                      case measure => simp [intOf]
                    · intro x c kl yd yp w5 cnt2 hkey hlk hv hat hrg5 hlt hg5 hs5 hen
                      obtain ⟨x', ex, rfl, _⟩ := Maps.keyOf_str Tryz.underlying9 hkey
                      obtain rfl : x = x' := encStr_inj ex
                      obtain ⟨q, hq, hsk, -⟩ := entry_row hat
                      obtain rfl := same_str hsk
                      have HGq := Lib.hid (HRA.out.good q hq)
                      have HKY := Lib.hid (keyS HGq.out)
                      have HPN := Lib.hid (HPT.out.step HRA.out hq (has_mem HRA.out hq))
                      have hnum := HPT.out.look q.1 HGq.out
                      have hown5 := hown.kept hg5 (by intro e; injection e with e; omega)
                      have HK5 := Lib.hid (HK.out.grown hg5 (by intro e; injection e with e; omega))
                      have hb5 : Below wr2.heap.size wr2 w5 := hbw4.grown hg5 hbw4.size (fun j hj => by cases hj; omega)
                      have hwr : IntKind.i64.wrap (lookA P q.1 + 1) = lookA P q.1 + 1 := by rw [IntKind.wrap_i64]; omega
                      obtain ⟨hrun5, w6, hupd, hown6, hg6⟩ := bump_int (w' := w5) (v := lookA P q.1 + 1) hown5 (Below.refl _ _) HKY.out HPT.out.rises HGq.out (by unfold maxLen; omega) (wf_of (by omega))
                      have hb6 : Below wr2.heap.size wr2 w6 := hb5.grown hg6 hb5.size (fun j hj => by cases hj; omega)
                      have HK6 := Lib.hid (HK5.out.grown hg6 (by intro e; injection e with e; omega))
                      have HLF := Lib.hid (hrg.left_eq)
                      have HRG6 := Lib.hid (hrg5.kept hg6 (by intro e; injection e with e; omega) (by intro e; injection e with e; omega))
                      have HO6 := Lib.hid hown6
                      have hl2 := putA_len P q.1 (lookA P q.1 + 1)
                      have hput : (putA P q.1 (lookA P q.1 + 1)).length + cnt2 ≤ 5000 := by omega
                      rw [show encStr (keyRow q.1) = .string (str (keyRow q.1)) from rfl] at hen ⊢
                      generalize str (keyRow q.1) = ky at hrun5 hupd hen
                      clear hat hkey hlk hv hrg hrg5 hown hown5 hown6 hg5 hg6 hs5 ex hsk hq HK HK5
                      go_wp2
                      go_roundw
                      case rel =>
                        first
                          | exact ⟨_, cnt2, nn + 1, _, m + 1, HRG6.out, by omega, hput, by omega, HO6.out, HPN, HK6, hb6⟩
                          | ((repeat apply Exists.intro); exact ⟨⟨_, cnt2, nn + 1, _, m + 1, HRG6.out, by omega, hput, by omega, HO6.out, HPN, HK6, hb6⟩, rfl⟩)
                      case measure => rw [HRG6.out.left_eq, HLF.out]; exact hlt
                · have y0 := HK.out.cell 1 _ rfl
                  have HOX := Lib.hid (HXBM.out.below hbw).map
                  obtain ⟨nX, -, hownX⟩ := id HOX.out
                  have HSZ := Lib.hid (mkD_size (ax X'))
                  have hMl : M1 < wr2.heap.size := HXBM.out.lt
                  have hkl : wr2.heap.size + 1 < wr3.heap.size := HK.out.lt
                  go_wp2_with (first
                    | (at_range; refine wpList_range_own _ rfl _ 122 rfl 9 129 lawS Tryz.underlying122 ptrE M1 nX (mkD (ax X')) rfl hownX ?_; intro w4 hrg4 hg4 hs4)
                    | go_in)
                  go_frame
                  have hbw4 : Below wr2.heap.size wr2 w4 := hbw.grown hg4 hbw.size (fun j hj => by cases hj)
                  have HO4 := Lib.hid (HOK.out.kept hg4 (by simp))
                  have HK4 := Lib.hid (HK.out.grown hg4 (by simp))
                  have HPT := Lib.hid (KP.start HRB.out HKS.out.rises HKS.out.look)
                  clear hs4 hg4 hownX HOX HOK y0 HK
                  go_loopw [22] (fun _ wr4 => ∃ (left : Lit → Bool) (cnt nn : Nat) (P : AV) (m : Int), wr4.ranges Tryz.prog 9 ptrE M1 wr3.heap.size nX (mkD (ax X')) left cnt ∧ nn + cnt ≤ 10000 ∧ P.length + cnt ≤ 10000 ∧ m + cnt ≤ 10000 ∧ wr4.ownsMap Tryz.prog 9 (plainElem (H := Unit) Tryz.prog 3) wr2.heap.size nn (mkD P) ∧ Hid (KP (ax X') C P left m) ∧ Hid (Blk wr4 (wr2.heap.size + 1) 122 #[.map (some M0), .map (some M1)]) ∧ Below wr2.heap.size wr2 wr4) (fun _ wr4 => wr4.rangeLeft M1 wr3.heap.size)
                  case atStart => exact ⟨_, _, n, C, ((5000 * 1 : Nat) : Int), hrg4, by rw [HSZ.out]; have := HLB.out; omega, by rw [HSZ.out]; have := HLB.out; omega, by rw [HSZ.out]; have := HLB.out; omega, HO4.out, HPT, HK4, hbw4⟩
                  case round =>
                    rename World => wr4
                    clear hrg4 HO4 HPT HK4 hbw4
                    obtain ⟨left, cnt, nn, P, m, hrg, hnc, hPc, hmc, hown, HPT, HK, hbw4⟩ := hrel
                    go_wp2_with (first
                      | (at_next; refine wpList_next_ranges _ rfl _ rfl 9 lawS ptrE encStr ptrV (fun key kl hk => by obtain ⟨x, hx, _⟩ := Maps.keyOf_str Tryz.underlying9 hk; exact ⟨x, hx⟩) (fun v y hv => ptrV_of hv) M1 wr3.heap.size nX _ _ _ rfl hrg ?_ ?_)
                      | go_in)
                    · intro hc0 hl0
                      have HKN := Lib.hid (HKS.out.two HPT.out hl0 (by omega))
                      have HON := Lib.hid hown
                      clear hc0 hl0 hrg hown HPT
                      go_wp2
                      go_roundw
                      case rel => exact ⟨2, nn, P, by go_num, by omega, by omega, by omega, HKN, HON, HK, hbw4⟩
                      case measure => simp [intOf]
                    · intro x c kl yd yp w5 cnt2 hkey hlk hv hat hrg5 hlt hg5 hs5 hen
                      obtain ⟨x', ex, rfl, _⟩ := Maps.keyOf_str Tryz.underlying9 hkey
                      obtain rfl : x = x' := encStr_inj ex
                      obtain ⟨q, hq, hsk, -⟩ := entry_row hat
                      obtain rfl := same_str hsk
                      have HGq := Lib.hid (HRB.out.good q hq)
                      have HKY := Lib.hid (keyS HGq.out)
                      have HPN := Lib.hid (HPT.out.step HRB.out hq (has_mem HRB.out hq))
                      have hnum := HPT.out.look q.1 HGq.out
                      have hown5 := hown.kept hg5 (by intro e; injection e with e; omega)
                      have HK5 := Lib.hid (HK.out.grown hg5 (by intro e; injection e with e; omega))
                      have hb5 : Below wr2.heap.size wr2 w5 := hbw4.grown hg5 hbw4.size (fun j hj => by cases hj; omega)
                      have hwr : IntKind.i64.wrap (lookA P q.1 + 1) = lookA P q.1 + 1 := by rw [IntKind.wrap_i64]; omega
                      obtain ⟨hrun5, w6, hupd, hown6, hg6⟩ := bump_int (w' := w5) (v := lookA P q.1 + 1) hown5 (Below.refl _ _) HKY.out HPT.out.rises HGq.out (by unfold maxLen; omega) (wf_of (by omega))
                      have hb6 : Below wr2.heap.size wr2 w6 := hb5.grown hg6 hb5.size (fun j hj => by cases hj; omega)
                      have HK6 := Lib.hid (HK5.out.grown hg6 (by intro e; injection e with e; omega))
                      have HLF := Lib.hid (hrg.left_eq)
                      have HRG6 := Lib.hid (hrg5.kept hg6 (by intro e; injection e with e; omega) (by intro e; injection e with e; omega))
                      have HO6 := Lib.hid hown6
                      have hl2 := putA_len P q.1 (lookA P q.1 + 1)
                      have hput : (putA P q.1 (lookA P q.1 + 1)).length + cnt2 ≤ 10000 := by omega
                      rw [show encStr (keyRow q.1) = .string (str (keyRow q.1)) from rfl] at hen ⊢
                      generalize str (keyRow q.1) = ky at hrun5 hupd hen
                      clear hat hkey hlk hv hrg hrg5 hown hown5 hown6 hg5 hg6 hs5 ex hsk hq HK HK5
                      go_wp2
                      go_roundw
                      case rel =>
                        first
                          | exact ⟨_, cnt2, nn + 1, _, m + 1, HRG6.out, by omega, hput, by omega, HO6.out, HPN, HK6, hb6⟩
                          | ((repeat apply Exists.intro); exact ⟨⟨_, cnt2, nn + 1, _, m + 1, HRG6.out, by omega, hput, by omega, HO6.out, HPN, HK6, hb6⟩, rfl⟩)
                      case measure => rw [HRG6.out.left_eq, HLF.out]; exact hlt
                · have hkl : wr2.heap.size + 1 < wr3.heap.size := HK.out.lt
                  have hownK := HOK.out
                  have HSZ := Lib.hid (mkD_size C)
                  have HUN := Lib.hid (HKS.out.union (fun g hg => (HGA.out.each g hg).row) (fun g hg => (HGn.out.each g hg).row))
                  have HRC := Lib.hid HKS.out.rises
                  clear HKS HK
                  go_wp2_with (first
                    | (at_range; refine wpList_range_own _ rfl _ 125 rfl 9 3 lawS Tryz.underlying125 (plainElem (H := Unit) Tryz.prog 3) wr2.heap.size n (mkD C) rfl hownK ?_; intro w5 hrg5 hg5 hs5)
                    | go_in)
                  go_frame
                  have hbw5 : Below wr2.heap.size wr2 w5 := hbw.grown hg5 hbw.size (fun j hj => by cases hj)
                  clear hs5 hg5 hownK
                  go_loopw [23, 24] (fun v _ wr5 => ∃ (left : Lit → Bool) (cnt : Nat) (ss : List (List UInt8)), wr5.ranges Tryz.prog 9 (plainElem (H := Unit) Tryz.prog 3) wr2.heap.size wr3.heap.size n (mkD C) left cnt ∧ ss.length + cnt ≤ C.length ∧ wr5.ownsRow wr3.heap.size 9 1 v ss.length (ss.map encStr) ∧ Hid (Collected (mkD C) left ss) ∧ Below wr2.heap.size wr2 wr5) (fun _ _ wr5 => wr5.rangeLeft wr2.heap.size wr3.heap.size)
                  case atStart => exact ⟨_, _, [], hrg5, by rw [HSZ.out]; simp, World.ownsRow_nil _ _ _ _, Lib.hid (Collected.start _), hbw5⟩
                  case round =>
                    rename World => wr5
                    clear hrg5 hbw5
                    obtain ⟨left, cnt, ss, hrg, hcs, hrow, hC, hnx⟩ := hrel
                    go_wp2_with (first
                      | (at_next; refine wpList_next_ranges _ rfl _ rfl 9 lawS (plainElem (H := Unit) Tryz.prog 3) encStr (Value.int .i64) (fun key kl hk => by obtain ⟨x, hx, _⟩ := Maps.keyOf_str Tryz.underlying9 hk; exact ⟨x, hx⟩) (fun v y hv => by obtain ⟨c, rfl, _⟩ := plainElem_int_inv Tryz.underlying3 hv; exact ⟨c, rfl⟩) wr2.heap.size wr3.heap.size n _ _ _ rfl hrg ?_ ?_)
                      | go_in)
                    rotate_left
                    · intro x c kl yd yp w6 cnt2 hkey hlk hv hat hrg2 hlt hg2 hs2 hen
                      obtain ⟨x', ex, rfl, _⟩ := Maps.keyOf_str Tryz.underlying9 hkey
                      obtain rfl : x = x' := encStr_inj ex
                      have hrow2 := hrow.kept hg2 (Or.inr (row_ne_iter hrow hrg).symm)
                      have hb2 : Below wr2.heap.size wr2 w6 := hnx.grown hg2 hnx.size (fun j hj => by cases hj; omega)
                      have HC2 := Lib.hid (hC.out.step hlk hat)
                      have HRWx := Lib.hid hrow2
                      have HRG := Lib.hid hrg2
                      have HLF := Lib.hid (hrg.left_eq)
                      have hsz3 : wr3.heap.size ≤ w6.heap.size := by rw [hs2]; exact Nat.le_of_lt hrg.lt
                      clear hs2 hv hat hkey hlk hg2 hrow2 hrow hrg2 hrg hC ex
                      have HRW1 := Lib.hid (HRWx.out.alloc (.cells #[encStr x] 9))
                      have HRG1 := Lib.hid (HRG.out.alloc (.cells #[encStr x] 9))
                      go_wp2_with (at_builtin; refine wpList_app rfl (.tmp 107) (.tmp 109) 127 rfl wr3.heap.size 9 1 16 Tryz.underlying127 strI _ ss.length _ rfl HRW1.out _ 1 [encStr x] rfl (one_str w6 x) rfl (by simp [Value.oneCell', encStr]) ?_ ?_ (by simp; omega) ?_)
                      · unfold maxLen; omega
                      · omega
                      · intro v' w7 hown' hg3 hat3
                        have hrg3 := HRG1.out.kept hg3 (row_ne_low HRW1.out (by omega)) (row_ne_iter HRW1.out HRG1.out)
                        have hb3 := (hb2.alloc hb2.size _).grown hg3 (by have := hb2.size; simp; omega) (fun j hj => by have := (HRWx.out.lt j hj).1; omega)
                        clear hat3 hg3
                        go_wp2
                        go_roundw
                        case rel =>
                          first
                            | exact ⟨_, cnt2, ss ++ [x], hrg3, by simp; omega, by simpa using hown', HC2, hb3⟩
                            | ((repeat apply Exists.intro); exact ⟨⟨_, cnt2, ss ++ [x], hrg3, by simp; omega, by simpa using hown', HC2, hb3⟩, rfl⟩)
                        case measure => rw [hrg3.left_eq, HLF.out]; exact hlt
                    intro hc0 hl0
                    have HPM := Lib.hid (hC.out.perm HOK.out lawS Tryz.underlying9 hl0)
                    have HSS := Lib.hid (keys_sorted HRC.out HPM.out)
                    have HL : Hid (ss.length = C.length) := Lib.hid (by have := HPM.out.length_eq; rw [keys_of, List.length_map] at this; exact this)
                    clear hc0 hl0 hrg hC HPM
                    go_upto_region 38 with fail
                    go_cut [23] from 111 to 187 (fun v wx => ∃ Ak ck, v = .slice Ak C.length ck ∧ Hid (Sl wx (.slice Ak C.length ck) C.length (C.map fun q => .string (str (keyRow q.1)))) ∧ Below wr2.heap.size wr2 wx)
                    case first =>
                      rcases hrow.2 with ⟨rfl, hz⟩ | ⟨g, cap, cur, rfl, hbase, hb, h1, h2, h3, h4⟩
                      · have hA0 : C = [] := List.length_eq_zero_iff.1 (by rw [← HL.out]; exact hz)
                        subst hA0
                        clear hz
                        go_wp2_with fail
                        refine (sort_none _).mono ?_
                        rintro e w' ⟨rfl, rfl⟩
                        go_wp2
                        go_meet
                        exact ⟨none, 0, rfl, Lib.hid (Sl.nil_ _), hnx⟩
                      · have hH : Holds encStr wr5 g 0 ss.toArray := holds_of_block hb (by simpa using h4)
                        have hgl : g < wr5.heap.size := (Array.getElem?_eq_some_iff.1 hb).1
                        have HH := Lib.hid hH
                        have HBk := Lib.hid hb
                        have H3 := Lib.hid h3
                        clear hH h4 hb h3
                        go_wp2_with fail
                        refine (sort_some g cap ss wr5 HH.out hgl (by omega)).mono ?_
                        rintro e w' ⟨rfl, nn, os, hw'⟩
                        have hr2 : w'.ownsRow wr3.heap.size 9 1 (.slice (some ⟨g, 0, none⟩) ss.length cap) ss.length (C.map fun q => .string (str (keyRow q.1))) := by
                          rw [hw']
                          have := ownsRow_sorted (w := wr5) (n := nn) (os := os) (ts := ss.mergeSort leB) (ss := ss) (by simp) hbase HBk.out h1 h2 H3.out
                          rw [show (ss.mergeSort leB).map encStr = C.map fun q => .string (str (keyRow q.1)) from by rw [HSS.out, List.map_map]; rfl] at this
                          exact this
                        have hb2 : Below wr2.heap.size wr2 w' := by rw [hw']; exact hnx.grown (grownBy_sorted _) hnx.size (fun j hj => by cases hj; omega)
                        have HR2 := Lib.hid hr2
                        clear hw' hr2
                        go_wp2
                        go_meet
                        exact ⟨some ⟨g, 0, none⟩, cap, by rw [HL.out], Lib.hid (by rw [← HL.out] at *; exact Sl.of_own HR2.out), hb2⟩
                    case' rest =>
                      obtain ⟨Ak, ck, rfl, HSR, hbc⟩ := hcut
                      clear hrow hnx
                      have HXA := Lib.hid (HXAM.out.below hbc)
                      have HXB := Lib.hid (HXBM.out.below hbc)
                      have hcl : C.length ≤ 10000 := by omega
                      have hPw : w.heap.size < wr2.heap.size := HKC.out.lt
                      have HBC := Lib.hid hbc
                      clear hbc hCl hn HOK
                      go_wp2_with fail
                      go_loopw [25, 26, 28, 29, 30, 115] (fun gv ov _ _ _ iv wr7 => ∃ (i : Nat) (GL : List Gm) (m : List Chn), iv = .int .i64 i ∧ i ≤ C.length ∧ GL.length ≤ i ∧ m.length ≤ 2 * i ∧ Hid (TwoO wr7 wc.heap.size gv GL ov m) ∧ Hid (∀ x ∈ GL, ∃ q ∈ X', q.2 = x) ∧ Hid (gps GL = ((C.take i).map (·.1)).filterMap (findG (gx X'))) ∧ Hid (ac m = ((C.take i).map (·.1)).flatMap fun r => tellR p (findG (gx X0) r) (findG (gx X') r)) ∧ Below wc.heap.size wc wr7) (fun _ _ _ _ _ iv _ => C.length - (intOf iv).toNat)
                      case atStart => exact ⟨0, [], [], rfl, by omega, by simp, by simp, Lib.hid (TwoO.nil _ _), Lib.hid nofun, Lib.hid rfl, Lib.hid rfl, Below.refl _ _⟩
                      case round =>
                        rename World => wr7
                        obtain ⟨i, GL, m, rfl, hi, hGl, hml, HT, HGM, HGE, HME, hb7⟩ := hrel
                        by_cases hlt : i < C.length
                        · have hx := List.getElem?_eq_getElem (l := C) hlt
                          generalize C[i] = pc at hx
                          obtain ⟨r, n0⟩ := pc
                          have HCX := Lib.hid hx
                          have HGq : Hid (GoodR r) := Lib.hid (HRC.out.good _ (List.mem_of_getElem? hx))
                          obtain ⟨bs, os, hAk, -, hcs⟩ := cellv_at HSR.out rfl hx
                          subst hAk
                          have d0 := hcs _ hb7
                          simp only at d0
                          have HLK := Lib.hid (fun W (hb : Below wc.heap.size wc W) => And.intro (look_find (HXA.out.below hb) HRA.out HGq.out) (look_find (HXB.out.below hb) HRB.out HGq.out))
                          have HUr := Lib.hid ((HUN.out.mem r).1 (List.mem_map.2 ⟨_, List.mem_of_getElem? hx, rfl⟩))
                          have HFA := Lib.hid (findX_gx X0 r)
                          have HFB := Lib.hid (findX_gx X' r)
                          obtain ⟨oa, hoa⟩ : ∃ o, findX X0 r = o := ⟨_, rfl⟩
                          obtain ⟨ob, hob⟩ : ∃ o, findX X' r = o := ⟨_, rfl⟩
                          have HOA := Lib.hid hoa
                          have HOB := Lib.hid hob
                          rw [hoa, hob] at HLK
                          rw [hoa] at HFA
                          rw [hob] at HFB
                          generalize str (keyRow r) = ky at HLK d0
                          have HT8 := Lib.hid (HT.out.below (Below.refl _ wr7).drew)
                          have hb8 := hb7.drew
                          have i0 : (0 : Int) ≤ (i : Int) := by omega
                          have i1 : (i : Int) < (C.length : Int) := by omega
                          clear hx hcs hoa hob HT
                          rcases oa with _ | ⟨ba, xa⟩ <;> rcases ob with _ | ⟨bb, xb⟩
                          · exfalso
                            have h1 : findG (gx X0) r = none := HFA.out
                            have h2 : findG (gx X') r = none := HFB.out
                            have hk := rowsF_self HGq.out
                            rcases HUr.out with ⟨g, hg, rfl⟩ | ⟨g, hg, rfl⟩
                            · have := List.find?_eq_none.1 h1 g hg; simp [hk] at this
                            · have := List.find?_eq_none.1 h2 g hg; simp [hk] at this
                          · as_aux_lemma =>
                              have hL : ∀ w', Below wc.heap.size wc w' → (Instr.lookup 122 (.map (some M0)) (.string ky) false).run Tryz.prog w' = .ok (.pointer none) w' ∧ (Instr.lookup 122 (.map (some M1)) (.string ky) false).run Tryz.prog w' = .ok (.pointer (some ⟨bb, 0, none⟩)) w' := HLK.out
                              go_upto_region 44 with fail
                              refine tr (S := (fun w' => (Instr.lookup 122 (.map (some M0)) (.string ky) false).run Tryz.prog w' = .ok (.pointer none) w' ∧ (Instr.lookup 122 (.map (some M1)) (.string ky) false).run Tryz.prog w' = .ok (.pointer (some ⟨bb, 0, none⟩)) w')) (hL _ hb8) (fun hHeld => ?_)
                              refine tk 0 ?_; refine tk 1 ?_; refine tk 2 ?_; refine tk 3 ?_; refine tk 4 ?_; refine tk 5 ?_; refine tk 6 ?_; refine tk 7 ?_
                              refine td ?_
                              clear hL d0 HLK
                              generalize wr7.drew = w8 at HT8 hb8 ⊢
                              have h28 := below_trans HBC.out hb8
                              have HKP := Lib.hid (HKC.out.below h28)
                              have hqb := findX_mem HOB.out
                              have HPb := Lib.hid (HGP.out _ hqb)
                              have HMb : Hid (∃ q ∈ X', q.2 = xb) := Lib.hid ⟨_, hqb, rfl⟩
                              have HDb := Lib.hid (HGn.out.each xb.gp (List.mem_map.2 ⟨_, hqb, rfl⟩))
                              clear hqb
                              obtain ⟨vb, rb, nb, vbb, bgb⟩ := xb
                              obtain ⟨Bb, kb, e1, -⟩ := id HPb.out.row
                              obtain ⟨Db, jb, e2, -⟩ := Sl.of_own HPb.out.sl
                              simp only at e1 e2
                              subst e1 e2
                              have HCb := Lib.hid (fun W (hb : Below wr2.heap.size wr2 W) => HPb.out.cell.below hb)
                              have HRb := Lib.hid (fun W (hb : Below wr2.heap.size wr2 W) => HRW.out W (below_trans HWR.out hb) _ HDb.out (HPb.out.ok.below hb))
                              simp only at HCb HRb
                              generalize hZb : rowG p (Gm.gp ⟨.slice Bb rb.length kb, rb, nb, .slice Db bgb.length jb, bgb⟩) = Zb at HRb
                              have HZb := Lib.hid hZb
                              clear hZb
                              have HGb := Lib.hid (HCb.out _ h28)
                              have z0 := HGb.out.cell 0 _ rfl
                              have z1 := HGb.out.cell 1 _ rfl
                              have z2 := HGb.out.cell 2 _ rfl
                              have HT9 := Lib.hid (HT8.out.below (below_alloc w8 (.cells #[.slice Bb rb.length kb, .int .i64 nb, .slice Db bgb.length jb] 97)))
                              have hb9 := hb8.alloc hb8.size (.cells #[.slice Bb rb.length kb, .int .i64 nb, .slice Db bgb.length jb] 97)
                              have HOG := Lib.hid (one_gm w8 ⟨.slice Bb rb.length kb, rb, nb, .slice Db bgb.length jb, bgb⟩)
                              simp only at HOG
                              go_upto_region 48 with (at_builtin; refine wpList_app rfl (.tmp 127) (.tmp 131) 26 rfl wc.heap.size 97 3 56 Tryz.underlying26 grpI u25 GL.length _ rfl HT9.out.grp _ 1 (Gm.cells ⟨.slice Bb rb.length kb, rb, nb, .slice Db bgb.length jb, bgb⟩) rfl HOG.out rfl (by simp [Gm.cells, Value.oneCell']) ?_ ?_ ?_ ?_)
                              · unfold maxLen; omega
                              · omega
                              · have := hb9.size; rw [World.size_alloc] at this; exact this
                              intro v9 w9 hown9 hg9 hat9
                              have HTA := Lib.hid (HT9.out.group (x := ⟨.slice Bb rb.length kb, rb, nb, .slice Db bgb.length jb, bgb⟩) hown9 hg9 (by simpa using hat9))
                              have hbA := hb9.grown hg9 hb9.size (fun j hj => own_ge HT9.out.grp j hj)
                              clear z0 z1 z2 hown9 hg9 hat9 HT8 HT9 hb8 hb9 HOG h28 HKP HGb
                              have h28 := below_trans HBC.out hbA
                              have HKP := Lib.hid (HKC.out.below h28)
                              go_upto_region 48 with fail
                              have HGb := Lib.hid (HCb.out _ h28)
                              have HSS := Lib.hid (fun w' (h : Below w9.heap.size w9 w') => And.intro ((HKP.out.below h).cell 0 _ rfl) (And.intro ((HKP.out.below h).cell 1 _ rfl) (And.intro ((HKP.out.below h).cell 2 _ rfl) (And.intro ((HKP.out.below h).cell 3 _ rfl) (And.intro ((HKP.out.below h).cell 4 _ rfl) (And.intro ((HKP.out.below h).cell 5 _ rfl) (And.intro ((HKP.out.below h).cell 6 _ rfl) (And.intro ((HKP.out.below h).cell 7 _ rfl) (And.intro ((HKP.out.below h).cell 8 _ rfl) (And.intro ((HKP.out.below h).cell 9 _ rfl) (And.intro ((HKP.out.below h).cell 10 _ rfl) (And.intro ((HKP.out.below h).cell 11 _ rfl) (And.intro ((HKP.out.below h).cell 12 _ rfl) (And.intro ((HGb.out.below h).cell 0 _ rfl) (And.intro ((HGb.out.below h).cell 1 _ rfl) ((HGb.out.below h).cell 2 _ rfl))))))))))))))))
                              have hy0 : Below w9.heap.size w9 w9.drew := (Below.refl _ w9).drew
                              refine tr (S := (fun w' => w'.cell? ⟨w.heap.size, 0, none⟩ = some (.int .i64 p.kind) ∧ w'.cell? ⟨w.heap.size, 1, none⟩ = some (.int .i64 p.mode) ∧ w'.cell? ⟨w.heap.size, 2, none⟩ = some (.int .i64 p.low) ∧ w'.cell? ⟨w.heap.size, 3, none⟩ = some (.int .i64 p.high) ∧ w'.cell? ⟨w.heap.size, 4, none⟩ = some (.int .i64 p.size) ∧ w'.cell? ⟨w.heap.size, 5, none⟩ = some (.int .i64 p.limit) ∧ w'.cell? ⟨w.heap.size, 6, none⟩ = some (.slice A0 p.left.length c0) ∧ w'.cell? ⟨w.heap.size, 7, none⟩ = some (.slice A1 p.right.length c1) ∧ w'.cell? ⟨w.heap.size, 8, none⟩ = some (.slice A2 p.lkeys.length c2) ∧ w'.cell? ⟨w.heap.size, 9, none⟩ = some (.slice A3 p.rkeys.length c3) ∧ w'.cell? ⟨w.heap.size, 10, none⟩ = some (.bool p.grouped) ∧ w'.cell? ⟨w.heap.size, 11, none⟩ = some (.slice A4 p.group.length c4) ∧ w'.cell? ⟨w.heap.size, 12, none⟩ = some (.slice A5 p.aggs.length c5) ∧ w'.cell? ⟨bb, 0, none⟩ = some (.slice Bb rb.length kb) ∧ w'.cell? ⟨bb, 1, none⟩ = some (.int .i64 nb) ∧ w'.cell? ⟨bb, 2, none⟩ = some (.slice Db bgb.length jb))) (HSS.out _ hy0) (fun hHeld => ?_)
                              refine tk 0 ?_; refine tk 1 ?_; refine tk 2 ?_; refine tk 3 ?_; refine tk 4 ?_
                              refine tc 5 ?_
                              intro K hK
                              go_simp
                              refine Calls.mono (by with_reducible exact HRb.out _ (below_trans h28 hy0)) ?_
                              rintro e w1 ⟨v1, rfl, how1, hxw1⟩
                              have hyw1 := below_trans hy0 hxw1
                              obtain ⟨Ew1, fw1, gw1, rfl⟩ := own_slice how1
                              have HOw1 := Lib.hid how1
                              clear how1 hxw1
                              go_wp2_with fail
                              refine hK.out _ _ (HSS.out _ hyw1) (fun hHeld5 => ?_)
                              clear hK K
                              refine tk 6 ?_
                              refine tc 7 ?_
                              intro K hK
                              go_simp
                              refine hK.out _ _ (HSS.out _ (below_trans hyw1 (below_alloc w1 (.cells #[.int .i64 1, .slice Ew1 fw1 gw1] 73)))) (fun hHeld7 => ?_)
                              clear hK K
                              refine tc 8 ?_
                              intro K hK
                              have HTX := Lib.hid (HTA.out.below (below_trans hyw1 (below_alloc w1 (.cells #[.int .i64 1, .slice Ew1 fw1 gw1] 73))))
                              have HSR1 := Lib.hid ((Sl.of_own HOw1.out).below (below_alloc w1 (.cells #[.int .i64 1, .slice Ew1 fw1 gw1] 73)))
                              have HCH := Lib.hid (one_chn w1 ⟨.slice Ew1 fw1 gw1, Zb, 1⟩)
                              have hbX := below_trans hbA (below_trans hyw1 (below_alloc w1 (.cells #[.int .i64 1, .slice Ew1 fw1 gw1] 73)))
                              refine step_app (by rfl) _ _ 36 (by rfl) wc.heap.size 73 2 32 Tryz.underlying36 chgI u26 m.length _ (by rfl) HTX.out.out.own _ 1 (Chn.cells ⟨.slice Ew1 fw1 gw1, Zb, 1⟩) (by rfl) HCH.out rfl (chn_one HSR1.out) (by unfold maxLen; omega) (by omega) hbX.size ?_
                              intro vX wX hownX hgX hatX
                              have HTY := Lib.hid (HTX.out.tell (cs := [⟨.slice Ew1 fw1 gw1, Zb, 1⟩]) (by simpa [chnCells] using hownX) hgX (by simpa using hatX) (fun c hc => by
                                obtain rfl := List.mem_singleton.1 hc
                                refine ⟨HSR1.out, fun k hk => ?_⟩
                                have h1 := own_ge HOw1.out k hk
                                have h2 := own_lt HOw1.out k hk
                                have h3 := hbA.size
                                have h4 : w9.heap.size ≤ w9.drew.heap.size := hy0.size
                                exact ⟨by omega, by rw [World.size_alloc]; omega, fun e => by have := own_lt HTA.out.out.own _ e; omega, fun e => by have := own_lt HTA.out.grp _ e; omega⟩))
                              have hbY := hbX.grown hgX hbX.size (fun j hj => own_ge HTX.out.out.own j hj)
                              have HKY := (HKP.out.below (below_trans hyw1 (below_alloc w1 (.cells #[.int .i64 1, .slice Ew1 fw1 gw1] 73)))).grown hgX (fun e => by have := own_ge HTX.out.out.own _ e; have := HBC.out.size; omega)
                              have HGY := (HGb.out.below (below_trans hyw1 (below_alloc w1 (.cells #[.int .i64 1, .slice Ew1 fw1 gw1] 73)))).grown hgX (fun e => by have := own_ge HTX.out.out.own _ e; have := HBC.out.size; have := HPb.out.cell.lt; omega)
                              refine hK.out _ _ (And.intro (HKY.cell 0 _ rfl) (And.intro (HKY.cell 1 _ rfl) (And.intro (HKY.cell 2 _ rfl) (And.intro (HKY.cell 3 _ rfl) (And.intro (HKY.cell 4 _ rfl) (And.intro (HKY.cell 5 _ rfl) (And.intro (HKY.cell 6 _ rfl) (And.intro (HKY.cell 7 _ rfl) (And.intro (HKY.cell 8 _ rfl) (And.intro (HKY.cell 9 _ rfl) (And.intro (HKY.cell 10 _ rfl) (And.intro (HKY.cell 11 _ rfl) (And.intro (HKY.cell 12 _ rfl) (And.intro (HGY.cell 0 _ rfl) (And.intro (HGY.cell 1 _ rfl) (HGY.cell 2 _ rfl)))))))))))))))) (fun hHeld8 => ?_)
                              clear hK K
                              refine tk 9 ?_
                              refine td ?_
                              have HGM2 : Hid (∀ x ∈ GL ++ [⟨.slice Bb rb.length kb, rb, nb, .slice Db bgb.length jb, bgb⟩], ∃ q ∈ X', q.2 = x) := Lib.hid (fun x hx => (List.mem_append.1 hx).elim (fun hx => HGM.out x hx) (fun hx => by rw [List.mem_singleton.1 hx]; exact HMb.out))
                              have HGE2 : Hid (gps (GL ++ [⟨.slice Bb rb.length kb, rb, nb, .slice Db bgb.length jb, bgb⟩]) = ((C.take (i + 1)).map (·.1)).filterMap (findG (gx X'))) := Lib.hid (by rw [find_step (f := findG (gx X')) HCX.out HFB.out, ← HGE.out]; exact List.map_append)
                              have HME2 : Hid (ac (m ++ [⟨.slice Ew1 fw1 gw1, Zb, 1⟩]) = ((C.take (i + 1)).map (·.1)).flatMap fun r => tellR p (findG (gx X0) r) (findG (gx X') r)) := Lib.hid (by rw [tell_step (f := fun r => tellR p (findG (gx X0) r) (findG (gx X') r)) (o := tellR p none (some (Gm.gp ⟨.slice Bb rb.length kb, rb, nb, .slice Db bgb.length jb, bgb⟩))) HCX.out (congr (congrArg (tellR p) HFA.out) HFB.out), ← HME.out]; rw [show ac (m ++ [⟨.slice Ew1 fw1 gw1, Zb, 1⟩]) = ac m ++ [(1, Zb)] from List.map_append, ← HZb.out]; rfl)
                              go_wp2
                              go_roundw
                              case rel =>
                                first
                                  | exact ⟨i + 1, _, _, by go_num, by omega, by (try simp only [List.length_append, List.length_cons, List.length_nil]); omega, by (try simp only [List.length_append, List.length_cons, List.length_nil]); omega, HTY, HGM2, HGE2, HME2, hbY⟩
                                  | ((repeat apply Exists.intro); exact ⟨⟨i + 1, _, _, by go_num, by omega, by (try simp only [List.length_append, List.length_cons, List.length_nil]); omega, by (try simp only [List.length_append, List.length_cons, List.length_nil]); omega, HTY, HGM2, HGE2, HME2, hbY⟩, rfl⟩)
                              case measure => simp [intOf]; omega
                          · as_aux_lemma =>
                              have hL : ∀ w', Below wc.heap.size wc w' → (Instr.lookup 122 (.map (some M0)) (.string ky) false).run Tryz.prog w' = .ok (.pointer (some ⟨ba, 0, none⟩)) w' ∧ (Instr.lookup 122 (.map (some M1)) (.string ky) false).run Tryz.prog w' = .ok (.pointer none) w' := HLK.out
                              go_upto_region 44 with fail
                              refine tr (S := (fun w' => (Instr.lookup 122 (.map (some M0)) (.string ky) false).run Tryz.prog w' = .ok (.pointer (some ⟨ba, 0, none⟩)) w' ∧ (Instr.lookup 122 (.map (some M1)) (.string ky) false).run Tryz.prog w' = .ok (.pointer none) w')) (hL _ hb8) (fun hHeld => ?_)
                              refine tk 0 ?_; refine tk 1 ?_; refine tk 2 ?_; refine tk 3 ?_; refine tk 4 ?_; refine tk 5 ?_; refine tk 6 ?_; refine tk 7 ?_
                              refine td ?_
                              clear hL d0 HLK
                              generalize wr7.drew = w8 at HT8 hb8 ⊢
                              have h28 := below_trans HBC.out hb8
                              have HKP := Lib.hid (HKC.out.below h28)
                              have hqa := findX_mem HOA.out
                              have HPa := Lib.hid (HGO.out _ hqa)
                              have HMa : Hid (∃ q ∈ X0, q.2 = xa) := Lib.hid ⟨_, hqa, rfl⟩
                              have HDa := Lib.hid (HGA.out.each xa.gp (List.mem_map.2 ⟨_, hqa, rfl⟩))
                              clear hqa
                              obtain ⟨va, ra, na, vba, bga⟩ := xa
                              obtain ⟨Ba, ka, e1, -⟩ := id HPa.out.row
                              obtain ⟨Da, ja, e2, -⟩ := Sl.of_own HPa.out.sl
                              simp only at e1 e2
                              subst e1 e2
                              have HCa := Lib.hid (fun W (hb : Below wr2.heap.size wr2 W) => HPa.out.cell.below hb)
                              have HRa := Lib.hid (fun W (hb : Below wr2.heap.size wr2 W) => HRW.out W (below_trans HWR.out hb) _ HDa.out (HPa.out.ok.below hb))
                              simp only at HCa HRa
                              generalize hZa : rowG p (Gm.gp ⟨.slice Ba ra.length ka, ra, na, .slice Da bga.length ja, bga⟩) = Za at HRa
                              have HZa := Lib.hid hZa
                              clear hZa
                              go_upto_region 50 with fail
                              have HGa := Lib.hid (HCa.out _ h28)
                              have HSS := Lib.hid (fun w' (h : Below w8.heap.size w8 w') => And.intro ((HKP.out.below h).cell 0 _ rfl) (And.intro ((HKP.out.below h).cell 1 _ rfl) (And.intro ((HKP.out.below h).cell 2 _ rfl) (And.intro ((HKP.out.below h).cell 3 _ rfl) (And.intro ((HKP.out.below h).cell 4 _ rfl) (And.intro ((HKP.out.below h).cell 5 _ rfl) (And.intro ((HKP.out.below h).cell 6 _ rfl) (And.intro ((HKP.out.below h).cell 7 _ rfl) (And.intro ((HKP.out.below h).cell 8 _ rfl) (And.intro ((HKP.out.below h).cell 9 _ rfl) (And.intro ((HKP.out.below h).cell 10 _ rfl) (And.intro ((HKP.out.below h).cell 11 _ rfl) (And.intro ((HKP.out.below h).cell 12 _ rfl) (And.intro ((HGa.out.below h).cell 0 _ rfl) (And.intro ((HGa.out.below h).cell 1 _ rfl) ((HGa.out.below h).cell 2 _ rfl))))))))))))))))
                              have hy0 : Below w8.heap.size w8 w8.drew := (Below.refl _ w8).drew
                              refine tr (S := (fun w' => w'.cell? ⟨w.heap.size, 0, none⟩ = some (.int .i64 p.kind) ∧ w'.cell? ⟨w.heap.size, 1, none⟩ = some (.int .i64 p.mode) ∧ w'.cell? ⟨w.heap.size, 2, none⟩ = some (.int .i64 p.low) ∧ w'.cell? ⟨w.heap.size, 3, none⟩ = some (.int .i64 p.high) ∧ w'.cell? ⟨w.heap.size, 4, none⟩ = some (.int .i64 p.size) ∧ w'.cell? ⟨w.heap.size, 5, none⟩ = some (.int .i64 p.limit) ∧ w'.cell? ⟨w.heap.size, 6, none⟩ = some (.slice A0 p.left.length c0) ∧ w'.cell? ⟨w.heap.size, 7, none⟩ = some (.slice A1 p.right.length c1) ∧ w'.cell? ⟨w.heap.size, 8, none⟩ = some (.slice A2 p.lkeys.length c2) ∧ w'.cell? ⟨w.heap.size, 9, none⟩ = some (.slice A3 p.rkeys.length c3) ∧ w'.cell? ⟨w.heap.size, 10, none⟩ = some (.bool p.grouped) ∧ w'.cell? ⟨w.heap.size, 11, none⟩ = some (.slice A4 p.group.length c4) ∧ w'.cell? ⟨w.heap.size, 12, none⟩ = some (.slice A5 p.aggs.length c5) ∧ w'.cell? ⟨ba, 0, none⟩ = some (.slice Ba ra.length ka) ∧ w'.cell? ⟨ba, 1, none⟩ = some (.int .i64 na) ∧ w'.cell? ⟨ba, 2, none⟩ = some (.slice Da bga.length ja))) (HSS.out _ hy0) (fun hHeld => ?_)
                              refine tk 0 ?_; refine tk 1 ?_; refine tk 2 ?_; refine tk 3 ?_; refine tk 4 ?_
                              refine tc 5 ?_
                              intro K hK
                              go_simp
                              refine Calls.mono (by with_reducible exact HRa.out _ (below_trans h28 hy0)) ?_
                              rintro e w1 ⟨v1, rfl, how1, hxw1⟩
                              have hyw1 := below_trans hy0 hxw1
                              obtain ⟨Ew1, fw1, gw1, rfl⟩ := own_slice how1
                              have HOw1 := Lib.hid how1
                              clear how1 hxw1
                              go_wp2_with fail
                              refine hK.out _ _ (HSS.out _ hyw1) (fun hHeld5 => ?_)
                              clear hK K
                              refine tk 6 ?_
                              refine tc 7 ?_
                              intro K hK
                              go_simp
                              refine hK.out _ _ (HSS.out _ (below_trans hyw1 (below_alloc w1 (.cells #[.int .i64 2, .slice Ew1 fw1 gw1] 73)))) (fun hHeld7 => ?_)
                              clear hK K
                              refine tc 8 ?_
                              intro K hK
                              have HTX := Lib.hid (HT8.out.below (below_trans hyw1 (below_alloc w1 (.cells #[.int .i64 2, .slice Ew1 fw1 gw1] 73))))
                              have HSR1 := Lib.hid ((Sl.of_own HOw1.out).below (below_alloc w1 (.cells #[.int .i64 2, .slice Ew1 fw1 gw1] 73)))
                              have HCH := Lib.hid (one_chn w1 ⟨.slice Ew1 fw1 gw1, Za, 2⟩)
                              have hbX := below_trans hb8 (below_trans hyw1 (below_alloc w1 (.cells #[.int .i64 2, .slice Ew1 fw1 gw1] 73)))
                              refine step_app (by rfl) _ _ 36 (by rfl) wc.heap.size 73 2 32 Tryz.underlying36 chgI u26 m.length _ (by rfl) HTX.out.out.own _ 1 (Chn.cells ⟨.slice Ew1 fw1 gw1, Za, 2⟩) (by rfl) HCH.out rfl (chn_one HSR1.out) (by unfold maxLen; omega) (by omega) hbX.size ?_
                              intro vX wX hownX hgX hatX
                              have HTY := Lib.hid (HTX.out.tell (cs := [⟨.slice Ew1 fw1 gw1, Za, 2⟩]) (by simpa [chnCells] using hownX) hgX (by simpa using hatX) (fun c hc => by
                                obtain rfl := List.mem_singleton.1 hc
                                refine ⟨HSR1.out, fun k hk => ?_⟩
                                have h1 := own_ge HOw1.out k hk
                                have h2 := own_lt HOw1.out k hk
                                have h3 := hb8.size
                                have h4 : w8.heap.size ≤ w8.drew.heap.size := hy0.size
                                exact ⟨by omega, by rw [World.size_alloc]; omega, fun e => by have := own_lt HT8.out.out.own _ e; omega, fun e => by have := own_lt HT8.out.grp _ e; omega⟩))
                              have hbY := hbX.grown hgX hbX.size (fun j hj => own_ge HTX.out.out.own j hj)
                              have HKY := (HKP.out.below (below_trans hyw1 (below_alloc w1 (.cells #[.int .i64 2, .slice Ew1 fw1 gw1] 73)))).grown hgX (fun e => by have := own_ge HTX.out.out.own _ e; have := HBC.out.size; omega)
                              have HGY := (HGa.out.below (below_trans hyw1 (below_alloc w1 (.cells #[.int .i64 2, .slice Ew1 fw1 gw1] 73)))).grown hgX (fun e => by have := own_ge HTX.out.out.own _ e; have := HBC.out.size; have := HPa.out.cell.lt; omega)
                              refine hK.out _ _ (And.intro (HKY.cell 0 _ rfl) (And.intro (HKY.cell 1 _ rfl) (And.intro (HKY.cell 2 _ rfl) (And.intro (HKY.cell 3 _ rfl) (And.intro (HKY.cell 4 _ rfl) (And.intro (HKY.cell 5 _ rfl) (And.intro (HKY.cell 6 _ rfl) (And.intro (HKY.cell 7 _ rfl) (And.intro (HKY.cell 8 _ rfl) (And.intro (HKY.cell 9 _ rfl) (And.intro (HKY.cell 10 _ rfl) (And.intro (HKY.cell 11 _ rfl) (And.intro (HKY.cell 12 _ rfl) (And.intro (HGY.cell 0 _ rfl) (And.intro (HGY.cell 1 _ rfl) (HGY.cell 2 _ rfl)))))))))))))))) (fun hHeld8 => ?_)
                              clear hK K
                              refine tk 9 ?_
                              refine td ?_
                              have HGM2 : Hid (∀ x ∈ GL, ∃ q ∈ X', q.2 = x) := Lib.hid (HGM.out)
                              have HGE2 : Hid (gps (GL) = ((C.take (i + 1)).map (·.1)).filterMap (findG (gx X'))) := Lib.hid (by rw [find_step (f := findG (gx X')) HCX.out HFB.out, ← HGE.out]; exact (List.append_nil _).symm)
                              have HME2 : Hid (ac (m ++ [⟨.slice Ew1 fw1 gw1, Za, 2⟩]) = ((C.take (i + 1)).map (·.1)).flatMap fun r => tellR p (findG (gx X0) r) (findG (gx X') r)) := Lib.hid (by rw [tell_step (f := fun r => tellR p (findG (gx X0) r) (findG (gx X') r)) (o := tellR p (some (Gm.gp ⟨.slice Ba ra.length ka, ra, na, .slice Da bga.length ja, bga⟩)) none) HCX.out (congr (congrArg (tellR p) HFA.out) HFB.out), ← HME.out]; rw [show ac (m ++ [⟨.slice Ew1 fw1 gw1, Za, 2⟩]) = ac m ++ [(2, Za)] from List.map_append, ← HZa.out]; rfl)
                              go_wp2
                              go_roundw
                              case rel =>
                                first
                                  | exact ⟨i + 1, _, _, by go_num, by omega, by (try simp only [List.length_append, List.length_cons, List.length_nil]); omega, by (try simp only [List.length_append, List.length_cons, List.length_nil]); omega, HTY, HGM2, HGE2, HME2, hbY⟩
                                  | ((repeat apply Exists.intro); exact ⟨⟨i + 1, _, _, by go_num, by omega, by (try simp only [List.length_append, List.length_cons, List.length_nil]); omega, by (try simp only [List.length_append, List.length_cons, List.length_nil]); omega, HTY, HGM2, HGE2, HME2, hbY⟩, rfl⟩)
                              case measure => simp [intOf]; omega
                          · as_aux_lemma =>
                              have hL : ∀ w', Below wc.heap.size wc w' → (Instr.lookup 122 (.map (some M0)) (.string ky) false).run Tryz.prog w' = .ok (.pointer (some ⟨ba, 0, none⟩)) w' ∧ (Instr.lookup 122 (.map (some M1)) (.string ky) false).run Tryz.prog w' = .ok (.pointer (some ⟨bb, 0, none⟩)) w' := HLK.out
                              go_upto_region 44 with fail
                              refine tr (S := (fun w' => (Instr.lookup 122 (.map (some M0)) (.string ky) false).run Tryz.prog w' = .ok (.pointer (some ⟨ba, 0, none⟩)) w' ∧ (Instr.lookup 122 (.map (some M1)) (.string ky) false).run Tryz.prog w' = .ok (.pointer (some ⟨bb, 0, none⟩)) w')) (hL _ hb8) (fun hHeld => ?_)
                              refine tk 0 ?_; refine tk 1 ?_; refine tk 2 ?_; refine tk 3 ?_; refine tk 4 ?_; refine tk 5 ?_; refine tk 6 ?_; refine tk 7 ?_
                              refine td ?_
                              clear hL d0 HLK
                              generalize wr7.drew = w8 at HT8 hb8 ⊢
                              have h28 := below_trans HBC.out hb8
                              have HKP := Lib.hid (HKC.out.below h28)
                              have hqa := findX_mem HOA.out
                              have HPa := Lib.hid (HGO.out _ hqa)
                              have HMa : Hid (∃ q ∈ X0, q.2 = xa) := Lib.hid ⟨_, hqa, rfl⟩
                              have HDa := Lib.hid (HGA.out.each xa.gp (List.mem_map.2 ⟨_, hqa, rfl⟩))
                              clear hqa
                              obtain ⟨va, ra, na, vba, bga⟩ := xa
                              obtain ⟨Ba, ka, e1, -⟩ := id HPa.out.row
                              obtain ⟨Da, ja, e2, -⟩ := Sl.of_own HPa.out.sl
                              simp only at e1 e2
                              subst e1 e2
                              have HCa := Lib.hid (fun W (hb : Below wr2.heap.size wr2 W) => HPa.out.cell.below hb)
                              have HRa := Lib.hid (fun W (hb : Below wr2.heap.size wr2 W) => HRW.out W (below_trans HWR.out hb) _ HDa.out (HPa.out.ok.below hb))
                              simp only at HCa HRa
                              generalize hZa : rowG p (Gm.gp ⟨.slice Ba ra.length ka, ra, na, .slice Da bga.length ja, bga⟩) = Za at HRa
                              have HZa := Lib.hid hZa
                              clear hZa
                              have hqb := findX_mem HOB.out
                              have HPb := Lib.hid (HGP.out _ hqb)
                              have HMb : Hid (∃ q ∈ X', q.2 = xb) := Lib.hid ⟨_, hqb, rfl⟩
                              have HDb := Lib.hid (HGn.out.each xb.gp (List.mem_map.2 ⟨_, hqb, rfl⟩))
                              clear hqb
                              obtain ⟨vb, rb, nb, vbb, bgb⟩ := xb
                              obtain ⟨Bb, kb, e1, -⟩ := id HPb.out.row
                              obtain ⟨Db, jb, e2, -⟩ := Sl.of_own HPb.out.sl
                              simp only at e1 e2
                              subst e1 e2
                              have HCb := Lib.hid (fun W (hb : Below wr2.heap.size wr2 W) => HPb.out.cell.below hb)
                              have HRb := Lib.hid (fun W (hb : Below wr2.heap.size wr2 W) => HRW.out W (below_trans HWR.out hb) _ HDb.out (HPb.out.ok.below hb))
                              simp only at HCb HRb
                              generalize hZb : rowG p (Gm.gp ⟨.slice Bb rb.length kb, rb, nb, .slice Db bgb.length jb, bgb⟩) = Zb at HRb
                              have HZb := Lib.hid hZb
                              clear hZb
                              have HGb := Lib.hid (HCb.out _ h28)
                              have z0 := HGb.out.cell 0 _ rfl
                              have z1 := HGb.out.cell 1 _ rfl
                              have z2 := HGb.out.cell 2 _ rfl
                              have HT9 := Lib.hid (HT8.out.below (below_alloc w8 (.cells #[.slice Bb rb.length kb, .int .i64 nb, .slice Db bgb.length jb] 97)))
                              have hb9 := hb8.alloc hb8.size (.cells #[.slice Bb rb.length kb, .int .i64 nb, .slice Db bgb.length jb] 97)
                              have HOG := Lib.hid (one_gm w8 ⟨.slice Bb rb.length kb, rb, nb, .slice Db bgb.length jb, bgb⟩)
                              simp only at HOG
                              go_upto_region 51 with (at_builtin; refine wpList_app rfl (.tmp 127) (.tmp 131) 26 rfl wc.heap.size 97 3 56 Tryz.underlying26 grpI u25 GL.length _ rfl HT9.out.grp _ 1 (Gm.cells ⟨.slice Bb rb.length kb, rb, nb, .slice Db bgb.length jb, bgb⟩) rfl HOG.out rfl (by simp [Gm.cells, Value.oneCell']) ?_ ?_ ?_ ?_)
                              · unfold maxLen; omega
                              · omega
                              · have := hb9.size; rw [World.size_alloc] at this; exact this
                              intro v9 w9 hown9 hg9 hat9
                              have HTA := Lib.hid (HT9.out.group (x := ⟨.slice Bb rb.length kb, rb, nb, .slice Db bgb.length jb, bgb⟩) hown9 hg9 (by simpa using hat9))
                              have hbA := hb9.grown hg9 hb9.size (fun j hj => own_ge HT9.out.grp j hj)
                              clear z0 z1 z2 hown9 hg9 hat9 HT8 HT9 hb8 hb9 HOG h28 HKP HGb
                              have h28 := below_trans HBC.out hbA
                              have HKP := Lib.hid (HKC.out.below h28)
                              go_upto_region 51 with fail
                              have HRR := Lib.hid (rfl : rowsF Za Zb = rowsF Za Zb)
                              generalize hRR : rowsF Za Zb = RR at HRR
                              clear HRR
                              have HRR := Lib.hid hRR
                              by_cases qR : RR = 0
                              · have bR : (RR != 0) = false := by simp [qR]
                                have HQR := Lib.hid qR
                                clear qR
                                have HGa := Lib.hid (HCa.out _ h28)
                                have HGb := Lib.hid (HCb.out _ h28)
                                have HSS := Lib.hid (fun w' (h : Below w9.heap.size w9 w') => And.intro ((HKP.out.below h).cell 0 _ rfl) (And.intro ((HKP.out.below h).cell 1 _ rfl) (And.intro ((HKP.out.below h).cell 2 _ rfl) (And.intro ((HKP.out.below h).cell 3 _ rfl) (And.intro ((HKP.out.below h).cell 4 _ rfl) (And.intro ((HKP.out.below h).cell 5 _ rfl) (And.intro ((HKP.out.below h).cell 6 _ rfl) (And.intro ((HKP.out.below h).cell 7 _ rfl) (And.intro ((HKP.out.below h).cell 8 _ rfl) (And.intro ((HKP.out.below h).cell 9 _ rfl) (And.intro ((HKP.out.below h).cell 10 _ rfl) (And.intro ((HKP.out.below h).cell 11 _ rfl) (And.intro ((HKP.out.below h).cell 12 _ rfl) (And.intro ((HGa.out.below h).cell 0 _ rfl) (And.intro ((HGa.out.below h).cell 1 _ rfl) (And.intro ((HGa.out.below h).cell 2 _ rfl) (And.intro ((HGb.out.below h).cell 0 _ rfl) (And.intro ((HGb.out.below h).cell 1 _ rfl) ((HGb.out.below h).cell 2 _ rfl)))))))))))))))))))
                                have hy0 : Below w9.heap.size w9 w9.drew := (Below.refl _ w9).drew
                                refine tr (S := (fun w' => w'.cell? ⟨w.heap.size, 0, none⟩ = some (.int .i64 p.kind) ∧ w'.cell? ⟨w.heap.size, 1, none⟩ = some (.int .i64 p.mode) ∧ w'.cell? ⟨w.heap.size, 2, none⟩ = some (.int .i64 p.low) ∧ w'.cell? ⟨w.heap.size, 3, none⟩ = some (.int .i64 p.high) ∧ w'.cell? ⟨w.heap.size, 4, none⟩ = some (.int .i64 p.size) ∧ w'.cell? ⟨w.heap.size, 5, none⟩ = some (.int .i64 p.limit) ∧ w'.cell? ⟨w.heap.size, 6, none⟩ = some (.slice A0 p.left.length c0) ∧ w'.cell? ⟨w.heap.size, 7, none⟩ = some (.slice A1 p.right.length c1) ∧ w'.cell? ⟨w.heap.size, 8, none⟩ = some (.slice A2 p.lkeys.length c2) ∧ w'.cell? ⟨w.heap.size, 9, none⟩ = some (.slice A3 p.rkeys.length c3) ∧ w'.cell? ⟨w.heap.size, 10, none⟩ = some (.bool p.grouped) ∧ w'.cell? ⟨w.heap.size, 11, none⟩ = some (.slice A4 p.group.length c4) ∧ w'.cell? ⟨w.heap.size, 12, none⟩ = some (.slice A5 p.aggs.length c5) ∧ w'.cell? ⟨ba, 0, none⟩ = some (.slice Ba ra.length ka) ∧ w'.cell? ⟨ba, 1, none⟩ = some (.int .i64 na) ∧ w'.cell? ⟨ba, 2, none⟩ = some (.slice Da bga.length ja) ∧ w'.cell? ⟨bb, 0, none⟩ = some (.slice Bb rb.length kb) ∧ w'.cell? ⟨bb, 1, none⟩ = some (.int .i64 nb) ∧ w'.cell? ⟨bb, 2, none⟩ = some (.slice Db bgb.length jb))) (HSS.out _ hy0) (fun hHeld => ?_)
                                refine tk 0 ?_; refine tk 1 ?_; refine tk 2 ?_; refine tk 3 ?_; refine tk 5 ?_; refine tk 6 ?_; refine tk 7 ?_; refine tk 8 ?_
                                refine tc 4 ?_
                                intro K hK
                                go_simp
                                refine Calls.mono (by with_reducible exact HRa.out _ (below_trans h28 hy0)) ?_
                                rintro e w1 ⟨v1, rfl, how1, hxw1⟩
                                have hyw1 := below_trans hy0 hxw1
                                obtain ⟨Ew1, fw1, gw1, rfl⟩ := own_slice how1
                                have HOw1 := Lib.hid how1
                                clear how1 hxw1
                                go_wp2_with fail
                                refine hK.out _ _ (HSS.out _ hyw1) (fun hHeld4 => ?_)
                                clear hK K
                                refine tc 9 ?_
                                intro K hK
                                go_simp
                                refine Calls.mono (by with_reducible exact HRb.out _ (below_trans h28 hyw1)) ?_
                                rintro e w2 ⟨v2, rfl, how2, hxw2⟩
                                have hyw2 := below_trans hyw1 hxw2
                                have HK12 := Lib.hid hxw2
                                obtain ⟨Ew2, fw2, gw2, rfl⟩ := own_slice how2
                                have HOw2 := Lib.hid how2
                                clear how2 hxw2
                                go_wp2_with fail
                                refine hK.out _ _ (HSS.out _ hyw2) (fun hHeld9 => ?_)
                                clear hK K
                                refine tc 10 ?_
                                intro K hK
                                go_simp
                                have hk12 : Below w1.heap.size w1 w2 := HK12.out
                                refine Calls.mono (by with_reducible exact rows_any _ _ Za Zb w2 ((Sl.of_own HOw1.out).below hk12) (Sl.of_own HOw2.out)) ?_
                                rw [HRR.out]
                                rintro e w3 ⟨rfl, hx3⟩
                                have hyw3 := below_trans hyw2 hx3
                                clear hx3 hk12
                                go_wp2_with fail
                                refine hK.out _ _ (HSS.out _ hyw3) (fun hHeld10 => ?_)
                                clear hK K
                                refine tk 11 ?_; refine tk 12 ?_
                                refine td ?_
                                have HTB := Lib.hid (HTA.out.below hyw3)
                                have hbB := below_trans hbA hyw3
                                have HGM2 : Hid (∀ x ∈ GL ++ [⟨.slice Bb rb.length kb, rb, nb, .slice Db bgb.length jb, bgb⟩], ∃ q ∈ X', q.2 = x) := Lib.hid (fun x hx => (List.mem_append.1 hx).elim (fun hx => HGM.out x hx) (fun hx => by rw [List.mem_singleton.1 hx]; exact HMb.out))
                                have HGE2 : Hid (gps (GL ++ [⟨.slice Bb rb.length kb, rb, nb, .slice Db bgb.length jb, bgb⟩]) = ((C.take (i + 1)).map (·.1)).filterMap (findG (gx X'))) := Lib.hid (by rw [find_step (f := findG (gx X')) HCX.out HFB.out, ← HGE.out]; exact List.map_append)
                                have HME2 : Hid (ac (m) = ((C.take (i + 1)).map (·.1)).flatMap fun r => tellR p (findG (gx X0) r) (findG (gx X') r)) := Lib.hid (by rw [tell_step (f := fun r => tellR p (findG (gx X0) r) (findG (gx X') r)) (o := tellR p (some (Gm.gp ⟨.slice Ba ra.length ka, ra, na, .slice Da bga.length ja, bga⟩)) (some (Gm.gp ⟨.slice Bb rb.length kb, rb, nb, .slice Db bgb.length jb, bgb⟩))) HCX.out (congr (congrArg (tellR p) HFA.out) HFB.out), ← HME.out]; rw [show tellR p (some (Gm.gp ⟨.slice Ba ra.length ka, ra, na, .slice Da bga.length ja, bga⟩)) (some (Gm.gp ⟨.slice Bb rb.length kb, rb, nb, .slice Db bgb.length jb, bgb⟩)) = [] from if_pos (by rw [HZa.out, HZb.out, HRR.out]; exact HQR.out)]; exact (List.append_nil _).symm)
                                go_wp2
                                go_roundw
                                case rel =>
                                  first
                                    | exact ⟨i + 1, _, _, by go_num, by omega, by (try simp only [List.length_append, List.length_cons, List.length_nil]); omega, by (try simp only [List.length_append, List.length_cons, List.length_nil]); omega, HTB, HGM2, HGE2, HME2, hbB⟩
                                    | ((repeat apply Exists.intro); exact ⟨⟨i + 1, _, _, by go_num, by omega, by (try simp only [List.length_append, List.length_cons, List.length_nil]); omega, by (try simp only [List.length_append, List.length_cons, List.length_nil]); omega, HTB, HGM2, HGE2, HME2, hbB⟩, rfl⟩)
                                case measure => simp [intOf]; omega
                              · have bR : (RR != 0) = true := by simp [qR]
                                have HQR := Lib.hid qR
                                clear qR
                                have HGa := Lib.hid (HCa.out _ h28)
                                have HGb := Lib.hid (HCb.out _ h28)
                                have HSS := Lib.hid (fun w' (h : Below w9.heap.size w9 w') => And.intro ((HKP.out.below h).cell 0 _ rfl) (And.intro ((HKP.out.below h).cell 1 _ rfl) (And.intro ((HKP.out.below h).cell 2 _ rfl) (And.intro ((HKP.out.below h).cell 3 _ rfl) (And.intro ((HKP.out.below h).cell 4 _ rfl) (And.intro ((HKP.out.below h).cell 5 _ rfl) (And.intro ((HKP.out.below h).cell 6 _ rfl) (And.intro ((HKP.out.below h).cell 7 _ rfl) (And.intro ((HKP.out.below h).cell 8 _ rfl) (And.intro ((HKP.out.below h).cell 9 _ rfl) (And.intro ((HKP.out.below h).cell 10 _ rfl) (And.intro ((HKP.out.below h).cell 11 _ rfl) (And.intro ((HKP.out.below h).cell 12 _ rfl) (And.intro ((HGa.out.below h).cell 0 _ rfl) (And.intro ((HGa.out.below h).cell 1 _ rfl) (And.intro ((HGa.out.below h).cell 2 _ rfl) (And.intro ((HGb.out.below h).cell 0 _ rfl) (And.intro ((HGb.out.below h).cell 1 _ rfl) ((HGb.out.below h).cell 2 _ rfl)))))))))))))))))))
                                have hy0 : Below w9.heap.size w9 w9.drew := (Below.refl _ w9).drew
                                refine tr (S := (fun w' => w'.cell? ⟨w.heap.size, 0, none⟩ = some (.int .i64 p.kind) ∧ w'.cell? ⟨w.heap.size, 1, none⟩ = some (.int .i64 p.mode) ∧ w'.cell? ⟨w.heap.size, 2, none⟩ = some (.int .i64 p.low) ∧ w'.cell? ⟨w.heap.size, 3, none⟩ = some (.int .i64 p.high) ∧ w'.cell? ⟨w.heap.size, 4, none⟩ = some (.int .i64 p.size) ∧ w'.cell? ⟨w.heap.size, 5, none⟩ = some (.int .i64 p.limit) ∧ w'.cell? ⟨w.heap.size, 6, none⟩ = some (.slice A0 p.left.length c0) ∧ w'.cell? ⟨w.heap.size, 7, none⟩ = some (.slice A1 p.right.length c1) ∧ w'.cell? ⟨w.heap.size, 8, none⟩ = some (.slice A2 p.lkeys.length c2) ∧ w'.cell? ⟨w.heap.size, 9, none⟩ = some (.slice A3 p.rkeys.length c3) ∧ w'.cell? ⟨w.heap.size, 10, none⟩ = some (.bool p.grouped) ∧ w'.cell? ⟨w.heap.size, 11, none⟩ = some (.slice A4 p.group.length c4) ∧ w'.cell? ⟨w.heap.size, 12, none⟩ = some (.slice A5 p.aggs.length c5) ∧ w'.cell? ⟨ba, 0, none⟩ = some (.slice Ba ra.length ka) ∧ w'.cell? ⟨ba, 1, none⟩ = some (.int .i64 na) ∧ w'.cell? ⟨ba, 2, none⟩ = some (.slice Da bga.length ja) ∧ w'.cell? ⟨bb, 0, none⟩ = some (.slice Bb rb.length kb) ∧ w'.cell? ⟨bb, 1, none⟩ = some (.int .i64 nb) ∧ w'.cell? ⟨bb, 2, none⟩ = some (.slice Db bgb.length jb))) (HSS.out _ hy0) (fun hHeld => ?_)
                                refine tk 0 ?_; refine tk 1 ?_; refine tk 2 ?_; refine tk 3 ?_; refine tk 5 ?_; refine tk 6 ?_; refine tk 7 ?_; refine tk 8 ?_
                                refine tc 4 ?_
                                intro K hK
                                go_simp
                                refine Calls.mono (by with_reducible exact HRa.out _ (below_trans h28 hy0)) ?_
                                rintro e w1 ⟨v1, rfl, how1, hxw1⟩
                                have hyw1 := below_trans hy0 hxw1
                                obtain ⟨Ew1, fw1, gw1, rfl⟩ := own_slice how1
                                have HOw1 := Lib.hid how1
                                clear how1 hxw1
                                go_wp2_with fail
                                refine hK.out _ _ (HSS.out _ hyw1) (fun hHeld4 => ?_)
                                clear hK K
                                refine tc 9 ?_
                                intro K hK
                                go_simp
                                refine Calls.mono (by with_reducible exact HRb.out _ (below_trans h28 hyw1)) ?_
                                rintro e w2 ⟨v2, rfl, how2, hxw2⟩
                                have hyw2 := below_trans hyw1 hxw2
                                have HK12 := Lib.hid hxw2
                                obtain ⟨Ew2, fw2, gw2, rfl⟩ := own_slice how2
                                have HOw2 := Lib.hid how2
                                clear how2 hxw2
                                go_wp2_with fail
                                refine hK.out _ _ (HSS.out _ hyw2) (fun hHeld9 => ?_)
                                clear hK K
                                refine tc 10 ?_
                                intro K hK
                                go_simp
                                have hk12 : Below w1.heap.size w1 w2 := HK12.out
                                refine Calls.mono (by with_reducible exact rows_any _ _ Za Zb w2 ((Sl.of_own HOw1.out).below hk12) (Sl.of_own HOw2.out)) ?_
                                rw [HRR.out]
                                rintro e w3 ⟨rfl, hx3⟩
                                have hyw3 := below_trans hyw2 hx3
                                clear hx3 hk12
                                go_wp2_with fail
                                refine hK.out _ _ (HSS.out _ hyw3) (fun hHeld10 => ?_)
                                clear hK K
                                refine tk 11 ?_; refine tk 12 ?_
                                refine td ?_
                                have HTB := Lib.hid (HTA.out.below hyw3)
                                have hbB := below_trans hbA hyw3
                                clear HTA hbA HOw1 HOw2 HK12 h28 HKP HGa HGb HSS
                                have h28 := below_trans HBC.out hbB
                                have HKP := Lib.hid (HKC.out.below h28)
                                have HGa := Lib.hid (HCa.out _ h28)
                                have HGb := Lib.hid (HCb.out _ h28)
                                go_upto_region 52 with fail
                                have HSS := Lib.hid (fun w' (h : Below w3.heap.size w3 w') => And.intro ((HKP.out.below h).cell 0 _ rfl) (And.intro ((HKP.out.below h).cell 1 _ rfl) (And.intro ((HKP.out.below h).cell 2 _ rfl) (And.intro ((HKP.out.below h).cell 3 _ rfl) (And.intro ((HKP.out.below h).cell 4 _ rfl) (And.intro ((HKP.out.below h).cell 5 _ rfl) (And.intro ((HKP.out.below h).cell 6 _ rfl) (And.intro ((HKP.out.below h).cell 7 _ rfl) (And.intro ((HKP.out.below h).cell 8 _ rfl) (And.intro ((HKP.out.below h).cell 9 _ rfl) (And.intro ((HKP.out.below h).cell 10 _ rfl) (And.intro ((HKP.out.below h).cell 11 _ rfl) (And.intro ((HKP.out.below h).cell 12 _ rfl) (And.intro ((HGa.out.below h).cell 0 _ rfl) (And.intro ((HGa.out.below h).cell 1 _ rfl) (And.intro ((HGa.out.below h).cell 2 _ rfl) (And.intro ((HGb.out.below h).cell 0 _ rfl) (And.intro ((HGb.out.below h).cell 1 _ rfl) ((HGb.out.below h).cell 2 _ rfl)))))))))))))))))))
                                have hy0 : Below w3.heap.size w3 w3.drew := (Below.refl _ w3).drew
                                refine tr (S := (fun w' => w'.cell? ⟨w.heap.size, 0, none⟩ = some (.int .i64 p.kind) ∧ w'.cell? ⟨w.heap.size, 1, none⟩ = some (.int .i64 p.mode) ∧ w'.cell? ⟨w.heap.size, 2, none⟩ = some (.int .i64 p.low) ∧ w'.cell? ⟨w.heap.size, 3, none⟩ = some (.int .i64 p.high) ∧ w'.cell? ⟨w.heap.size, 4, none⟩ = some (.int .i64 p.size) ∧ w'.cell? ⟨w.heap.size, 5, none⟩ = some (.int .i64 p.limit) ∧ w'.cell? ⟨w.heap.size, 6, none⟩ = some (.slice A0 p.left.length c0) ∧ w'.cell? ⟨w.heap.size, 7, none⟩ = some (.slice A1 p.right.length c1) ∧ w'.cell? ⟨w.heap.size, 8, none⟩ = some (.slice A2 p.lkeys.length c2) ∧ w'.cell? ⟨w.heap.size, 9, none⟩ = some (.slice A3 p.rkeys.length c3) ∧ w'.cell? ⟨w.heap.size, 10, none⟩ = some (.bool p.grouped) ∧ w'.cell? ⟨w.heap.size, 11, none⟩ = some (.slice A4 p.group.length c4) ∧ w'.cell? ⟨w.heap.size, 12, none⟩ = some (.slice A5 p.aggs.length c5) ∧ w'.cell? ⟨ba, 0, none⟩ = some (.slice Ba ra.length ka) ∧ w'.cell? ⟨ba, 1, none⟩ = some (.int .i64 na) ∧ w'.cell? ⟨ba, 2, none⟩ = some (.slice Da bga.length ja) ∧ w'.cell? ⟨bb, 0, none⟩ = some (.slice Bb rb.length kb) ∧ w'.cell? ⟨bb, 1, none⟩ = some (.int .i64 nb) ∧ w'.cell? ⟨bb, 2, none⟩ = some (.slice Db bgb.length jb))) (HSS.out _ hy0) (fun hHeld => ?_)
                                refine tk 0 ?_; refine tk 1 ?_; refine tk 2 ?_; refine tk 3 ?_; refine tk 4 ?_; refine tk 7 ?_; refine tk 8 ?_; refine tk 9 ?_; refine tk 10 ?_
                                refine tc 5 ?_
                                intro K hK
                                go_simp
                                refine Calls.mono (by with_reducible exact HRa.out _ (below_trans h28 hy0)) ?_
                                rintro e w4 ⟨v4, rfl, how4, hxw4⟩
                                have hyw4 := below_trans hy0 hxw4
                                obtain ⟨Ew4, fw4, gw4, rfl⟩ := own_slice how4
                                have HOw4 := Lib.hid how4
                                clear how4 hxw4
                                go_wp2_with fail
                                refine hK.out _ _ (HSS.out _ hyw4) (fun hHeld5 => ?_)
                                clear hK K
                                refine tk 6 ?_
                                refine tc 11 ?_
                                intro K hK
                                go_simp
                                refine Calls.mono (by with_reducible exact HRb.out _ (below_trans h28 hyw4)) ?_
                                rintro e w5 ⟨v5, rfl, how5, hxw5⟩
                                have hyw5 := below_trans hyw4 hxw5
                                have HK45 := Lib.hid hxw5
                                obtain ⟨Ew5, fw5, gw5, rfl⟩ := own_slice how5
                                have HOw5 := Lib.hid how5
                                clear how5 hxw5
                                go_wp2_with fail
                                refine hK.out _ _ (HSS.out _ hyw5) (fun hHeld11 => ?_)
                                clear hK K
                                refine tk 12 ?_
                                refine tc 13 ?_
                                intro K hK
                                go_simp
                                refine hK.out _ _ (HSS.out _ (below_trans hyw5 (below_alloc w5 (.cells #[.int .i64 3, .slice Ew4 fw4 gw4, .int .i64 4, .slice Ew5 fw5 gw5] 73)))) (fun hHeld13 => ?_)
                                clear hK K
                                refine tc 14 ?_
                                intro K hK
                                have HTX := Lib.hid (HTB.out.below (below_trans hyw5 (below_alloc w5 (.cells #[.int .i64 3, .slice Ew4 fw4 gw4, .int .i64 4, .slice Ew5 fw5 gw5] 73))))
                                have HSR1 := Lib.hid (((Sl.of_own HOw4.out).below HK45.out).below (below_alloc w5 (.cells #[.int .i64 3, .slice Ew4 fw4 gw4, .int .i64 4, .slice Ew5 fw5 gw5] 73)))
                                have HSR2 := Lib.hid ((Sl.of_own HOw5.out).below (below_alloc w5 (.cells #[.int .i64 3, .slice Ew4 fw4 gw4, .int .i64 4, .slice Ew5 fw5 gw5] 73)))
                                have HCH := Lib.hid (sl_pair (a := ⟨.slice Ew4 fw4 gw4, Za, 3⟩) (b := ⟨.slice Ew5 fw5 gw5, Zb, 4⟩) (Blk.new w5 73 #[.int .i64 3, .slice Ew4 fw4 gw4, .int .i64 4, .slice Ew5 fw5 gw5]))
                                have hbX := below_trans hbB (below_trans hyw5 (below_alloc w5 (.cells #[.int .i64 3, .slice Ew4 fw4 gw4, .int .i64 4, .slice Ew5 fw5 gw5] 73)))
                                refine step_app (by rfl) _ _ 36 (by rfl) wc.heap.size 73 2 32 Tryz.underlying36 chgI u26 m.length _ (by rfl) HTX.out.out.own _ 2 (chnCells [⟨.slice Ew4 fw4 gw4, Za, 3⟩, ⟨.slice Ew5 fw5 gw5, Zb, 4⟩]) (by rfl) HCH.out rfl (chns_one (fun c hc => by
                                  rcases List.mem_cons.1 hc with rfl | hc
                                  · exact ⟨_, _, HSR1.out⟩
                                  · rw [List.mem_singleton.1 hc]; exact ⟨_, _, HSR2.out⟩)) (by unfold maxLen; omega) (by omega) hbX.size ?_
                                intro vX wX hownX hgX hatX
                                have HTY := Lib.hid (HTX.out.tell (cs := [⟨.slice Ew4 fw4 gw4, Za, 3⟩, ⟨.slice Ew5 fw5 gw5, Zb, 4⟩]) (by simpa using hownX) hgX (by simpa using hatX) (fun c hc => by
                                  have h3 := hbB.size
                                  have h4 : w3.heap.size ≤ w3.drew.heap.size := hy0.size
                                  have h5 := HK45.out.size
                                  have h6 : w4.heap.size ≤ w5.heap.size := h5
                                  have h7 := hyw4.size
                                  rcases List.mem_cons.1 hc with rfl | hc
                                  · refine ⟨HSR1.out, fun k hk => ?_⟩
                                    have h1 := own_ge HOw4.out k hk
                                    have h2 := own_lt HOw4.out k hk
                                    exact ⟨by omega, by rw [World.size_alloc]; omega, fun e => by have := own_lt HTB.out.out.own _ e; omega, fun e => by have := own_lt HTB.out.grp _ e; omega⟩
                                  · rw [List.mem_singleton.1 hc]
                                    refine ⟨HSR2.out, fun k hk => ?_⟩
                                    have h1 := own_ge HOw5.out k hk
                                    have h2 := own_lt HOw5.out k hk
                                    exact ⟨by omega, by rw [World.size_alloc]; omega, fun e => by have := own_lt HTB.out.out.own _ e; omega, fun e => by have := own_lt HTB.out.grp _ e; omega⟩))
                                have hbY := hbX.grown hgX hbX.size (fun j hj => own_ge HTX.out.out.own j hj)
                                have HKY := (HKP.out.below (below_trans hyw5 (below_alloc w5 (.cells #[.int .i64 3, .slice Ew4 fw4 gw4, .int .i64 4, .slice Ew5 fw5 gw5] 73)))).grown hgX (fun e => by have := own_ge HTX.out.out.own _ e; have := HBC.out.size; omega)
                                have HGYa := (HGa.out.below (below_trans hyw5 (below_alloc w5 (.cells #[.int .i64 3, .slice Ew4 fw4 gw4, .int .i64 4, .slice Ew5 fw5 gw5] 73)))).grown hgX (fun e => by have := own_ge HTX.out.out.own _ e; have := HBC.out.size; have := HPa.out.cell.lt; omega)
                                have HGYb := (HGb.out.below (below_trans hyw5 (below_alloc w5 (.cells #[.int .i64 3, .slice Ew4 fw4 gw4, .int .i64 4, .slice Ew5 fw5 gw5] 73)))).grown hgX (fun e => by have := own_ge HTX.out.out.own _ e; have := HBC.out.size; have := HPb.out.cell.lt; omega)
                                refine hK.out _ _ (And.intro (HKY.cell 0 _ rfl) (And.intro (HKY.cell 1 _ rfl) (And.intro (HKY.cell 2 _ rfl) (And.intro (HKY.cell 3 _ rfl) (And.intro (HKY.cell 4 _ rfl) (And.intro (HKY.cell 5 _ rfl) (And.intro (HKY.cell 6 _ rfl) (And.intro (HKY.cell 7 _ rfl) (And.intro (HKY.cell 8 _ rfl) (And.intro (HKY.cell 9 _ rfl) (And.intro (HKY.cell 10 _ rfl) (And.intro (HKY.cell 11 _ rfl) (And.intro (HKY.cell 12 _ rfl) (And.intro (HGYa.cell 0 _ rfl) (And.intro (HGYa.cell 1 _ rfl) (And.intro (HGYa.cell 2 _ rfl) (And.intro (HGYb.cell 0 _ rfl) (And.intro (HGYb.cell 1 _ rfl) (HGYb.cell 2 _ rfl))))))))))))))))))) (fun hHeld14 => ?_)
                                clear hK K
                                refine tk 15 ?_
                                refine td ?_
                                have HGM2 : Hid (∀ x ∈ GL ++ [⟨.slice Bb rb.length kb, rb, nb, .slice Db bgb.length jb, bgb⟩], ∃ q ∈ X', q.2 = x) := Lib.hid (fun x hx => (List.mem_append.1 hx).elim (fun hx => HGM.out x hx) (fun hx => by rw [List.mem_singleton.1 hx]; exact HMb.out))
                                have HGE2 : Hid (gps (GL ++ [⟨.slice Bb rb.length kb, rb, nb, .slice Db bgb.length jb, bgb⟩]) = ((C.take (i + 1)).map (·.1)).filterMap (findG (gx X'))) := Lib.hid (by rw [find_step (f := findG (gx X')) HCX.out HFB.out, ← HGE.out]; exact List.map_append)
                                have HME2 : Hid (ac (m ++ [⟨.slice Ew4 fw4 gw4, Za, 3⟩, ⟨.slice Ew5 fw5 gw5, Zb, 4⟩]) = ((C.take (i + 1)).map (·.1)).flatMap fun r => tellR p (findG (gx X0) r) (findG (gx X') r)) := Lib.hid (by rw [tell_step (f := fun r => tellR p (findG (gx X0) r) (findG (gx X') r)) (o := tellR p (some (Gm.gp ⟨.slice Ba ra.length ka, ra, na, .slice Da bga.length ja, bga⟩)) (some (Gm.gp ⟨.slice Bb rb.length kb, rb, nb, .slice Db bgb.length jb, bgb⟩))) HCX.out (congr (congrArg (tellR p) HFA.out) HFB.out), ← HME.out]; rw [show ac (m ++ [⟨.slice Ew4 fw4 gw4, Za, 3⟩, ⟨.slice Ew5 fw5 gw5, Zb, 4⟩]) = ac m ++ [(3, Za), (4, Zb)] from List.map_append, show tellR p (some (Gm.gp ⟨.slice Ba ra.length ka, ra, na, .slice Da bga.length ja, bga⟩)) (some (Gm.gp ⟨.slice Bb rb.length kb, rb, nb, .slice Db bgb.length jb, bgb⟩)) = [(3, Za), (4, Zb)] from (if_neg (by rw [HZa.out, HZb.out, HRR.out]; exact HQR.out)).trans (by rw [HZa.out, HZb.out])])
                                go_wp2
                                go_roundw
                                case rel =>
                                  first
                                    | exact ⟨i + 1, _, _, by go_num, by omega, by (try simp only [List.length_append, List.length_cons, List.length_nil]); omega, by (try simp only [List.length_append, List.length_cons, List.length_nil]); omega, HTY, HGM2, HGE2, HME2, hbY⟩
                                    | ((repeat apply Exists.intro); exact ⟨⟨i + 1, _, _, by go_num, by omega, by (try simp only [List.length_append, List.length_cons, List.length_nil]); omega, by (try simp only [List.length_append, List.length_cons, List.length_nil]); omega, HTY, HGM2, HGE2, HME2, hbY⟩, rfl⟩)
                                case measure => simp [intOf]; omega
                        · obtain rfl : i = C.length := by omega
                          have HEG : Hid (gps GL = gx X') := Lib.hid (by
                            rw [HGE.out, List.take_length]
                            refine union_find HUN.out.rise (fun r hr => ?_) ⟨fun g hg => (HGn.out.each g hg).row, HGn.out.rise⟩ (fun g hg => (HUN.out.mem g.r).2 (.inr ⟨g, hg, rfl⟩))
                            rcases (HUN.out.mem r).1 hr with ⟨g, hg, rfl⟩ | ⟨g, hg, rfl⟩
                            · exact (HGA.out.each g hg).row
                            · exact (HGn.out.each g hg).row)
                          have HEM : Hid (ac m = changedG p (gps G) (gx X')) := Lib.hid (by
                            rw [HME.out, List.take_length, ← told_keys ⟨fun g hg => (HGA.out.each g hg).row, HGA.out.rise⟩ ⟨fun g hg => (HGn.out.each g hg).row, HGn.out.rise⟩ HUN.out, HG0.out])
                          have HEX : Hid (∀ x ∈ GL, x.ok wr7) := Lib.hid (fun x hx => by
                            obtain ⟨q, hq, rfl⟩ := HGM.out x hx
                            exact (HGP.out q hq).ok.below (below_trans HBC.out hb7))
                          obtain ⟨Ag, ng, cg, rfl⟩ := own_slice HT.out.grp
                          obtain ⟨Am, nm, cm, rfl⟩ := own_slice HT.out.out.own
                          have hbz := below_trans HWR.out (below_trans HBC.out hb7)
                          clear HGE HME HGM
                          go_wp2
                          refine bodyPost_ret (v := .tuple #[.slice Ag ng cg, .slice Am nm cm, .int .i64 0]) (by simp [results, Tryz.results21, go_sem]) rfl ?_
                          exact ⟨_, _, GL, m, by rw [HS3.out], ⟨Sl.of_own HT.out.grp, HEX.out⟩, HT.out.out.chs, by rw [HS3.out]; exact HEG.out, by rw [HS3.out]; exact HEM.out, hbz⟩
    · have b2 : (E2 != 0) = true := by simp [q2]
      have HE : Hid (SG = ([], [], E2)) := Lib.hid (by rw [HST.out, if_neg (by simp [HQ1.out]), if_pos q2])
      clear q2
      go_wp2_with fail
      refine Calls.mono (by with_reducible exact HFO.out _ hbw2) ?_
      rintro e w3 ⟨rfl, hb3⟩
      have hbw3 := below_trans hbw2 hb3
      go_wp2
      refine bodyPost_ret (v := .tuple #[.slice none 0 0, .slice none 0 0, .int .i64 E2]) (by simp [results, Tryz.results21, go_sem]) rfl ?_
      exact ⟨_, _, [], [], by rw [HE.out], Gms.nil _, Chs.nil _, by rw [HE.out]; rfl, by rw [HE.out]; rfl, hbw3⟩
  · have b1 : (E1 != 0) = true := by simp [q1]
    have HE : Hid (SG = ([], [], E1)) := Lib.hid (by rw [HST.out, if_pos q1])
    clear q1
    go_wp2_with fail
    refine Calls.mono (by with_reducible exact HCK.out _ hb1) ?_
    rintro e w2 ⟨rfl, hb2⟩
    have hbw2 := below_trans hb1 hb2
    go_wp2
    refine bodyPost_ret (v := .tuple #[.slice none 0 0, .slice none 0 0, .int .i64 E1]) (by simp [results, Tryz.results21, go_sem]) rfl ?_
    exact ⟨_, _, [], [], by rw [HE.out], Gms.nil _, Chs.nil _, by rw [HE.out]; rfl, by rw [HE.out]; rfl, hbw2⟩
end Go.Proofs.YtblhidmkalleoaaGreatDoor

