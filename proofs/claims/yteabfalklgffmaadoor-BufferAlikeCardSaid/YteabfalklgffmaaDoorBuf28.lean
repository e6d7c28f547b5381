/-
  bufferBegun.
-/
import Derived.Test.YteabfalklgffmaaDoorBuf27
set_option linter.unusedSimpArgs false
set_option linter.unusedVariables false
namespace Go.Proofs.YteabfalklgffmaaDoor
open Go.RowKit

set_option maxHeartbeats 8000000 in
set_option maxRecDepth 100000 in
theorem begunB_any (w : World) (hm : Mx w) : Calls Tryd.prog 10 #[] w fun e w' => e = .returned (.bool true) ∧ Below w.heap.size w w' := by
  have HM := Lib.hid hm
  have HNW := Lib.hid (new_any 1 w)
  rw [show newB 1 = (1, 0) from by decide] at HNW
  have hs0 : str [] = ⟨#[]⟩ := rfl
  clear hm
  go_enter Tryd.func10, Tryd.ntmps10
  go_wp2_with fail
  refine HNW.out.mono ?_
  rintro e w1 ⟨rfl, hb1⟩
  have HK1 := Lib.hid (Blk.new w1 25 #[.int .i64 1, .slice none 0 0, .slice none 0 0])
  have hbw1 := below_trans hb1 (below_alloc w1 (.cells #[.int .i64 1, .slice none 0 0, .slice none 0 0] 25))
  have hw1 := hb1.size
  clear hb1 HNW
  go_wp2_with fail
  go_loopw [3, 4] (fun t _ wr => ∃ (n : Nat) (I : Int) (b : Buf), t = .int .i64 I ∧ Hid (I = (n : Int)) ∧ n ≤ 3 ∧ Hid (b.bu = stB n) ∧ Hid (b.ok wr) ∧ Hid (Blk wr w1.heap.size 25 #[.int .i64 b.limit, b.vm, b.vr]) ∧ Below w.heap.size w wr) (fun t _ _ => (intOf t).toNat)
  case atStart => exact ⟨3, 3, ⟨1, .slice none 0 0, [], .slice none 0 0, []⟩, rfl, Lib.hid rfl, by omega, Lib.hid rfl, Lib.hid ⟨Ents.nil _, Sl.nil_ _, nofun⟩, HK1, hbw1⟩
  case round =>
    clear HK1 hbw1
    obtain ⟨n, I, b, rfl, HI, hn, HBU, HOK, HKB, hbw⟩ := hrel
    have y0 := HKB.out.cell 0 _ rfl
    have y1 := HKB.out.cell 1 _ rfl
    have y2 := HKB.out.cell 2 _ rfl
    have HFT := Lib.hid (stB_fit HBU.out hn)
    by_cases hpos : 0 < n
    · have hI : 0 < I := by have := HI.out; omega
      have hwm : IntKind.i64.wrap (I - 1) = I - 1 := by rw [IntKind.wrap_i64]; have := HI.out; omega
      have HPU := Lib.hid (put_any b ⟨.slice none 0 0, ⟨[], n, n, [], false⟩⟩ wr HOK.out HFT.out (Sl.nil_ _) (fineB n hn) (HM.out.below hbw))
      rw [HBU.out, stB_put n (by omega) hn, ← HI.out] at HPU
      unfold Ent.agg Buf.agg at HPU
      dsimp only at HPU
      rw [hs0] at HPU
      go_wp2_with fail
      refine HPU.out.mono ?_
      rintro e w2 ⟨b2, rfl, hob2, hbu2, hb2⟩
      obtain ⟨Am, cm, hvm, -⟩ := id hob2.ok.mem.sl
      obtain ⟨Ar, cr, hvr, -⟩ := id hob2.ok.sl
      have HVM := Lib.hid hvm
      have HVR := Lib.hid hvr
      rw [hvm, hvr]
      have K2 := HKB.out.below hb2
      have c0 := K2.cell 0 _ rfl
      have c1 := K2.cell 1 _ rfl
      have c2 := K2.cell 2 _ rfl
      have g0 := K2.free 0
      have g1 := K2.free 1
      have g2 := K2.free 2
      have hq : ∀ i, w.heap.size ≤ (⟨w1.heap.size, i, none⟩ : Addr).block := fun i => hw1
      have hp : ∀ i, (⟨w1.heap.size, i, none⟩ : Addr).block < wr.heap.size := fun i => HKB.out.lt
      have HB9 := Lib.hid ((((hob2.setFar (hp 0) (.int .i64 b2.limit)).setFar (hp 1) (.slice Am b2.mem.length cm)).setFar (hp 2) (.slice Ar b2.runs.length cr)).ok)
      have hb9 := (((below_trans hbw hb2).setCell (hq 0) (.int .i64 b2.limit)).setCell (hq 1) (.slice Am b2.mem.length cm)).setCell (hq 2) (.slice Ar b2.runs.length cr)
      have HK9 : Hid (Blk (((w2.setCell ⟨w1.heap.size, 0, none⟩ (.int .i64 b2.limit)).setCell ⟨w1.heap.size, 1, none⟩ (.slice Am b2.mem.length cm)).setCell ⟨w1.heap.size, 2, none⟩ (.slice Ar b2.runs.length cr)) w1.heap.size 25 #[.int .i64 b2.limit, b2.vm, b2.vr]) := Lib.hid (by
        rw [HVM.out, HVR.out]
        exact ((K2.set_ 0 (.int .i64 b2.limit)).set_ 1 (.slice Am b2.mem.length cm)).set_ 2 (.slice Ar b2.runs.length cr))
      have HBU2 := Lib.hid hbu2
      clear hob2 hvm hvr K2 hq hp hbu2 hb2 y0 y1 y2
      go_wp2
      go_roundw
      case rel => exact ⟨n - 1, I - 1, b2, rfl, Lib.hid (by have := HI.out; omega), by omega, HBU2, HB9, HK9, hb9⟩
      case measure => simp [intOf]; omega
    · obtain rfl : n = 0 := by omega
      have hI : ¬ 0 < I := by have := HI.out; omega
      have HU : Hid (b.bu = ⟨1, [e1B], [[e2B, e3B]]⟩) := Lib.hid HBU.out
      have HSC := Lib.hid (scan_any b [] 2 9 wr HOK.out HFT.out (HM.out.below hbw))
      rw [HU.out, check1, if_pos rfl, scan1] at HSC
      unfold Buf.agg at HSC
      rw [hs0] at HSC
      go_wp2_with fail
      refine HSC.out.mono ?_
      rintro e w2 ⟨v, l, rfl, hes, hens, hb2⟩
      have hbw2 := below_trans hbw hb2
      have hll : l.length = 2 := by have := congrArg List.length hens; rwa [ens_len] at this
      obtain ⟨x, y, hxy⟩ : ∃ x y, l = [x, y] := by
        match l, hll with
        | [x, y], _ => exact ⟨x, y, rfl⟩
      subst hxy
      have hx : x.e = e2B := by injection hens
      have hy : y.e = e3B := by injection hens with _ h; injection h
      have HES := Lib.hid hes
      obtain ⟨Av, cv, rfl, hv1, hv2, -⟩ := id hes.sl
      have HKB2 := Lib.hid (HKB.out.below hb2)
      have z0 := HKB2.out.cell 0 _ rfl
      have z1 := HKB2.out.cell 1 _ rfl
      have z2 := HKB2.out.cell 2 _ rfl
      have HPU := Lib.hid (put_any b ⟨.slice none 0 0, ⟨[], 2, 2, [], false⟩⟩ w2 (HOK.out.below hb2) HFT.out (Sl.nil_ _) (fineB 2 (by omega)) (HM.out.below hbw2))
      rw [HU.out, show (putS ⟨1, [e1B], [[e2B, e3B]]⟩ ⟨[], 2, 2, [], false⟩).2 = 10 from put4] at HPU
      unfold Ent.agg Buf.agg at HPU
      dsimp only at HPU
      rw [hs0] at HPU
      have hml : b.mem.length = 1 := by have := congrArg (fun u : Bu => u.mem.length) HU.out; rwa [show b.bu.mem.length = b.mem.length from ens_len _] at this
      have hrl : b.runs.length = 1 := by have := congrArg (fun u : Bu => u.runs.length) HU.out; rwa [show b.bu.runs.length = b.runs.length from List.length_map _] at this
      clear hes hens hll hb2 y0 y1 y2
      go_wp2_with fail
      refine HPU.out.mono ?_
      rintro e w3 ⟨b3, rfl, hob3, -, hb3⟩
      obtain ⟨Am3, cm3, hvm3, -⟩ := id hob3.ok.mem.sl
      obtain ⟨Ar3, cr3, hvr3, -⟩ := id hob3.ok.sl
      rw [hvm3, hvr3]
      have hbw3 := below_trans hbw2 hb3
      have hbw4 := below_trans hbw3 (below_alloc w3 (.cells #[.int .i64 b3.limit, .slice Am3 b3.mem.length cm3, .slice Ar3 b3.runs.length cr3] 25))
      have HKB4 := (HKB2.out.below hb3).alloc (.cells #[.int .i64 b3.limit, .slice Am3 b3.mem.length cm3, .slice Ar3 b3.runs.length cr3] 25)
      obtain ⟨Am, cm, hvm, -⟩ := id HOK.out.mem.sl
      obtain ⟨Ar, cr, hvr, -⟩ := id HOK.out.sl
      rw [hml] at hvm
      rw [hrl] at hvr
      rw [hvm, hvr] at HKB4
      have u1 := HKB4.cell 1 _ rfl
      have u2 := HKB4.cell 2 _ rfl
      have hb24 := below_trans hb3 (below_alloc w3 (.cells #[.int .i64 b3.limit, .slice Am3 b3.mem.length cm3, .slice Ar3 b3.runs.length cr3] 25))
      obtain ⟨g, off, rfl, -, hcx⟩ := ent_at HES.out.sl rfl (k := 0) (x := x) rfl
      obtain ⟨g', off', hA', -, hcy⟩ := ent_at HES.out.sl rfl (k := 1) (x := y) rfl
      injection hA' with hA'
      injection hA' with q1 q2
      subst q1 q2
      obtain ⟨-, d1, -⟩ := hcx _ hb24
      obtain ⟨-, d2, -⟩ := hcy _ hb24
      rw [hx] at d1
      rw [hy] at d2
      have d1' : (w3.alloc (.cells #[.int .i64 b3.limit, .slice Am3 b3.mem.length cm3, .slice Ar3 b3.runs.length cr3] 25)).cell? ⟨g, off + 1, none⟩ = some (.int .i64 2) := by simpa [e2B] using d1
      have d2' : (w3.alloc (.cells #[.int .i64 b3.limit, .slice Am3 b3.mem.length cm3, .slice Ar3 b3.runs.length cr3] 25)).cell? ⟨g, off + 5 + 1, none⟩ = some (.int .i64 3) := by simpa [e3B] using d2
      clear HKB4 hcx hcy d1 d2 hob3 hvm3 hvr3 hvm hvr z0 z1 z2 hb3 hb24 hx hy
      go_wp2
      go_ret
      exact ⟨rfl, hbw4⟩

end Go.Proofs.YteabfalklgffmaaDoor
