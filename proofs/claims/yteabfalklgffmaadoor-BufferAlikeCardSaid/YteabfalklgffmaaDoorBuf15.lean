/-
  The reference's There and PutError.
-/
import Derived.Test.YteabfalklgffmaaDoorBuf14
set_option linter.unusedSimpArgs false
set_option linter.unusedVariables false
namespace Go.Proofs.YteabfalklgffmaaDoor
open Go.RowKit

theorem isE_sort {l : List En} (h : Alone l) (e : En) : isE (sortE l) e = isE l e := by
  have hp := sortE_perm h
  unfold isE
  rw [Bool.eq_iff_iff, List.any_eq_true, List.any_eq_true]
  exact ⟨fun ⟨x, hx, h⟩ => ⟨x, hp.subset hx, h⟩, fun ⟨x, hx, h⟩ => ⟨x, hp.symm.subset hx, h⟩⟩
theorem into_free (l : List En) (e : En) : (intoE l e).2 = !isE l e := by
  unfold intoE
  split
  · rename_i h; rw [h]; rfl
  · rename_i h; simp at h; rw [h]; rfl
theorem isE_same (l : List En) {a b : En} (h1 : a.key = b.key) (h2 : a.t = b.t) (h3 : a.s = b.s) : isE l a = isE l b := by
  unfold isE
  congr 1
  funext x
  have := cmpE_same (cmpE_zero.2 ⟨h1, h2, h3⟩) x
  rw [show cmpE x a = cmpE x b by rw [cmpE_flip a x, cmpE_flip b x, this]]

set_option maxHeartbeats 4000000 in
set_option maxRecDepth 10000 in
theorem there_any (b : Buf) (key : List UInt8) (t s : Int) (w : World) (hb : b.ok w) (hf : b.fit) (hg : GoodB b.bu) :
    Calls Tryd.prog 30 #[b.agg, .string (str key), .int .i64 t, .int .i64 s] w fun e w' => e = .returned (.bool (isE b.bu.all ⟨key, t, s, [], false⟩)) ∧ Below w.heap.size w w' := by
  have HO := Lib.hid hb
  have hal := hg.few
  have HEN := Lib.hid (fun w' (h : Below w.heap.size w w') => entries_any b w' (hb.below h) (by omega) (fun k x hx => ((hf.part k).1 x hx).len))
  have HI : Hid (isE b.bu.all ⟨key, t, s, [], false⟩ = !(intoE (sortE b.bu.all) ⟨key, t, s, [], false⟩).2) := Lib.hid (by rw [into_free, isE_sort hg.alone]; simp)
  have HLS : Hid ((sortE b.bu.all).length = b.bu.all.length) := Lib.hid (sortE_perm hg.alone).length_eq
  have HUP := Lib.hid (sortE_up b.bu.all)
  generalize isE b.bu.all ⟨key, t, s, [], false⟩ = R at HI ⊢
  obtain ⟨A, c, hvr, hr1, hr2, -⟩ := id hb.sl
  obtain ⟨Am, cm, hvm, hm1, hm2, -⟩ := id hb.mem.sl
  unfold Buf.agg at HEN ⊢
  rw [hvr, hvm] at HEN ⊢
  have HX := Lib.hid (Blk.new w 25 #[.int .i64 b.limit, .slice Am b.mem.length cm, .slice A b.runs.length c])
  have hB := below_alloc w (.cells #[.int .i64 b.limit, .slice Am b.mem.length cm, .slice A b.runs.length c] 25)
  have y0 := HX.out.cell 0 _ rfl
  have y1 := HX.out.cell 1 _ rfl
  have y2 := HX.out.cell 2 _ rfl
  clear hb hf hvr hvm hg
  go_enter Tryd.func30, Tryd.ntmps30
  go_wp2_with fail
  refine (HEN.out _ hB).mono ?_
  rintro e w2 ⟨v2, l2, rfl, hown, hens, hb2, hlt2⟩
  have hbw2 := below_trans hB hb2
  have HVL := Lib.hid (own_ge hown.own)
  have HIN := Lib.hid (into_any v2 l2 ⟨.slice none 0 0, ⟨key, t, s, [], false⟩⟩ _ w2 hown hlt2 (by
    have h1 := congrArg List.length hens
    rw [ens_len, HLS.out] at h1
    omega) (Sl.nil_ w2) (by simp) (fun h => absurd rfl h) (by rw [hens]; exact HUP.out))
  rw [hens] at HIN
  unfold Ent.agg at HIN
  clear hown hens hb2 y0 y1 y2 HEN
  go_wp2_with fail
  refine HIN.out.mono ?_
  rintro e w3 ⟨v3, l3, rfl, -, -, hg3, -⟩
  have hbw3 := below_grown hbw2 hg3 (fun k hk => by have := HVL.out k hk; simp at this; omega)
  generalize (intoE (sortE b.bu.all) ⟨key, t, s, [], false⟩).2 = G at HI
  clear HIN
  go_wp2
  go_ret
  exact ⟨by rw [HI.out]; rfl, hbw3⟩

set_option maxHeartbeats 4000000 in
set_option maxRecDepth 10000 in
theorem putError_any (b : Buf) (x : Ent) (w : World) (hb : b.ok w) (hf : b.fit) (hg : GoodB b.bu) (hs : Sl w x.v x.e.r.length (rowCells x.e.r)) (hfx : FineE x.e) :
    Calls Tryd.prog 8 #[b.agg, x.agg] w fun e w' => e = .returned (.int .i64 (putE b.bu x.e)) ∧ Below w.heap.size w w' := by
  have HO := Lib.hid hb
  have hal := hg.few
  have HEN := Lib.hid (fun w' (h : Below w.heap.size w w') => entries_any b w' (hb.below h) (by omega) (fun k x hx => ((hf.part k).1 x hx).len))
  have HTH := Lib.hid (fun w' (h : Below w.heap.size w w') => there_any b x.e.key x.e.t x.e.s w' (hb.below h) hf hg)
  have HRF := Lib.hid (fun w' (h : Below w.heap.size w w') => rfine_ent x w' (hs.below h) hfx)
  have HI : Hid (putE b.bu x.e = if okE x.e = false then 1 else if isE b.bu.all ⟨x.e.key, x.e.t, x.e.s, [], false⟩ = true then 10 else if 4096 ≤ b.bu.all.length then 2 else 0) := Lib.hid (by
    unfold putE
    rw [isE_same b.bu.all (a := x.e) (b := ⟨x.e.key, x.e.t, x.e.s, [], false⟩) rfl rfl rfl])
  have HLS : Hid ((sortE b.bu.all).length = b.bu.all.length) := Lib.hid (sortE_perm hg.alone).length_eq
  generalize putE b.bu x.e = R at HI ⊢
  obtain ⟨A, c, hvr, hr1, hr2, -⟩ := id hb.sl
  obtain ⟨Am, cm, hvm, hm1, hm2, -⟩ := id hb.mem.sl
  obtain ⟨Ax, cx, hvx, -⟩ := id hs
  unfold Buf.agg at HEN HTH ⊢
  unfold Ent.agg at HRF ⊢
  rw [hvr, hvm] at HEN HTH ⊢
  rw [hvx] at HRF ⊢
  have B0 := new_first w 25 #[.int .i64 b.limit, .slice Am b.mem.length cm, .slice A b.runs.length c] (.cells #[.string (str x.e.key), .int .i64 x.e.t, .int .i64 x.e.s, .slice Ax x.e.r.length cx, .bool x.e.met] 28)
  have B1 := new_second w 28 #[.string (str x.e.key), .int .i64 x.e.t, .int .i64 x.e.s, .slice Ax x.e.r.length cx, .bool x.e.met] (.cells #[.int .i64 b.limit, .slice Am b.mem.length cm, .slice A b.runs.length c] 25)
  have HK0 := Lib.hid B0
  have HK1 := Lib.hid B1
  have hB := below_trans (below_alloc w (.cells #[.int .i64 b.limit, .slice Am b.mem.length cm, .slice A b.runs.length c] 25)) (below_alloc _ (.cells #[.string (str x.e.key), .int .i64 x.e.t, .int .i64 x.e.s, .slice Ax x.e.r.length cx, .bool x.e.met] 28))
  clear hb hf hvr hvm hvx hg hs hfx B0 B1
  have y0 := HK0.out.cell 0 _ rfl
  have y1 := HK0.out.cell 1 _ rfl
  have y2 := HK0.out.cell 2 _ rfl
  go_enter Tryd.func8, Tryd.ntmps8
  go_wp2_with fail
  refine (HEN.out _ hB).mono ?_
  rintro e w2 ⟨v2, l2, rfl, hown, hens, hb2, -⟩
  have hbw2 := below_trans hB hb2
  have HK2 := Lib.hid (HK0.out.below hb2)
  have HK3 := Lib.hid (HK1.out.below hb2)
  have hll : l2.length = b.bu.all.length := by have h := congrArg List.length hens; rw [ens_len, HLS.out] at h; exact h
  have HLL := Lib.hid hll
  obtain ⟨A2, c2, rfl, hz1, hz2, -⟩ := Sl.of_own hown.own
  clear hll
  have d0 := HK3.out.cell 0 _ rfl
  have d1 := HK3.out.cell 1 _ rfl
  have d2 := HK3.out.cell 2 _ rfl
  have d3 := HK3.out.cell 3 _ rfl
  have d4 := HK3.out.cell 4 _ rfl
  have HRX := Lib.hid (HRF.out _ hbw2)
  clear y0 y1 y2 HEN HRF HK0 HK1 hown hens hb2
  cases hok : okE x.e with
  | false =>
    have EE := Lib.hid (HI.out.trans (if_pos hok))
    rw [hok] at HRX
    go_wp2_with (go_at_call 29; refine HRX.out.mono ?_; rintro e w3 ⟨rfl, hb3⟩)
    go_ret
    exact ⟨by rw [EE.out]; rfl, below_trans hbw2 hb3⟩
  | true =>
    have HI2 := Lib.hid (HI.out.trans (if_neg (by rw [hok]; simp)))
    rw [hok] at HRX
    clear HI hok
    go_wp2_with (go_at_call 29; refine HRX.out.mono ?_; rintro e w3 ⟨rfl, hb3⟩; have hbw3 := below_trans hbw2 hb3; have HTX := Lib.hid (HTH.out _ hbw3); have z0 := (HK2.out.below hb3).cell 0 _ rfl; have z1 := (HK2.out.below hb3).cell 1 _ rfl; have z2 := (HK2.out.below hb3).cell 2 _ rfl; have f0 := (HK3.out.below hb3).cell 0 _ rfl; have f1 := (HK3.out.below hb3).cell 1 _ rfl; have f2 := (HK3.out.below hb3).cell 2 _ rfl)
    refine HTX.out.mono ?_
    rintro e w4 ⟨rfl, hb4⟩
    have hbw4 := below_trans hbw3 hb4
    clear HTX HTH HRX
    generalize isE b.bu.all ⟨x.e.key, x.e.t, x.e.s, [], false⟩ = G at HI2
    cases G with
    | true =>
      have EE := Lib.hid (HI2.out.trans (if_pos rfl))
      go_wp2
      go_ret
      exact ⟨by rw [EE.out]; rfl, hbw4⟩
    | false =>
      have HI3 := Lib.hid (HI2.out.trans (if_neg (by simp)))
      by_cases hm : 4096 ≤ b.bu.all.length
      · have EE := Lib.hid (HI3.out.trans (if_pos hm))
        have hm' : (4096 : Int) ≤ (l2.length : Int) := by rw [HLL.out]; omega
        go_wp2
        go_ret
        exact ⟨by rw [EE.out]; rfl, hbw4⟩
      · have EE := Lib.hid (HI3.out.trans (if_neg hm))
        have hm' : decide ((4096 : Int) ≤ (l2.length : Int)) = false := decide_eq_false (by rw [HLL.out]; omega)
        clear hm
        go_wp2
        go_ret
        exact ⟨by rw [EE.out]; rfl, hbw4⟩

end Go.Proofs.YteabfalklgffmaaDoor
