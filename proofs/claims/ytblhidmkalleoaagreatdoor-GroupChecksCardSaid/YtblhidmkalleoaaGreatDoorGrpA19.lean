/-
  Groups: the law GroupChecks. Plans: planBegun, the law PlanChecks. Plans: the laws PlanRows, PlanGone. Plans: the law PlanPasses. The arguments of the laws on plans: a plan, a row.
-/
import Derived.Test.YtblhidmkalleoaaGreatDoorGrpA17
import Derived.Test.YtblhidmkalleoaaGreatDoorGrpA18
import Derived.Test.YtblhidmkalleoaaGreatDoorGrp19
import Derived.Test.YtblhidmkalleoaaGreatDoorPlan21
import Derived.Test.YtblhidmkalleoaaGreatDoorGrpA5
import Derived.SizedLaws
import Derived.Deep.Fields
set_option linter.unusedSimpArgs false
set_option linter.unusedVariables false
namespace Go.Proofs.YtblhidmkalleoaaGreatDoor
open Go.RowKit

set_option maxHeartbeats 8000000 in
set_option maxRecDepth 10000 in
theorem groupChecks_walk (p : Pl) (v : Value) (G : List Gm) (w : World) (h : p.ok w) (hf : p.fit) (hG : Gms w v G) (hGf : ∀ x ∈ G, x.fit) (hm : Mx w) :
    Calls Tryz.prog 3 #[.agg #[.int .i64 p.kind, .int .i64 p.mode, .int .i64 p.low, .int .i64 p.high, .int .i64 p.size, .int .i64 p.limit, p.vl, p.vr, p.vk, p.vq, .bool p.grouped, p.vg, p.va], v] w fun e w' => e = .returned (.bool true) ∧ Below w.heap.size w w' := by
  have HM := Lib.hid hm
  have HV := Lib.hid (fun W (hb : Below w.heap.size w W) => gview_any p v G W (h.below hb) hf (hG.below hb) hGf (hm.below hb))
  have HC := Lib.hid (fun W (hb : Below w.heap.size w W) => gcheck_any p v G W (h.below hb) hf (hG.below hb) hGf (hm.below hb))
  have HP := Lib.hid (fun W (hb : Below w.heap.size w W) => rgcheck_any p v G W (h.below hb) (hG.below hb) hGf)
  have HW := Lib.hid (fun (hz : checkG p (gps G) = 0) W (hb : Below w.heap.size w W) => let z := (check_zeroG (p := p) (G := gps G) (fun g hg => by obtain ⟨x, hx, rfl⟩ := List.mem_map.1 hg; exact (hGf x hx).fine)).1 hz; rview_any p v G W (h.below hb) (hG.below hb) z.1 z.2.1 z.2.2)
  have HS : Hid (viewS p (gps G) = if checkG p (gps G) = 0 then viewG p (gps G) else []) := Lib.hid rfl
  obtain ⟨Av, cv, rfl, -⟩ := id hG.sl
  obtain ⟨A0, c0, h0, -⟩ := h.l
  obtain ⟨A1, c1, h1, -⟩ := h.r
  obtain ⟨A2, c2, h2, -⟩ := h.k
  obtain ⟨A3, c3, h3, -⟩ := h.q
  obtain ⟨A4, c4, h4, -⟩ := h.g
  obtain ⟨A5, c5, h5, -⟩ := h.a
  rw [h0, h1, h2, h3, h4, h5] at HV HC HP HW ⊢
  clear h hf hG hGf hm h0 h1 h2 h3 h4 h5
  obtain ⟨Q, hQ⟩ : ∃ Q, checkG p (gps G) = Q := ⟨_, rfl⟩
  rw [hQ] at HV HC HP HW HS
  clear hQ
  generalize viewS p (gps G) = VS at HV HS
  generalize viewG p (gps G) = VG at HW HS
  have hB := below_alloc w (.cells #[.int .i64 p.kind, .int .i64 p.mode, .int .i64 p.low, .int .i64 p.high, .int .i64 p.size, .int .i64 p.limit, .slice A0 p.left.length c0, .slice A1 p.right.length c1, .slice A2 p.lkeys.length c2, .slice A3 p.rkeys.length c3, .bool p.grouped, .slice A4 p.group.length c4, .slice A5 p.aggs.length c5] 25)
  have K1 := Blk.new w 25 #[.int .i64 p.kind, .int .i64 p.mode, .int .i64 p.low, .int .i64 p.high, .int .i64 p.size, .int .i64 p.limit, .slice A0 p.left.length c0, .slice A1 p.right.length c1, .slice A2 p.lkeys.length c2, .slice A3 p.rkeys.length c3, .bool p.grouped, .slice A4 p.group.length c4, .slice A5 p.aggs.length c5]
  have hqq : (Q == Q) = true := by simp
  go_enter Tryz.func3, Tryz.ntmps3
  go_wp2_with fail
  refine Calls.mono (by with_reducible exact HV.out _ hB) ?_
  rintro e w1 ⟨v1, l1, rfl, hs1, ha1, hb1⟩
  have B1 := below_trans hB hb1
  have K2 := K1.below hb1
  have S1 := Lib.hid hs1
  have HA1 := Lib.hid ha1
  obtain ⟨A, c, rfl, -⟩ := id hs1.sl
  obtain ⟨y0, y1, y2, y3, y4, y5, y6, y7, y8, y9, y10, y11, y12⟩ := pl_cells K2
  clear hb1 K1 hB HV hs1 ha1
  go_wp2_with fail
  refine Calls.mono (by with_reducible exact HP.out _ B1) ?_
  rintro e w2 ⟨rfl, hb2⟩
  have B2 := below_trans B1 hb2
  have K3 := K2.below hb2
  have S2 := Lib.hid (S1.out.below hb2)
  clear y0 y1 y2 y3 y4 y5 y6 y7 y8 y9 y10 y11 y12 hb2 K2 B1 HP S1
  by_cases hq : Q = 0
  · have q1 := bneF hq
    have HQ := Lib.hid hq
    have HE := Lib.hid (HS.out.trans (if_pos hq))
    clear hq HS
    go_wp2_with fail
    refine (groupBegun_any _ (HM.out.below B2)).mono ?_
    rintro e w3 ⟨rfl, hb3⟩
    have B3 := below_trans B2 hb3
    have K4 := K3.below hb3
    have S3 := Lib.hid (S2.out.below hb3)
    obtain ⟨y0, y1, y2, y3, y4, y5, y6, y7, y8, y9, y10, y11, y12⟩ := pl_cells K4
    clear hb3 K3 B2 S2
    go_wp2_with fail
    refine Calls.mono (by with_reducible exact HC.out _ B3) ?_
    rintro e w4 ⟨rfl, hb4⟩
    have B4 := below_trans B3 hb4
    have K5 := K4.below hb4
    have S4 := Lib.hid (S3.out.below hb4)
    clear y0 y1 y2 y3 y4 y5 y6 y7 y8 y9 y10 y11 y12
    obtain ⟨y0, y1, y2, y3, y4, y5, y6, y7, y8, y9, y10, y11, y12⟩ := pl_cells K5
    clear hb4 K4 B3 S3
    go_wp2_with fail
    refine Calls.mono (by with_reducible exact HW.out HQ.out _ B4) ?_
    rintro e w5 ⟨v5, l5, rfl, hs5, ha5, hb5⟩
    have B5 := below_trans B4 hb5
    have HSV := Lib.hid (sameViews_any _ _ l1 l5 w5 (S4.out.below hb5) hs5 (by rw [HA1.out, ha5, HE.out]))
    obtain ⟨D, d, rfl, -⟩ := id hs5.sl
    clear y0 y1 y2 y3 y4 y5 y6 y7 y8 y9 y10 y11 y12 hb5 K5 B4 S4 hs5 ha5
    go_wp2_with fail
    refine Calls.mono (by with_reducible exact HSV.out) ?_
    rintro e w6 ⟨rfl, hb6⟩
    have B6 := below_trans B5 hb6
    clear hb6 B5
    go_wp2
    go_ret
    exact ⟨rfl, B6⟩
  · have q1 := bneT hq
    have hl : l1 = [] := by
      have h1 := HA1.out.trans (HS.out.trans (if_neg hq))
      unfold av at h1
      exact List.map_eq_nil_iff.1 h1
    subst hl
    clear hq HS HW
    go_wp2_with fail
    refine (groupBegun_any _ (HM.out.below B2)).mono ?_
    rintro e w3 ⟨rfl, hb3⟩
    have B3 := below_trans B2 hb3
    have K4 := K3.below hb3
    obtain ⟨y0, y1, y2, y3, y4, y5, y6, y7, y8, y9, y10, y11, y12⟩ := pl_cells K4
    clear hb3 K3 B2 S2
    go_wp2_with fail
    refine Calls.mono (by with_reducible exact HC.out _ B3) ?_
    rintro e w4 ⟨rfl, hb4⟩
    have B4 := below_trans B3 hb4
    clear y0 y1 y2 y3 y4 y5 y6 y7 y8 y9 y10 y11 y12 hb4 K4 B3
    go_wp2
    go_ret
    exact ⟨rfl, B4⟩
end Go.Proofs.YtblhidmkalleoaaGreatDoor
namespace Go.Proofs.YtblhidmkalleoaaGreatDoor
open Go.RowKit Go.Maps

end Go.Proofs.YtblhidmkalleoaaGreatDoor
namespace Go.Proofs.YtblhidmkalleoaaGreatDoor
open Go.RowKit Go.Maps

end Go.Proofs.YtblhidmkalleoaaGreatDoor
namespace Go.Proofs.YtblhidmkalleoaaGreatDoor
open Go.RowKit Go.Maps

end Go.Proofs.YtblhidmkalleoaaGreatDoor
namespace Go.Proofs.YtblhidmkalleoaaGreatDoor
open Go.ChangeShapes Go.WideShapes Go.RowKit Go.Deep

section
variable {H : Type} {enc : TypeId × Value → H} {P : Program} {w : World} {base : Nat} {spare : Nat → Bool} {held : Bool}
end


section
variable {H : Type} {enc : TypeId × Value → H} {w : World} {base : Nat} {spare : Nat → Bool} {held : Bool}


end


section
variable {H : Type} {enc : TypeId × Value → H} {P : Program} {w : World} {base : Nat} {spare : Nat → Bool} {held : Bool}
theorem flat_ints (l : List Int) : l.flatMap (fun n => [Value.int .i64 n]) = intCells l := by
  induction l with
  | nil => rfl
  | cons a l ih => rw [List.flatMap_cons, ih]; rfl
end

section
variable {H : Type} {enc : TypeId × Value → H} {w : World} {base : Nat} {spare : Nat → Bool} {held : Bool}
set_option maxRecDepth 100000 in
theorem ints_trod {fuel : Nat} {cs : List Value} {x : DataW H × List MemPlace} (h : DataW.trod enc Tryz.prog w base spare held fuel 22 cs = some x) : ∃ (v : Value) (l : List Int), cs = [v] ∧ Sl w v l.length (intCells l) ∧ I64 l := by
  obtain ⟨v, l, e, hs, hq⟩ := open_flatQ (f := fun n : Int => [Value.int .i64 n]) (Q := fun n => -9223372036854775808 ≤ n ∧ n ≤ 9223372036854775807) (size := 1) (fun _ => rfl) (by omega) Tryz.underlying22 (by kernel_rfl)
    (fun fuel cs x h => by obtain ⟨s, e, -, q⟩ := DataW.trod_int Tryz.underlying3 h; exact ⟨s, e, wf_i64 q⟩) h
  rw [flat_ints] at hs
  exact ⟨v, l, e, hs, hq⟩
set_option maxRecDepth 100000 in
theorem agg_trod (fuel : Nat) (cs : List Value) (x : DataW H × List MemPlace) (h : DataW.trod enc Tryz.prog w base spare held fuel 106 cs = some x) : ∃ a : Int × Int, cs = aggCell a ∧ (-9223372036854775808 ≤ a.1 ∧ a.1 ≤ 9223372036854775807) ∧ (-9223372036854775808 ≤ a.2 ∧ a.2 ≤ 9223372036854775807) := by
  obtain ⟨n, hl, hf⟩ := struct_one Tryz.underlying106 (hone_of (by kernel_rfl)) (by kernel_rfl) h
  obtain ⟨y0, h0⟩ := hf 0 _ rfl
  obtain ⟨y1, h1⟩ := hf 1 _ rfl
  obtain ⟨s0, e0, -, q0⟩ := DataW.trod_int Tryz.underlying3 h0
  obtain ⟨s1, e1, -, q1⟩ := DataW.trod_int Tryz.underlying3 h1
  match cs, hl with
  | [a, b], _ =>
    simp at e0 e1
    subst e0 e1
    exact ⟨(s0, s1), rfl, wf_i64 q0, wf_i64 q1⟩
set_option maxRecDepth 100000 in
theorem plan_trod (fuel : Nat) (cs : List Value) (x : DataW H × List MemPlace) (h : DataW.trod enc Tryz.prog w base spare held fuel 25 cs = some x) :
    ∃ p : Pl, cs = [.int .i64 p.kind, .int .i64 p.mode, .int .i64 p.low, .int .i64 p.high, .int .i64 p.size, .int .i64 p.limit, p.vl, p.vr, p.vk, p.vq, .bool p.grouped, p.vg, p.va] ∧ p.ok w ∧ p.fit := by
  obtain ⟨n, hl, hf⟩ := struct_one Tryz.underlying25 (hone_of (by kernel_rfl)) (by kernel_rfl) h
  obtain ⟨y0, h0⟩ := hf 0 _ rfl
  obtain ⟨y1, h1⟩ := hf 1 _ rfl
  obtain ⟨y2, h2⟩ := hf 2 _ rfl
  obtain ⟨y3, h3⟩ := hf 3 _ rfl
  obtain ⟨y4, h4⟩ := hf 4 _ rfl
  obtain ⟨y5, h5⟩ := hf 5 _ rfl
  obtain ⟨y6, h6⟩ := hf 6 _ rfl
  obtain ⟨y7, h7⟩ := hf 7 _ rfl
  obtain ⟨y8, h8⟩ := hf 8 _ rfl
  obtain ⟨y9, h9⟩ := hf 9 _ rfl
  obtain ⟨y10, h10⟩ := hf 10 _ rfl
  obtain ⟨y11, h11⟩ := hf 11 _ rfl
  obtain ⟨y12, h12⟩ := hf 12 _ rfl
  obtain ⟨s0, e0, -, q0⟩ := DataW.trod_int Tryz.underlying3 h0
  obtain ⟨s1, e1, -, q1⟩ := DataW.trod_int Tryz.underlying3 h1
  obtain ⟨s2, e2, -, q2⟩ := DataW.trod_int Tryz.underlying3 h2
  obtain ⟨s3, e3, -, q3⟩ := DataW.trod_int Tryz.underlying3 h3
  obtain ⟨s4, e4, -, q4⟩ := DataW.trod_int Tryz.underlying3 h4
  obtain ⟨s5, e5, -, q5⟩ := DataW.trod_int Tryz.underlying3 h5
  obtain ⟨v6, l6, e6, hs6, q6⟩ := ints_trod h6
  obtain ⟨v7, l7, e7, hs7, q7⟩ := ints_trod h7
  obtain ⟨v8, l8, e8, hs8, q8⟩ := ints_trod h8
  obtain ⟨v9, l9, e9, hs9, q9⟩ := ints_trod h9
  obtain ⟨s10, e10, -⟩ := DataW.trod_bool Tryz.underlying4 h10
  obtain ⟨v11, l11, e11, hs11, q11⟩ := ints_trod h11
  obtain ⟨v12, l12, e12, hs12, q12⟩ := open_flatQ (f := aggCell) (size := 2) aggCell_len (by omega) Tryz.underlying23 (by kernel_rfl) agg_trod h12
  match cs, hl with
  | [a0, a1, a2, a3, a4, a5, a6, a7, a8, a9, a10, a11, a12], _ =>
    simp at e0 e1 e2 e3 e4 e5 e6 e7 e8 e9 e10 e11 e12
    subst e0 e1 e2 e3 e4 e5 e6 e7 e8 e9 e10 e11 e12
    exact ⟨⟨s0, s1, s2, s3, s4, s5, a6, a7, a8, a9, s10, a11, a12, l6, l7, l8, l9, l11, l12⟩, rfl, ⟨hs6, hs7, hs8, hs9, hs11, hs12⟩, ⟨q6, q7, q8, q9, q11, q12⟩⟩
set_option maxRecDepth 100000 in
theorem open_plan {r : Reach} {b0 : Nat} {v : Value} {d : DataW H} {p : List MemPlace} (hv : Value.okWide Tryz.prog w r b0 25 v) (h : DataW.Trod enc Tryz.prog w base spare held 25 v d p) :
    ∃ x : Pl, v = .agg #[.int .i64 x.kind, .int .i64 x.mode, .int .i64 x.low, .int .i64 x.high, .int .i64 x.size, .int .i64 x.limit, x.vl, x.vr, x.vk, x.vq, .bool x.grouped, x.vg, x.va] ∧ x.ok w ∧ x.fit := by
  obtain ⟨cs, rfl, -⟩ := okWide_struct Tryz.underlying25 hv
  obtain ⟨fuel, hf⟩ := h
  obtain ⟨x, e, hx⟩ := plan_trod _ _ _ hf
  refine ⟨x, ?_, hx⟩
  have : cs.toList = [.int .i64 x.kind, .int .i64 x.mode, .int .i64 x.low, .int .i64 x.high, .int .i64 x.size, .int .i64 x.limit, x.vl, x.vr, x.vk, x.vq, .bool x.grouped, x.vg, x.va] := e
  rw [← Array.toArray_toList (xs := cs), this]
end
end Go.Proofs.YtblhidmkalleoaaGreatDoor
