/-
  merged: all entries, rising.
-/
import Derived.Test.YteabfalklgffmaaDoorBuf21
import Derived.Test.YteabfalklgffmaaDoorBuf19
set_option linter.unusedSimpArgs false
set_option linter.unusedVariables false
namespace Go.Proofs.YteabfalklgffmaaDoor
open Go.RowKit Go.Shelf
attribute [local go_sem] Oper.semAt_some

attribute [-go_sem] Builtin.append_ in
set_option maxRecDepth 100000 in
set_option maxHeartbeats 8000000 in
theorem merged_any (b : Buf) (w : World) (hb : b.ok w) (hl : ∀ k, (b.part k).2.length ≤ 1000000) (hal : b.bu.all.length ≤ 1000000) (hrl : b.runs.length ≤ 1000000) (h8 : ∀ k, ∀ x ∈ (b.part k).2, x.e.r.length ≤ 8) :
    Calls Tryd.prog 35 #[b.agg] w fun e w' => ∃ v l, e = .returned v ∧ OwnE w' (w.heap.size + 3) v l ∧ (ens l).Perm b.bu.all ∧ ((ens l).Pairwise fun a b => ¬ cmpE b a < 0) ∧ Below w.heap.size w w' ∧ w.heap.size + 3 ≤ w'.heap.size := by
  have HO := Lib.hid hb
  have HL := Lib.hid hl
  have H8 := Lib.hid h8
  have hmx : Tryd.prog.follows .mixedOrders = true := by kernel_rfl
  have HALL : Hid (b.bu.all = (List.range (b.runs.length + 1)).flatMap fun k => ens (b.part k).2) := Lib.hid (pre_all b)
  have HAL := Lib.hid hal
  unfold Buf.agg
  clear hb hl h8 hal
  refine (callsIn_wide (n := 3)).1 ?_
  refine callsIn_of_wp_marks Tryd.func35 rfl trivial ?_ rfl
  simp only [Tryd.ntmps35, List.size_toArray, List.length_cons, List.length_nil, Nat.reduceAdd, Nat.reduceSub, Array.replicate_succ, Array.replicate_zero, List.push_toArray, List.append_toArray, List.nil_append, List.cons_append]
  gi_wp2_with (refine ⟨trivial, ?_⟩; gi_at_call 19; refine (callsIn_wide.2 (parts_any b _)).mono ?_; rintro e w' ⟨rfl, rfl⟩)
  have hB0 : Below w.heap.size w (((w.alloc (.cells #[.int .i64 b.limit, b.vm, b.vr] 25)).alloc (.cells #[.slice none 0 0] 22)).alloc (.cells #[.int .i64 b.limit, b.vm, b.vr] 25)) :=
    (((Below.refl _ w).alloc (Nat.le_refl _) _).alloc (by simp) _).alloc (by simp; omega) _
  have k1 := (Blk.new (w.alloc (.cells #[.int .i64 b.limit, b.vm, b.vr] 25)) 22 #[.slice none 0 0]).alloc (.cells #[.int .i64 b.limit, b.vm, b.vr] 25)
  have k2 := Blk.new ((w.alloc (.cells #[.int .i64 b.limit, b.vm, b.vr] 25)).alloc (.cells #[.slice none 0 0] 22)) 25 #[.int .i64 b.limit, b.vm, b.vr]
  simp only [World.size_alloc] at k1 k2
  obtain ⟨W0, hW0⟩ : ∃ W0, ((w.alloc (.cells #[.int .i64 b.limit, b.vm, b.vr] 25)).alloc (.cells #[.slice none 0 0] 22)).alloc (.cells #[.int .i64 b.limit, b.vm, b.vr] 25) = W0 := ⟨_, rfl⟩
  have hsz : W0.heap.size = w.heap.size + 3 := by rw [← hW0]; simp
  rw [hW0] at hB0 k1 k2 ⊢
  refine wpIn_rangeFunc_ownF rfl (by omega) (gf := 42) (lb := #[.pointer (some ⟨w.heap.size + 1 + 1, 0, none⟩)]) rfl trivial (enters_of Tryd.func42 (by kernel_rfl) rfl)
    (parts_stops Fence.wide _ trivial rfl (by omega) (w.heap.size + 1 + 1) b W0 k2 w hB0 HO.out) KpB.trans (KpB.put (by omega) (by omega)) (Below.refl _ _) (fun _ => rfl)
    (fun pre W => (∃ v o, ens o = pre.flatMap (fun k => ens (b.part k).2) ∧ o.length ≤ pre.length * 1000000 ∧ OwnE W (w.heap.size + 3) v o ∧ Blk W (w.heap.size + 1) 22 #[v] ∧ w.heap.size + 3 ≤ W.heap.size) ∧ Below w.heap.size w W)
    (fun _ _ _ => False)
    (OwnFrom.and (Own.from (fun s A B row hs hg hr => by
      obtain ⟨v, o, h1, h2, h3, h4, h7⟩ := hs
      exact ⟨v, o, h1, h2, h3.recd hg hr, blk_own h4 hg hr, Nat.le_trans h7 hg.size⟩) _) (ownFrom_below (Nat.le_refl _) (by omega)))
    (fun c => (fun _ _ _ _ h _ _ => h))
    ⟨⟨.slice none 0 0, [], rfl, by simp, OwnE.nil _ _, k1, by omega⟩, hB0⟩
    (fun k => { tmps := #[.agg #[.int .i64 b.limit, b.vm, b.vr], .pointer (some ⟨w.heap.size, 0, none⟩), .slice none 0 0, .pointer (some ⟨w.heap.size + 1, 0, none⟩), undef, (b.part k).1, undef, undef,
      .agg #[.int .i64 b.limit, b.vm, b.vr], .func (.func 42) #[] #[.pointer (some ⟨w.heap.size + 1 + 1, 0, none⟩)], .int .i64 (idxP k), (b.part k).1,
      undef, undef, undef, undef, undef, undef, undef, undef, undef, undef, undef, undef, undef, undef, undef], defers := [] }) ?assign ?body ?done ?stop
  case assign =>
    intro l k W K hK
    dsimp only [encP]
    gi_wp2
    exact hK
  case body =>
    rintro l pre k W ⟨⟨v0, o0, he0, hl0, hown0, hKO, hWs⟩, hB⟩ hpre
    have HE0 := Lib.hid he0
    have HL0 := Lib.hid hl0
    have HOW0 := Lib.hid hown0
    have HKO0 := Lib.hid hKO
    have HPE := Lib.hid (HO.out.part k)
    have HPL := Lib.hid (H8.out k)
    have hpl := HL.out k
    have HST : Hid ((pre ++ [k]).flatMap (fun k => ens (b.part k).2) = ens o0 ++ ens (b.part k).2) := Lib.hid (by rw [List.flatMap_append, ← he0]; simp)
    have HPP := Lib.hid hpre
    clear he0 hl0 hown0 hKO
    generalize idxP k = n
    generalize b.part k = p at HPE HPL hpl HST ⊢
    obtain ⟨pv, pl⟩ := p
    simp only at HPE HPL hpl HST ⊢
    obtain ⟨A5, c5, rfl, hq1, hq2, -⟩ := id HPE.out.sl
    unfold maxLen at hq2
    gi_wp2
    gi_loopw [7, 14] (fun _ i wr => ∃ (m : Nat) (v : Value) (o : List Ent), i = .int .i64 m ∧ m ≤ pl.length ∧ Hid (ens o = ens o0 ++ (ens pl).take m) ∧ Hid (o.length ≤ o0.length + m) ∧ Hid (OwnE wr (w.heap.size + 3) v o) ∧ Hid (Blk wr (w.heap.size + 1) 22 #[v]) ∧ Hid (KeepsOthers W wr) ∧ Hid (KpB w.heap.size (w.heap.size + 1 + 1) W wr) ∧ Below w.heap.size w wr) (fun _ i _ => pl.length - (intOf i).toNat)
    case atStart => exact ⟨0, v0, o0, rfl, by omega, Lib.hid (by simp), Lib.hid (by simp), HOW0, HKO0, Lib.hid (KeepsOthers.refl _), Lib.hid (KpB.refl _ _ _), hB⟩
    case round =>
      obtain ⟨m, v, o, rfl, hm, HE, HOL, HOW, HKO, HKO2, HKP, hbq⟩ := hrel
      by_cases hml : m < pl.length
      · have hx := List.getElem?_eq_getElem (l := pl) hml
        generalize pl[m] = x at hx
        have hmem := List.mem_of_getElem? hx
        have HTK := Lib.hid (ens_take hx)
        obtain ⟨g5, off5, rfl, -, hc⟩ := ent_at HPE.out.sl rfl hx
        obtain ⟨Ax, cx, hvx, -⟩ := id (HPE.out.rows x hmem)
        have HSX := Lib.hid (HPE.out.rows x hmem)
        have hxl := HPL.out x hmem
        rw [hvx] at HSX
        simp only [hvx] at hc
        clear hvx
        obtain ⟨d0, d1, d2, d3, d4⟩ := hc _ hbq
        have K2 := Lib.hid (Blk.new wr 28 #[.string (str x.e.key), .int .i64 x.e.t, .int .i64 x.e.s, .slice Ax x.e.r.length cx, .bool x.e.met])
        have KO := Lib.hid (HKO.out.alloc (.cells #[.string (str x.e.key), .int .i64 x.e.t, .int .i64 x.e.s, .slice Ax x.e.r.length cx, .bool x.e.met] 28))
        have f0 := KO.out.cell 0 _ rfl
        have z0 := K2.out.cell 0 _ rfl
        have z1 := K2.out.cell 1 _ rfl
        have z2 := K2.out.cell 2 _ rfl
        have z3 := K2.out.cell 3 _ rfl
        have z4 := K2.out.cell 4 _ rfl
        clear hx hmem hc
        have k0 : (0 : Int) ≤ (m : Int) := by omega
        have k1 : (m : Int) < (pl.length : Int) := by omega
        have hwm : IntKind.i64.wrap ((m : Int) + 1) = (m : Int) + 1 := by rw [IntKind.wrap_i64]; omega
        gi_wp2_with fail
        have hws := HKO2.out.size
        have HOB : Hid (o.length ≤ 1000002000000) := Lib.hid (by have h1 := HOL.out; have h2 := HL0.out; have h3 := HPP.out; omega)
        have hb1 := below_trans hbq (below_alloc wr (.cells #[.string (str x.e.key), .int .i64 x.e.t, .int .i64 x.e.s, .slice Ax x.e.r.length cx, .bool x.e.met] 28))
        have HOE := Lib.hid (own_ent ⟨.slice Ax x.e.r.length cx, ⟨x.e.key, x.e.t, x.e.s, x.e.r, x.e.met⟩⟩ _ (HSX.out.below hb1.drew) hxl)
        unfold Ent.agg at HOE
        dsimp only at HOE
        gi_region_with_o (first
          | (refine ⟨trivial, (CallsIn.inRound l (callsIn_wide.2 HOE.out)).mono ?_⟩
             rintro e w4 ⟨cv, rfl, hcv, hcf, hb4⟩
             obtain ⟨Ac, cc, rfl, -⟩ := id hcv
             have hbb := below_trans hb1.drew hb4
             have HOW4 := ((HOW.out.alloc (.cells #[.string (str x.e.key), .int .i64 x.e.t, .int .i64 x.e.s, .slice Ax x.e.r.length cx, .bool x.e.met] 28)).drew.below hb4).alloc (.cells #[.string (str x.e.key), .int .i64 x.e.t, .int .i64 x.e.s, .slice Ac x.e.r.length cc, .bool x.e.met] 28)
             have HS1 := one_ent w4 ⟨.slice Ac x.e.r.length cc, x.e⟩
             have HON := ent_one (c := ⟨.slice Ac x.e.r.length cc, x.e⟩) hcv
             have KO4 := Lib.hid ((KO.out.drew.below hb4).alloc (.cells #[.string (str x.e.key), .int .i64 x.e.t, .int .i64 x.e.s, .slice Ac x.e.r.length cc, .bool x.e.met] 28))
             have f1 := (KO.out.drew.below hb4).cell 0 _ rfl
             have f2 := KO4.out.cell 0 _ rfl
             have hs4 : wr.heap.size + 1 ≤ w4.heap.size := by have h := hb4.size; simpa using h
             obtain ⟨v7, w7, hrun, hown7, hg7, hat7⟩ := run_app (P := Tryd.prog) (w.heap.size + 3) 22 22 28 5 64 Tryd.underlying22 entI v o.length _ HOW4.own _ 1 (Ent.cells ⟨.slice Ac x.e.r.length cc, x.e⟩) HS1 rfl HON (by unfold maxLen; have := HOB.out; omega) (by have := HOB.out; omega) (by simp; omega)
             have q7 := (KO4.out.grown hg7 (fun e => by have := own_ge HOW4.own _ e; omega)).cell 0 _ rfl
             have e7 := (KO4.out.grown hg7 (fun e => by have := own_ge HOW4.own _ e; omega)).free 0
             obtain ⟨A7, c7, rfl, -⟩ := Sl.of_own hown7)
          | (trace_state; fail))
        all_goals
          have hw4 := below_trans (below_trans (below_alloc wr (.cells #[.string (str x.e.key), .int .i64 x.e.t, .int .i64 x.e.s, .slice Ax x.e.r.length cx, .bool x.e.met] 28)).drew hb4) (below_alloc w4 (.cells #[.string (str x.e.key), .int .i64 x.e.t, .int .i64 x.e.s, .slice Ac x.e.r.length cc, .bool x.e.met] 28))
          have S4 := hcv.below (below_alloc w4 (.cells #[.string (str x.e.key), .int .i64 x.e.t, .int .i64 x.e.s, .slice Ac x.e.r.length cc, .bool x.e.met] 28))
          have H7 := HOW4.snoc (c := ⟨.slice Ac x.e.r.length cc, x.e⟩) hown7 hg7 hat7 S4 (fun k hk => ⟨by have := (hcf k hk).1; simp at this; omega, by have := (hcf k hk).2; simp; omega, fun e => by
            have h1 := (HOW.out.range (.inl e)).2
            have := (hcf k hk).1
            simp at this
            omega⟩)
          have H8 := Lib.hid (H7.set (p := ⟨w.heap.size + 1, 0, none⟩) (by show w.heap.size + 1 < w.heap.size + 3; omega) (.slice A7 (o.length + 1) c7))
          have hge := own_ge HOW4.own
          have K8 := Lib.hid ((KO4.out.grown hg7 (fun e => by have := hge _ e; omega)).set_ 0 (.slice A7 (o.length + 1) c7))
          have hb8 := (below_grown (below_trans hbq hw4) hg7 (fun k hk => by have := hge k hk; omega)).setCell (p := ⟨w.heap.size + 1, 0, none⟩) (by show w.heap.size ≤ w.heap.size + 1; omega) (.slice A7 (o.length + 1) c7)
          have KO8 := Lib.hid (((HKO2.out.trans (keeps_below hw4)).trans (ko_own HOW4.own hg7)).trans (KeepsOthers.setCell w7 ⟨w.heap.size + 1, 0, none⟩ (.slice A7 (o.length + 1) c7)))
          have KP8 := Lib.hid (((HKP.out.trans (KpB.of_below (by omega) (by omega) hw4)).trans (kp_grown hg7 (by simp; omega) (by simp; omega) (fun k hk => by have := hge k hk; omega))).set (p := ⟨w.heap.size + 1, 0, none⟩) (by show w.heap.size ≤ w.heap.size + 1; omega) (by show w.heap.size + 1 + 1 ≠ w.heap.size + 1; omega) (.slice A7 (o.length + 1) c7))
          have HE7 : Hid (ens (o ++ [(⟨.slice Ac x.e.r.length cc, x.e⟩ : Ent)]) = ens o0 ++ (ens pl).take (m + 1)) := Lib.hid (by rw [ens_snoc, HE.out, HTK.out, List.append_assoc])
          have HL7 : Hid ((o ++ [(⟨.slice Ac x.e.r.length cc, x.e⟩ : Ent)]).length ≤ o0.length + (m + 1)) := Lib.hid (by have := HOL.out; simp; omega)
          clear hw4 S4 H7 hge hown7 hg7 hat7 HOW4 HS1 HON hcv hcf hb4 hbb hb1 hrun
          gi_wp2
          go_roundw
          case rel => exact ⟨m + 1, _, _, by go_num, by omega, HE7, HL7, H8, K8, KO8, KP8, hb8⟩
          case measure => simp [intOf]; omega
      · obtain rfl : m = pl.length := by omega
        have HE7 : Hid (ens o = (pre ++ [k]).flatMap (fun k => ens (b.part k).2)) := Lib.hid (by rw [HE.out, HST.out, List.take_of_length_le (by rw [ens_len]; omega)])
        have HL7 : Hid (o.length ≤ (pre ++ [k]).length * 1000000) := Lib.hid (by have h1 := HOL.out; have h2 := HL0.out; rw [List.length_append, List.length_singleton]; omega)
        have hws := HKO2.out.size
        gi_wp2
        exact ⟨HKO2.out, HKP.out, ⟨v, o, HE7.out, HL7.out, HOW.out, HKO.out, by omega⟩, hbq⟩
  case done =>
    rintro D ys W hD rfl ⟨⟨v, o, he, hl, hown, hKO, hWs⟩, hB⟩ hK
    have HE := Lib.hid (he.trans HALL.out.symm)
    have HLO : Hid (o.length ≤ 1000000) := Lib.hid (by have h1 := HAL.out; rw [← HE.out, ens_len] at h1; exact h1)
    have HSO := Lib.hid (sortEnts_any v o _ W hown HLO.out)
    have HOWN := Lib.hid hown
    have HKO := Lib.hid hKO
    have f0 := hKO.cell 0 _ rfl
    clear he hl hown hKO
    gi_wp2_with fail
    refine ⟨trivial, (callsIn_wide.2 HSO.out).mono ?_⟩
    rintro e w2 ⟨rfl, l', hp, hpw, hown2, hg2⟩
    have HO2 := Lib.hid hown2
    have hK' := (ko_own HOWN.out.own hg2).same D _ hK rfl
    have hge := own_ge HOWN.out.own
    have f2 := (HKO.out.grown hg2 (fun e => by have := hge _ e; omega)).cell 0 _ rfl
    have hb2 := below_grown hB hg2 (fun k hk => by have := hge k hk; omega)
    have hs2 := hg2.size
    have HPE : Hid ((ens l').Perm b.bu.all) := Lib.hid (HE.out ▸ hp.map _)
    have HPW := Lib.hid hpw
    clear f0 hown2 hp hpw hge HSO
    gi_wp2
    refine ⟨by simp, .inl ⟨_, _, rfl, run_takeDeferred hK', ?_⟩⟩
    have hrow : ∀ r, some D = some r → ∃ o : Obj, w2.heap[r]? = some o ∧ o.isCells = false := fun r e => by cases e; exact ⟨_, hK', rfl⟩
    refine ⟨v, by simp [results, Tryd.results35, go_sem], v, rfl, l', HO2.out.recd (grownBy_putObj' _ D (.deferred none)) hrow, HPE.out, HPW.out, hb2.trans (belowK_b (w := W0) (by omega) _ D _ _ hD hK' rfl rfl), ?_⟩
    have := (grownBy_putObj' w2 D (.deferred none)).size
    omega
  case stop =>
    rintro D c pre W hD hpre ⟨⟩

end Go.Proofs.YteabfalklgffmaaDoor
