/-
  Scan a key's entries.
-/
import Derived.Test.YteabfalklgffmaaDoorBuf25
import Derived.Test.YteabfalklgffmaaDoorBufLaw4
set_option linter.unusedSimpArgs false
set_option linter.unusedVariables false
namespace Go.Proofs.YteabfalklgffmaaDoor
open Go.RowKit Go.Shelf
attribute [local go_sem] Oper.semAt_some

theorem okE_seq {e : En} (h : okE e = true) : 0 ≤ e.s := by
  unfold okE at h
  simp only [Bool.and_eq_true] at h
  have h1 := h.2
  unfold inB at h1
  exact (of_decide_eq_true h1).1
theorem filter_flatMap (l : List Nat) (f : Nat → List En) (p : En → Bool) : (l.flatMap f).filter p = l.flatMap fun k => (f k).filter p := by
  induction l with
  | nil => rfl
  | cons a t ih => rw [List.flatMap_cons, List.filter_append, ih, List.flatMap_cons]
attribute [-go_sem] Builtin.append_ in
set_option maxRecDepth 100000 in
set_option maxHeartbeats 16000000 in
theorem scan_any (b : Buf) (key : List UInt8) (frm upto : Int) (w : World) (hb : b.ok w) (hf : b.fit) (hm : Mx w) :
    Calls Tryd.prog 34 #[b.agg, .string (str key), .int .i64 frm, .int .i64 upto] w fun e w' => ∃ v l, e = .returned (.tuple #[v, .int .i64 (checkB b.bu)]) ∧ Ents w' v l ∧ ens l = (if checkB b.bu = 0 then scanL b.bu key frm upto else []) ∧ Below w.heap.size w w' := by
  have HO := Lib.hid hb
  have hmx : Tryd.prog.follows .mixedOrders = true := by kernel_rfl
  have HCH := Lib.hid (fun w' (h : Below w.heap.size w w') => check_any b w' (hb.below h) hf (hm.below h))
  have HGD := Lib.hid (check_zeroB (b := b.bu))
  generalize checkB b.bu = CK at HCH HGD ⊢
  generalize hSL : (if CK = 0 then scanL b.bu key frm upto else []) = SL
  unfold Buf.agg at HCH ⊢
  have hB := ((((Below.refl _ w).alloc (Nat.le_refl _) (.cells #[.int .i64 b.limit, b.vm, b.vr] 25)).alloc (by simp) (.cells #[.string (str key)] 9)).alloc (by simp; omega) (.cells #[.int .i64 frm] 3)).alloc (by simp; omega) (.cells #[.int .i64 upto] 3)
  have k0 := (((Blk.new w 25 #[.int .i64 b.limit, b.vm, b.vr]).alloc (.cells #[.string (str key)] 9)).alloc (.cells #[.int .i64 frm] 3)).alloc (.cells #[.int .i64 upto] 3)
  have k1 := ((Blk.new (w.alloc (.cells #[.int .i64 b.limit, b.vm, b.vr] 25)) 9 #[.string (str key)]).alloc (.cells #[.int .i64 frm] 3)).alloc (.cells #[.int .i64 upto] 3)
  have k2 := (Blk.new ((w.alloc (.cells #[.int .i64 b.limit, b.vm, b.vr] 25)).alloc (.cells #[.string (str key)] 9)) 3 #[.int .i64 frm]).alloc (.cells #[.int .i64 upto] 3)
  have k3 := Blk.new (((w.alloc (.cells #[.int .i64 b.limit, b.vm, b.vr] 25)).alloc (.cells #[.string (str key)] 9)).alloc (.cells #[.int .i64 frm] 3)) 3 #[.int .i64 upto]
  simp only [World.size_alloc] at k1 k2 k3
  have HK0 := Lib.hid k0
  have HK1 := Lib.hid k1
  have HK2 := Lib.hid k2
  have HK3 := Lib.hid k3
  have y0 := k0.cell 0 _ rfl
  have y1 := k0.cell 1 _ rfl
  have y2 := k0.cell 2 _ rfl
  clear hb hf hm k0 k1 k2 k3
  refine (callsIn_wide (n := 3)).1 ?_
  refine callsIn_of_wp_marks Tryd.func34 rfl trivial ?_ rfl
  simp only [Tryd.ntmps34, List.size_toArray, List.length_cons, List.length_nil, Nat.reduceAdd, Nat.reduceSub, Array.replicate_succ, Array.replicate_zero, List.push_toArray, List.append_toArray, List.nil_append, List.cons_append]
  gi_wp2_with fail
  refine ⟨trivial, (callsIn_wide.2 (HCH.out _ hB)).mono ?_⟩
  rintro e w1 ⟨rfl, hb1⟩
  have hbw1 := below_trans hB hb1
  have HA0 := Lib.hid (HK0.out.below hb1)
  have HA1 := Lib.hid (HK1.out.below hb1)
  have HA2 := Lib.hid (HK2.out.below hb1)
  have HA3 := Lib.hid (HK3.out.below hb1)
  clear HK0 HK1 HK2 HK3 y0 y1 y2 hb1 hB HCH
  by_cases hck : CK = 0
  · have HGO := Lib.hid (HGD.out.1 hck)
    have HSL : Hid (SL = scanL b.bu key frm upto) := Lib.hid (hSL.symm.trans (if_pos hck))
    subst hck
    have HE0 := Lib.hid (HA0.out.alloc (.cells #[.slice none 0 0] 22))
    have y0 := HE0.out.cell 0 _ rfl
    have y1 := HE0.out.cell 1 _ rfl
    have y2 := HE0.out.cell 2 _ rfl
    clear hSL HGD
    gi_wp2_with (refine ⟨trivial, ?_⟩; gi_at_call 19; refine (callsIn_wide.2 (parts_any b _)).mono ?_; rintro e w' ⟨rfl, rfl⟩)
    have hB0 := below_trans (below_trans hbw1 (below_alloc w1 (.cells #[.slice none 0 0] 22))) (below_alloc _ (.cells #[.int .i64 b.limit, b.vm, b.vr] 25))
    have k1 := (HA1.out.alloc (.cells #[.slice none 0 0] 22)).alloc (.cells #[.int .i64 b.limit, b.vm, b.vr] 25)
    have k2 := (HA2.out.alloc (.cells #[.slice none 0 0] 22)).alloc (.cells #[.int .i64 b.limit, b.vm, b.vr] 25)
    have k3 := (HA3.out.alloc (.cells #[.slice none 0 0] 22)).alloc (.cells #[.int .i64 b.limit, b.vm, b.vr] 25)
    have k4 := (Blk.new w1 22 #[.slice none 0 0]).alloc (.cells #[.int .i64 b.limit, b.vm, b.vr] 25)
    have k5 := Blk.new (w1.alloc (.cells #[.slice none 0 0] 22)) 25 #[.int .i64 b.limit, b.vm, b.vr]
    simp only [World.size_alloc] at k5
    obtain ⟨W0, hW0⟩ : ∃ W0, (w1.alloc (.cells #[.slice none 0 0] 22)).alloc (.cells #[.int .i64 b.limit, b.vm, b.vr] 25) = W0 := ⟨_, rfl⟩
    have hsz : W0.heap.size = w1.heap.size + 2 := by rw [← hW0]; simp
    rw [hW0] at hB0 k1 k2 k3 k4 k5 ⊢
    have hw1 := hbw1.size
    have hw13 : w.heap.size + 1 + 1 + 1 < w1.heap.size := HA3.out.lt
    clear y0 y1 y2 HE0 HA0 HA1 HA2 HA3 hW0
    have HFE := Lib.hid (fun k x (hx : x ∈ (b.part k).2) => HGO.out.ok _ (part_mem hx))
    have HALL : Hid (b.bu.all = (List.range (b.runs.length + 1)).flatMap fun k => ens (b.part k).2) := Lib.hid (pre_all b)
    have hrl := good_runs HGO.out
    have HUPK := Lib.hid (fun k => show Up (ens (b.part k).2) from by
      by_cases hk : k < b.runs.length + 1
      · exact HGO.out.up _ (by rw [parts_eq]; exact List.mem_map.2 ⟨k, List.mem_range.2 hk, rfl⟩)
      · obtain ⟨j, rfl⟩ : ∃ j, k = j + 1 := ⟨k - 1, by omega⟩
        simp only [Buf.part, List.getElem?_eq_none (l := b.runs) (i := j) (by omega), Option.getD_none]
        exact .nil)
    have hrl' : b.runs.length ≤ 1000000 := by omega
    clear hrl
    refine wpIn_rangeFunc_ownF rfl (by omega) (gf := 42) (lb := #[.pointer (some ⟨w1.heap.size + 1, 0, none⟩)]) rfl trivial (enters_of Tryd.func42 (by kernel_rfl) rfl)
      (parts_stops Fence.wide _ trivial rfl (by omega) (w1.heap.size + 1) b W0 k5 w hB0 HO.out) KpB.trans (KpB.put (by omega) (by omega)) (Below.refl _ _) (fun _ => rfl)
      (fun pre W => (∃ v o, ens o = pre.flatMap (fun k => (ens (b.part k).2).filter (scanP key frm upto)) ∧ o.length ≤ pre.length * 1000000 ∧ OwnE W (w1.heap.size + 2) v o ∧ (Blk W (w.heap.size + 1) 9 #[.string (str key)] ∧ Blk W (w.heap.size + 1 + 1) 3 #[.int .i64 frm] ∧ Blk W (w.heap.size + 1 + 1 + 1) 3 #[.int .i64 upto]) ∧ Blk W w1.heap.size 22 #[v] ∧ w1.heap.size + 2 ≤ W.heap.size) ∧ Below w.heap.size w W)
      (fun _ _ _ => False)
      (OwnFrom.and (Own.from (fun s A B row hs hg hr => by
        obtain ⟨v, o, h1, h2, h3, ⟨a1, a2, a3⟩, h4, h7⟩ := hs
        exact ⟨v, o, h1, h2, h3.recd hg hr, ⟨blk_own a1 hg hr, blk_own a2 hg hr, blk_own a3 hg hr⟩, blk_own h4 hg hr, Nat.le_trans h7 hg.size⟩) _) (ownFrom_below (Nat.le_refl _) (by omega)))
      (fun c => (fun _ _ _ _ h _ _ => h))
      ⟨⟨.slice none 0 0, [], rfl, by simp, OwnE.nil _ _, ⟨k1, k2, k3⟩, k4, by omega⟩, hB0⟩
      (fun k => { tmps := #[.agg #[.int .i64 b.limit, b.vm, b.vr], .string (str key), .int .i64 frm, .int .i64 upto, .pointer (some ⟨w.heap.size, 0, none⟩), .pointer (some ⟨w.heap.size + 1, 0, none⟩), .pointer (some ⟨w.heap.size + 1 + 1, 0, none⟩), .pointer (some ⟨w.heap.size + 1 + 1 + 1, 0, none⟩), .slice none 0 0, .int .i64 0, .int .i64 0, .pointer (some ⟨w1.heap.size, 0, none⟩), undef, (b.part k).1, undef, undef, .agg #[.int .i64 b.limit, b.vm, b.vr], .int .i64 0, .int .i64 0, .bool false, undef, .agg #[.int .i64 b.limit, b.vm, b.vr], .func (.func 42) #[] #[.pointer (some ⟨w1.heap.size + 1, 0, none⟩)], .int .i64 (idxP k), (b.part k).1, undef, undef, undef, undef, undef, undef, undef, undef, undef, undef, undef, undef, undef, undef, undef, undef, undef, undef, undef, undef, undef, undef, undef, undef, undef, undef, undef, undef, undef, undef, undef, undef, undef, undef, undef, undef, undef, undef, undef, undef, undef, undef, undef], defers := [] }) ?assign ?body ?done ?stop
    case assign =>
      intro l k W K hK
      dsimp only [encP]
      gi_wp2
      exact hK
    case body =>
      rintro l pre k W ⟨⟨v0, o0, he0, hl0, hown0, ⟨a1, a2, a3⟩, hKO, hWs⟩, hB⟩ hpre
      have HE0 := Lib.hid he0
      have HL0 := Lib.hid hl0
      have HOW0 := Lib.hid hown0
      have HA1 := Lib.hid a1
      have HA2 := Lib.hid a2
      have HA3 := Lib.hid a3
      have HKO0 := Lib.hid hKO
      have HPE := Lib.hid (HO.out.part k)
      have hpl : (b.part k).2.length ≤ 1000000 := by have h1 := part_len b k; have h2 := HGO.out.few; omega
      have HOK := Lib.hid (HFE.out k)
      have HST : Hid ((pre ++ [k]).flatMap (fun k => (ens (b.part k).2).filter (scanP key frm upto)) = ens o0 ++ (ens (b.part k).2).filter (scanP key frm upto)) := Lib.hid (by rw [List.flatMap_append, ← he0]; simp)
      have HPP := Lib.hid hpre
      have HBS := Lib.hid (bsearch_any (b.part k).1 (b.part k).2 ⟨.slice none 0 0, ⟨key, frm, -1, [], false⟩⟩ W ((HO.out.part k).below hB) hpl (HUPK.out k))
      have HUK := Lib.hid (HUPK.out k)
      have y1 := a1.cell 0 _ rfl
      have y2 := a2.cell 0 _ rfl
      unfold Ent.agg at HBS
      dsimp only at HBS
      clear he0 hl0 hown0 hKO a1 a2 a3
      generalize idxP k = n
      generalize b.part k = p at HPE hpl HST HBS HUK HOK ⊢
      obtain ⟨pv, pl⟩ := p
      simp only at HPE hpl HST HBS HUK HOK ⊢
      obtain ⟨A5, c5, rfl, hq1, hq2, -⟩ := id HPE.out.sl
      unfold maxLen at hq2
      gi_wp2_with fail
      refine ⟨trivial, (CallsIn.inRound l (callsIn_wide.2 HBS.out)).mono ?_⟩
      rintro e w2 ⟨i, is, rfl, hpos, -, hb2⟩
      have HPOS := Lib.hid hpos
      have hil : i ≤ pl.length := by have := hpos.le; rwa [ens_len] at this
      have hB2 := below_trans hB hb2
      have KO2 := Lib.hid (keeps_below hb2)
      have KP2 := Lib.hid (show KpB w.heap.size (w1.heap.size + 1) W w2 from KpB.of_below (by omega) (by omega) hb2)
      have HOW2 := Lib.hid (HOW0.out.below hb2)
      have HKO2 := Lib.hid (HKO0.out.below hb2)
      have HA12 := Lib.hid (HA1.out.below hb2)
      have HA22 := Lib.hid (HA2.out.below hb2)
      have HA32 := Lib.hid (HA3.out.below hb2)
      clear hpos hb2 y1 y2 HBS
      gi_wp2
      gi_loopw [14] (fun t wr => ∃ (j : Nat) (I : Int) (v : Value) (o : List Ent), t = .int .i64 I ∧ Hid (I = (j : Int)) ∧ i ≤ j ∧ j ≤ pl.length ∧ Hid (∀ q x, i ≤ q → q < j → (ens pl)[q]? = some x → scanQ key upto x = true) ∧ Hid (ens o = ens o0 ++ ((ens pl).take j).drop i) ∧ Hid (o.length ≤ o0.length + (j - i)) ∧ Hid (OwnE wr (w1.heap.size + 2) v o) ∧ Hid (Blk wr (w.heap.size + 1) 9 #[.string (str key)] ∧ Blk wr (w.heap.size + 1 + 1) 3 #[.int .i64 frm] ∧ Blk wr (w.heap.size + 1 + 1 + 1) 3 #[.int .i64 upto]) ∧ Hid (Blk wr w1.heap.size 22 #[v]) ∧ Hid (KeepsOthers W wr) ∧ Hid (KpB w.heap.size (w1.heap.size + 1) W wr) ∧ Below w.heap.size w wr) (fun t _ => pl.length - (intOf t).toNat)
      case atStart => exact ⟨i, i, v0, o0, rfl, Lib.hid rfl, by omega, hil, Lib.hid (fun q x h1 h2 => by omega), Lib.hid (by rw [List.drop_eq_nil_of_le (by rw [List.length_take]; omega), List.append_nil]), Lib.hid (by omega), HOW2, Lib.hid ⟨HA12.out, HA22.out, HA32.out⟩, HKO2, KO2, KP2, hB2⟩
      case round =>
        obtain ⟨j, I, v, o, rfl, HI, hij, hj, HQ, HE, HOL, HOW, HAA, HKO, HKO3, HKP, hbq⟩ := hrel
        obtain ⟨a1, a2, a3⟩ := HAA.out
        have hIn : I.toNat = j := by have := HI.out; omega
        have k0 : (0 : Int) ≤ I := by have := HI.out; omega
        have b1 := a1.cell 0 _ rfl
        have b3 := a3.cell 0 _ rfl
        clear a1 a2 a3
        have HEND : Hid ((∀ x, (ens pl)[j]? = some x → scanQ key upto x = false) → ens o = (pre ++ [k]).flatMap (fun k => (ens (b.part k).2).filter (scanP key frm upto))) := Lib.hid (fun h => by
          rw [HE.out, HST.out, scan_part HUK.out (fun x hx => by
            obtain ⟨y, hy, rfl⟩ := List.mem_map.1 hx
            exact (okE_seq (HOK.out y hy))) HPOS.out hij HQ.out h])
        have HL7 : Hid (o.length ≤ (pre ++ [k]).length * 1000000) := Lib.hid (by have h1 := HOL.out; have h2 := HL0.out; rw [List.length_append, List.length_singleton]; omega)
        have hws := HKO3.out.size
        by_cases hml : j < pl.length
        · have hx := List.getElem?_eq_getElem (l := pl) hml
          generalize pl[j] = x at hx
          have hmem := List.mem_of_getElem? hx
          have HXA := Lib.hid (ens_at hx)
          obtain ⟨g5, off5, rfl, -, hc⟩ := ent_at HPE.out.sl rfl hx
          obtain ⟨Ax, cx, hvx, -⟩ := id (HPE.out.rows x hmem)
          have HSX := Lib.hid (HPE.out.rows x hmem)
          have HXS := Lib.hid (okE_short (HOK.out x hmem))
          rw [hvx] at HSX
          simp only [hvx] at hc
          clear hvx
          have HC := Lib.hid hc
          obtain ⟨d0, d1, d2, d3, d4⟩ := hc _ hbq
          have k1 : I < (pl.length : Int) := by have := HI.out; omega
          have hwm : IntKind.i64.wrap (I + 1) = I + 1 := by rw [IntKind.wrap_i64]; have := HI.out; omega
          have HQX : Hid (scanQ key upto x.e = (((str x.e.key).toList == (str key).toList) && decide (x.e.t ≤ upto))) := Lib.hid (by unfold scanQ; rw [str_toList, str_toList])
          clear hx hmem hc
          cases h5 : (str x.e.key).toList == (str key).toList with
          | false =>
            have HF := Lib.hid (HEND.out (fun y hy => by rw [HXA.out] at hy; injection hy with hy; rw [← hy, HQX.out, h5]; rfl))
            gi_wp2_with fail
            refine regionIn_held (S := (fun w' => w'.cell? ⟨g5, off5 + j * 5, none⟩ = some (.string (str x.e.key)) ∧ w'.cell? ⟨w.heap.size + 1, 0, none⟩ = some (.string (str key)))) hmx (by kernel_rfl) (by rintro ⟨a, w, h⟩; exact h) (And.intro (d0) (b1)) (fun hHeld => ?_)
            (refine wpAnyH_take (i := 0) (oi := _) (v := ?v1) (by simp only [List.getElem?_toArray, List.getElem?_cons_succ, List.getElem?_cons_zero]; rfl) (by kernel_rfl) (by kernel_rfl) (by kernel_rfl) (by intro _ _ _ h; exact h) (Or.inl ⟨by kernel_rfl, ?hy1⟩) (by assumption) ?rest1; case hy1 => (intro w hSw; (try dsimp only at hSw); go_simp; try with_reducible rfl))
            try simp only [Act.put, List.setIfInBounds_toArray, List.set_cons_zero, List.set_cons_succ]
            (refine wpAnyH_take (i := 1) (oi := _) (v := ?v2) (by simp only [List.getElem?_toArray, List.getElem?_cons_succ, List.getElem?_cons_zero]; rfl) (by kernel_rfl) (by kernel_rfl) (by kernel_rfl) (by intro _ _ _ h; exact h) (Or.inl ⟨by kernel_rfl, ?hy2⟩) (by assumption) ?rest2; case hy2 => (intro w hSw; (try dsimp only at hSw); go_simp; try with_reducible rfl))
            try simp only [Act.put, List.setIfInBounds_toArray, List.set_cons_zero, List.set_cons_succ]
            (refine wpAnyH_take (i := 2) (oi := _) (v := ?v3) (by simp only [List.getElem?_toArray, List.getElem?_cons_succ, List.getElem?_cons_zero]; rfl) (by kernel_rfl) (by kernel_rfl) (by kernel_rfl) (by intro _ _ _ h; exact h) (Or.inl ⟨by kernel_rfl, ?hy3⟩) (by assumption) ?rest3; case hy3 => (intro w hSw; (try dsimp only at hSw); go_simp; try with_reducible rfl))
            try simp only [Act.put, List.setIfInBounds_toArray, List.set_cons_zero, List.set_cons_succ]
            (refine wpAnyH_take (i := 3) (oi := _) (v := ?v4) (by simp only [List.getElem?_toArray, List.getElem?_cons_succ, List.getElem?_cons_zero]; rfl) (by kernel_rfl) (by kernel_rfl) (by kernel_rfl) (by intro _ _ _ h; exact h) (Or.inl ⟨by kernel_rfl, ?hy4⟩) (by assumption) ?rest4; case hy4 => (intro w hSw; (try dsimp only at hSw); go_simp; try with_reducible rfl))
            try simp only [Act.put, List.setIfInBounds_toArray, List.set_cons_zero, List.set_cons_succ]
            (refine wpAnyH_take (i := 4) (oi := _) (v := ?v5) (by simp only [List.getElem?_toArray, List.getElem?_cons_succ, List.getElem?_cons_zero]; rfl) (by kernel_rfl) (by kernel_rfl) (by kernel_rfl) (by intro _ _ _ h; exact h) (Or.inl ⟨by kernel_rfl, ?hy5⟩) (by assumption) ?rest5; case hy5 => (intro w hSw; (try dsimp only at hSw); go_simp; try with_reducible rfl))
            try simp only [Act.put, List.setIfInBounds_toArray, List.set_cons_zero, List.set_cons_succ]
            (refine wpAnyH_take (i := 5) (oi := _) (v := ?v6) (by simp only [List.getElem?_toArray, List.getElem?_cons_succ, List.getElem?_cons_zero]; rfl) (by kernel_rfl) (by kernel_rfl) (by kernel_rfl) (by intro _ _ _ h; exact h) (Or.inl ⟨by kernel_rfl, ?hy6⟩) (by assumption) ?rest6; case hy6 => (intro w hSw; (try dsimp only at hSw); go_simp; try with_reducible rfl))
            try simp only [Act.put, List.setIfInBounds_toArray, List.set_cons_zero, List.set_cons_succ]
            (refine wpAnyH_take (i := 6) (oi := _) (v := ?v7) (by simp only [List.getElem?_toArray, List.getElem?_cons_succ, List.getElem?_cons_zero]; rfl) (by kernel_rfl) (by kernel_rfl) (by kernel_rfl) (by intro _ _ _ h; exact h) (Or.inl ⟨by kernel_rfl, ?hy7⟩) (by assumption) ?rest7; case hy7 => (intro w hSw; (try dsimp only at hSw); go_simp; try with_reducible rfl))
            try simp only [Act.put, List.setIfInBounds_toArray, List.set_cons_zero, List.set_cons_succ]
            (refine wpAnyH_take (i := 7) (oi := _) (v := ?v8) (by simp only [List.getElem?_toArray, List.getElem?_cons_succ, List.getElem?_cons_zero]; rfl) (by kernel_rfl) (by kernel_rfl) (by kernel_rfl) (by intro _ _ _ h; exact h) (Or.inl ⟨by kernel_rfl, ?hy8⟩) (by assumption) ?rest8; case hy8 => (intro w hSw; (try dsimp only at hSw); go_simp; try with_reducible rfl))
            try simp only [Act.put, List.setIfInBounds_toArray, List.set_cons_zero, List.set_cons_succ]
            (refine wpAnyH_take (i := 8) (oi := _) (v := ?v9) (by simp only [List.getElem?_toArray, List.getElem?_cons_succ, List.getElem?_cons_zero]; rfl) (by kernel_rfl) (by kernel_rfl) (by kernel_rfl) (by intro _ _ _ h; exact h) (Or.inl ⟨by kernel_rfl, ?hy9⟩) (by assumption) ?rest9; case hy9 => (intro w hSw; (try dsimp only at hSw); go_simp; try with_reducible rfl))
            try simp only [Act.put, List.setIfInBounds_toArray, List.set_cons_zero, List.set_cons_succ]
            (refine wpAnyH_take (i := 9) (oi := _) (v := ?v10) (by simp only [List.getElem?_toArray, List.getElem?_cons_succ, List.getElem?_cons_zero]; rfl) (by kernel_rfl) (by kernel_rfl) (by kernel_rfl) (by intro _ _ _ h; exact h) (Or.inl ⟨by kernel_rfl, ?hy10⟩) (by assumption) ?rest10; case hy10 => (intro w hSw; (try dsimp only at hSw); go_simp; try with_reducible rfl))
            try simp only [Act.put, List.setIfInBounds_toArray, List.set_cons_zero, List.set_cons_succ]
            (refine wpAnyH_take (i := 10) (oi := _) (v := ?v11) (by simp only [List.getElem?_toArray, List.getElem?_cons_succ, List.getElem?_cons_zero]; rfl) (by kernel_rfl) (by kernel_rfl) (by kernel_rfl) (by intro _ _ _ h; exact h) (Or.inl ⟨by kernel_rfl, ?hy11⟩) (by assumption) ?rest11; case hy11 => (intro w hSw; (try dsimp only at hSw); go_simp; try with_reducible rfl))
            try simp only [Act.put, List.setIfInBounds_toArray, List.set_cons_zero, List.set_cons_succ]
            (refine wpAnyH_take (i := 11) (oi := _) (v := ?v12) (by simp only [List.getElem?_toArray, List.getElem?_cons_succ, List.getElem?_cons_zero]; rfl) (by kernel_rfl) (by kernel_rfl) (by kernel_rfl) (by intro _ _ _ h; exact h) (Or.inl ⟨by kernel_rfl, ?hy12⟩) (by assumption) ?rest12; case hy12 => (intro w hSw; (try dsimp only at hSw); go_simp; try with_reducible rfl))
            try simp only [Act.put, List.setIfInBounds_toArray, List.set_cons_zero, List.set_cons_succ]
            (refine wpAnyH_take (i := 12) (oi := _) (v := ?v13) (by simp only [List.getElem?_toArray, List.getElem?_cons_succ, List.getElem?_cons_zero]; rfl) (by kernel_rfl) (by kernel_rfl) (by kernel_rfl) (by intro _ _ _ h; exact h) (Or.inl ⟨by kernel_rfl, ?hy13⟩) (by assumption) ?rest13; case hy13 => (intro w hSw; (try dsimp only at hSw); go_simp; try with_reducible rfl))
            try simp only [Act.put, List.setIfInBounds_toArray, List.set_cons_zero, List.set_cons_succ]
            (refine wpAnyH_take (i := 13) (oi := _) (v := ?v14) (by simp only [List.getElem?_toArray, List.getElem?_cons_succ, List.getElem?_cons_zero]; rfl) (by kernel_rfl) (by kernel_rfl) (by kernel_rfl) (by intro _ _ _ h; exact h) (Or.inl ⟨by kernel_rfl, ?hy14⟩) (by assumption) ?rest14; case hy14 => (intro w hSw; (try dsimp only at hSw); go_simp; try with_reducible rfl))
            try simp only [Act.put, List.setIfInBounds_toArray, List.set_cons_zero, List.set_cons_succ]
            (refine wpAnyH_take (i := 14) (oi := _) (v := _) (by simp only [List.getElem?_toArray, List.getElem?_cons_succ, List.getElem?_cons_zero]; rfl) (by kernel_rfl) (by kernel_rfl) (by kernel_rfl) (by intro _ _ _ h; exact h) (Or.inr ⟨by kernel_rfl, rfl⟩) (by assumption) ?_)
            try simp only [Act.put, List.setIfInBounds_toArray, List.set_cons_zero, List.set_cons_succ]
            (refine wpAnyH_take (i := 15) (oi := _) (v := _) (by simp only [List.getElem?_toArray, List.getElem?_cons_succ, List.getElem?_cons_zero]; rfl) (by kernel_rfl) (by kernel_rfl) (by kernel_rfl) (by intro _ _ _ h; exact h) (Or.inr ⟨by kernel_rfl, rfl⟩) (by assumption) ?_)
            try simp only [Act.put, List.setIfInBounds_toArray, List.set_cons_zero, List.set_cons_succ]
            (refine wpAnyH_take (i := 16) (oi := _) (v := _) (by simp only [List.getElem?_toArray, List.getElem?_cons_succ, List.getElem?_cons_zero]; rfl) (by kernel_rfl) (by kernel_rfl) (by kernel_rfl) (by intro _ _ _ h; exact h) (Or.inr ⟨by kernel_rfl, rfl⟩) (by assumption) ?_)
            try simp only [Act.put, List.setIfInBounds_toArray, List.set_cons_zero, List.set_cons_succ]
            (refine wpAnyH_take (i := 17) (oi := _) (v := _) (by simp only [List.getElem?_toArray, List.getElem?_cons_succ, List.getElem?_cons_zero]; rfl) (by kernel_rfl) (by kernel_rfl) (by kernel_rfl) (by intro _ _ _ h; exact h) (Or.inr ⟨by kernel_rfl, rfl⟩) (by assumption) ?_)
            try simp only [Act.put, List.setIfInBounds_toArray, List.set_cons_zero, List.set_cons_succ]
            (refine wpAnyH_take (i := 18) (oi := _) (v := _) (by simp only [List.getElem?_toArray, List.getElem?_cons_succ, List.getElem?_cons_zero]; rfl) (by kernel_rfl) (by kernel_rfl) (by kernel_rfl) (by intro _ _ _ h; exact h) (Or.inr ⟨by kernel_rfl, rfl⟩) (by assumption) ?_)
            try simp only [Act.put, List.setIfInBounds_toArray, List.set_cons_zero, List.set_cons_succ]
            (refine wpAnyH_take (i := 19) (oi := _) (v := _) (by simp only [List.getElem?_toArray, List.getElem?_cons_succ, List.getElem?_cons_zero]; rfl) (by kernel_rfl) (by kernel_rfl) (by kernel_rfl) (by intro _ _ _ h; exact h) (Or.inr ⟨by kernel_rfl, rfl⟩) (by assumption) ?_)
            try simp only [Act.put, List.setIfInBounds_toArray, List.set_cons_zero, List.set_cons_succ]
            (refine wpAnyH_take (i := 20) (oi := _) (v := _) (by simp only [List.getElem?_toArray, List.getElem?_cons_succ, List.getElem?_cons_zero]; rfl) (by kernel_rfl) (by kernel_rfl) (by kernel_rfl) (by intro _ _ _ h; exact h) (Or.inr ⟨by kernel_rfl, rfl⟩) (by assumption) ?_)
            try simp only [Act.put, List.setIfInBounds_toArray, List.set_cons_zero, List.set_cons_succ]
            (refine wpAnyH_take (i := 21) (oi := _) (v := ?v22) (by simp only [List.getElem?_toArray, List.getElem?_cons_succ, List.getElem?_cons_zero]; rfl) (by kernel_rfl) (by kernel_rfl) (by kernel_rfl) (by intro _ _ _ h; exact h) (Or.inl ⟨by kernel_rfl, ?hy22⟩) (by assumption) ?rest22; case hy22 => (intro w hSw; (try dsimp only at hSw); go_simp; try with_reducible rfl))
            try simp only [Act.put, List.setIfInBounds_toArray, List.set_cons_zero, List.set_cons_succ]
            refine wpAnyH_done (by kernel_rfl) ?_ _
            gi_wp2
            exact ⟨(HKO3.out).trans (KeepsOthers.drew _), (HKP.out).trans (KpB.of_below (by omega) (by omega) (Below.refl _ _).drew), ⟨v, o, HF.out, HL7.out, HOW.out.drew, HAA.out, HKO.out, by show w1.heap.size + 2 ≤ wr.heap.size; omega⟩, hbq.drew⟩
          | true =>
            by_cases ht : x.e.t ≤ upto
            · have HQ2 : Hid (∀ q y, i ≤ q → q < j + 1 → (ens pl)[q]? = some y → scanQ key upto y = true) := Lib.hid (fun q y h1 h2 hy => by
                by_cases e : q = j
                · subst e
                  rw [HXA.out] at hy
                  injection hy with hy
                  rw [← hy, HQX.out, h5, decide_eq_true ht]; rfl
                · exact HQ.out q y h1 (by omega) hy)
              have HTK : Hid (((ens pl).take (j + 1)).drop i = ((ens pl).take j).drop i ++ [x.e]) := Lib.hid (by rw [List.take_add_one, HXA.out, List.drop_append_of_le_length (by rw [List.length_take, ens_len]; omega)]; rfl)
              gi_wp2_with fail
              refine regionIn_held (S := (fun w' => w'.cell? ⟨g5, off5 + j * 5, none⟩ = some (.string (str x.e.key)) ∧ w'.cell? ⟨w.heap.size + 1, 0, none⟩ = some (.string (str key)) ∧ w'.cell? ⟨g5, off5 + j * 5 + 1, none⟩ = some (.int .i64 x.e.t) ∧ w'.cell? ⟨w.heap.size + 1 + 1 + 1, 0, none⟩ = some (.int .i64 upto))) hmx (by kernel_rfl) (by rintro ⟨a, w, h⟩; exact h) (And.intro (d0) (And.intro (b1) (And.intro (d1) (b3)))) (fun hHeld => ?_)
              (refine wpAnyH_take (i := 0) (oi := _) (v := ?v23) (by simp only [List.getElem?_toArray, List.getElem?_cons_succ, List.getElem?_cons_zero]; rfl) (by kernel_rfl) (by kernel_rfl) (by kernel_rfl) (by intro _ _ _ h; exact h) (Or.inl ⟨by kernel_rfl, ?hy23⟩) (by assumption) ?rest23; case hy23 => (intro w hSw; (try dsimp only at hSw); go_simp; try with_reducible rfl))
              try simp only [Act.put, List.setIfInBounds_toArray, List.set_cons_zero, List.set_cons_succ]
              (refine wpAnyH_take (i := 1) (oi := _) (v := ?v24) (by simp only [List.getElem?_toArray, List.getElem?_cons_succ, List.getElem?_cons_zero]; rfl) (by kernel_rfl) (by kernel_rfl) (by kernel_rfl) (by intro _ _ _ h; exact h) (Or.inl ⟨by kernel_rfl, ?hy24⟩) (by assumption) ?rest24; case hy24 => (intro w hSw; (try dsimp only at hSw); go_simp; try with_reducible rfl))
              try simp only [Act.put, List.setIfInBounds_toArray, List.set_cons_zero, List.set_cons_succ]
              (refine wpAnyH_take (i := 2) (oi := _) (v := ?v25) (by simp only [List.getElem?_toArray, List.getElem?_cons_succ, List.getElem?_cons_zero]; rfl) (by kernel_rfl) (by kernel_rfl) (by kernel_rfl) (by intro _ _ _ h; exact h) (Or.inl ⟨by kernel_rfl, ?hy25⟩) (by assumption) ?rest25; case hy25 => (intro w hSw; (try dsimp only at hSw); go_simp; try with_reducible rfl))
              try simp only [Act.put, List.setIfInBounds_toArray, List.set_cons_zero, List.set_cons_succ]
              (refine wpAnyH_take (i := 3) (oi := _) (v := ?v26) (by simp only [List.getElem?_toArray, List.getElem?_cons_succ, List.getElem?_cons_zero]; rfl) (by kernel_rfl) (by kernel_rfl) (by kernel_rfl) (by intro _ _ _ h; exact h) (Or.inl ⟨by kernel_rfl, ?hy26⟩) (by assumption) ?rest26; case hy26 => (intro w hSw; (try dsimp only at hSw); go_simp; try with_reducible rfl))
              try simp only [Act.put, List.setIfInBounds_toArray, List.set_cons_zero, List.set_cons_succ]
              (refine wpAnyH_take (i := 4) (oi := _) (v := ?v27) (by simp only [List.getElem?_toArray, List.getElem?_cons_succ, List.getElem?_cons_zero]; rfl) (by kernel_rfl) (by kernel_rfl) (by kernel_rfl) (by intro _ _ _ h; exact h) (Or.inl ⟨by kernel_rfl, ?hy27⟩) (by assumption) ?rest27; case hy27 => (intro w hSw; (try dsimp only at hSw); go_simp; try with_reducible rfl))
              try simp only [Act.put, List.setIfInBounds_toArray, List.set_cons_zero, List.set_cons_succ]
              (refine wpAnyH_take (i := 5) (oi := _) (v := ?v28) (by simp only [List.getElem?_toArray, List.getElem?_cons_succ, List.getElem?_cons_zero]; rfl) (by kernel_rfl) (by kernel_rfl) (by kernel_rfl) (by intro _ _ _ h; exact h) (Or.inl ⟨by kernel_rfl, ?hy28⟩) (by assumption) ?rest28; case hy28 => (intro w hSw; (try dsimp only at hSw); go_simp; try with_reducible rfl))
              try simp only [Act.put, List.setIfInBounds_toArray, List.set_cons_zero, List.set_cons_succ]
              (refine wpAnyH_take (i := 6) (oi := _) (v := ?v29) (by simp only [List.getElem?_toArray, List.getElem?_cons_succ, List.getElem?_cons_zero]; rfl) (by kernel_rfl) (by kernel_rfl) (by kernel_rfl) (by intro _ _ _ h; exact h) (Or.inl ⟨by kernel_rfl, ?hy29⟩) (by assumption) ?rest29; case hy29 => (intro w hSw; (try dsimp only at hSw); go_simp; try with_reducible rfl))
              try simp only [Act.put, List.setIfInBounds_toArray, List.set_cons_zero, List.set_cons_succ]
              (refine wpAnyH_take (i := 7) (oi := _) (v := ?v30) (by simp only [List.getElem?_toArray, List.getElem?_cons_succ, List.getElem?_cons_zero]; rfl) (by kernel_rfl) (by kernel_rfl) (by kernel_rfl) (by intro _ _ _ h; exact h) (Or.inl ⟨by kernel_rfl, ?hy30⟩) (by assumption) ?rest30; case hy30 => (intro w hSw; (try dsimp only at hSw); go_simp; try with_reducible rfl))
              try simp only [Act.put, List.setIfInBounds_toArray, List.set_cons_zero, List.set_cons_succ]
              (refine wpAnyH_take (i := 8) (oi := _) (v := ?v31) (by simp only [List.getElem?_toArray, List.getElem?_cons_succ, List.getElem?_cons_zero]; rfl) (by kernel_rfl) (by kernel_rfl) (by kernel_rfl) (by intro _ _ _ h; exact h) (Or.inl ⟨by kernel_rfl, ?hy31⟩) (by assumption) ?rest31; case hy31 => (intro w hSw; (try dsimp only at hSw); go_simp; try with_reducible rfl))
              try simp only [Act.put, List.setIfInBounds_toArray, List.set_cons_zero, List.set_cons_succ]
              (refine wpAnyH_take (i := 9) (oi := _) (v := ?v32) (by simp only [List.getElem?_toArray, List.getElem?_cons_succ, List.getElem?_cons_zero]; rfl) (by kernel_rfl) (by kernel_rfl) (by kernel_rfl) (by intro _ _ _ h; exact h) (Or.inl ⟨by kernel_rfl, ?hy32⟩) (by assumption) ?rest32; case hy32 => (intro w hSw; (try dsimp only at hSw); go_simp; try with_reducible rfl))
              try simp only [Act.put, List.setIfInBounds_toArray, List.set_cons_zero, List.set_cons_succ]
              (refine wpAnyH_take (i := 10) (oi := _) (v := ?v33) (by simp only [List.getElem?_toArray, List.getElem?_cons_succ, List.getElem?_cons_zero]; rfl) (by kernel_rfl) (by kernel_rfl) (by kernel_rfl) (by intro _ _ _ h; exact h) (Or.inl ⟨by kernel_rfl, ?hy33⟩) (by assumption) ?rest33; case hy33 => (intro w hSw; (try dsimp only at hSw); go_simp; try with_reducible rfl))
              try simp only [Act.put, List.setIfInBounds_toArray, List.set_cons_zero, List.set_cons_succ]
              (refine wpAnyH_take (i := 11) (oi := _) (v := ?v34) (by simp only [List.getElem?_toArray, List.getElem?_cons_succ, List.getElem?_cons_zero]; rfl) (by kernel_rfl) (by kernel_rfl) (by kernel_rfl) (by intro _ _ _ h; exact h) (Or.inl ⟨by kernel_rfl, ?hy34⟩) (by assumption) ?rest34; case hy34 => (intro w hSw; (try dsimp only at hSw); go_simp; try with_reducible rfl))
              try simp only [Act.put, List.setIfInBounds_toArray, List.set_cons_zero, List.set_cons_succ]
              (refine wpAnyH_take (i := 12) (oi := _) (v := ?v35) (by simp only [List.getElem?_toArray, List.getElem?_cons_succ, List.getElem?_cons_zero]; rfl) (by kernel_rfl) (by kernel_rfl) (by kernel_rfl) (by intro _ _ _ h; exact h) (Or.inl ⟨by kernel_rfl, ?hy35⟩) (by assumption) ?rest35; case hy35 => (intro w hSw; (try dsimp only at hSw); go_simp; try with_reducible rfl))
              try simp only [Act.put, List.setIfInBounds_toArray, List.set_cons_zero, List.set_cons_succ]
              (refine wpAnyH_take (i := 13) (oi := _) (v := ?v36) (by simp only [List.getElem?_toArray, List.getElem?_cons_succ, List.getElem?_cons_zero]; rfl) (by kernel_rfl) (by kernel_rfl) (by kernel_rfl) (by intro _ _ _ h; exact h) (Or.inl ⟨by kernel_rfl, ?hy36⟩) (by assumption) ?rest36; case hy36 => (intro w hSw; (try dsimp only at hSw); go_simp; try with_reducible rfl))
              try simp only [Act.put, List.setIfInBounds_toArray, List.set_cons_zero, List.set_cons_succ]
              (refine wpAnyH_take (i := 14) (oi := _) (v := ?v37) (by simp only [List.getElem?_toArray, List.getElem?_cons_succ, List.getElem?_cons_zero]; rfl) (by kernel_rfl) (by kernel_rfl) (by kernel_rfl) (by intro _ _ _ h; exact h) (Or.inl ⟨by kernel_rfl, ?hy37⟩) (by assumption) ?rest37; case hy37 => (intro w hSw; (try dsimp only at hSw); go_simp; try with_reducible rfl))
              try simp only [Act.put, List.setIfInBounds_toArray, List.set_cons_zero, List.set_cons_succ]
              (refine wpAnyH_take (i := 15) (oi := _) (v := ?v38) (by simp only [List.getElem?_toArray, List.getElem?_cons_succ, List.getElem?_cons_zero]; rfl) (by kernel_rfl) (by kernel_rfl) (by kernel_rfl) (by intro _ _ _ h; exact h) (Or.inl ⟨by kernel_rfl, ?hy38⟩) (by assumption) ?rest38; case hy38 => (intro w hSw; (try dsimp only at hSw); go_simp; try with_reducible rfl))
              try simp only [Act.put, List.setIfInBounds_toArray, List.set_cons_zero, List.set_cons_succ]
              (refine wpAnyH_take (i := 16) (oi := _) (v := ?v39) (by simp only [List.getElem?_toArray, List.getElem?_cons_succ, List.getElem?_cons_zero]; rfl) (by kernel_rfl) (by kernel_rfl) (by kernel_rfl) (by intro _ _ _ h; exact h) (Or.inl ⟨by kernel_rfl, ?hy39⟩) (by assumption) ?rest39; case hy39 => (intro w hSw; (try dsimp only at hSw); go_simp; try with_reducible rfl))
              try simp only [Act.put, List.setIfInBounds_toArray, List.set_cons_zero, List.set_cons_succ]
              (refine wpAnyH_take (i := 17) (oi := _) (v := ?v40) (by simp only [List.getElem?_toArray, List.getElem?_cons_succ, List.getElem?_cons_zero]; rfl) (by kernel_rfl) (by kernel_rfl) (by kernel_rfl) (by intro _ _ _ h; exact h) (Or.inl ⟨by kernel_rfl, ?hy40⟩) (by assumption) ?rest40; case hy40 => (intro w hSw; (try dsimp only at hSw); go_simp; try with_reducible rfl))
              try simp only [Act.put, List.setIfInBounds_toArray, List.set_cons_zero, List.set_cons_succ]
              (refine wpAnyH_take (i := 18) (oi := _) (v := ?v41) (by simp only [List.getElem?_toArray, List.getElem?_cons_succ, List.getElem?_cons_zero]; rfl) (by kernel_rfl) (by kernel_rfl) (by kernel_rfl) (by intro _ _ _ h; exact h) (Or.inl ⟨by kernel_rfl, ?hy41⟩) (by assumption) ?rest41; case hy41 => (intro w hSw; (try dsimp only at hSw); go_simp; try with_reducible rfl))
              try simp only [Act.put, List.setIfInBounds_toArray, List.set_cons_zero, List.set_cons_succ]
              (refine wpAnyH_take (i := 19) (oi := _) (v := ?v42) (by simp only [List.getElem?_toArray, List.getElem?_cons_succ, List.getElem?_cons_zero]; rfl) (by kernel_rfl) (by kernel_rfl) (by kernel_rfl) (by intro _ _ _ h; exact h) (Or.inl ⟨by kernel_rfl, ?hy42⟩) (by assumption) ?rest42; case hy42 => (intro w hSw; (try dsimp only at hSw); go_simp; try with_reducible rfl))
              try simp only [Act.put, List.setIfInBounds_toArray, List.set_cons_zero, List.set_cons_succ]
              (refine wpAnyH_take (i := 20) (oi := _) (v := ?v43) (by simp only [List.getElem?_toArray, List.getElem?_cons_succ, List.getElem?_cons_zero]; rfl) (by kernel_rfl) (by kernel_rfl) (by kernel_rfl) (by intro _ _ _ h; exact h) (Or.inl ⟨by kernel_rfl, ?hy43⟩) (by assumption) ?rest43; case hy43 => (intro w hSw; (try dsimp only at hSw); go_simp; try with_reducible rfl))
              try simp only [Act.put, List.setIfInBounds_toArray, List.set_cons_zero, List.set_cons_succ]
              (refine wpAnyH_take (i := 21) (oi := _) (v := ?v44) (by simp only [List.getElem?_toArray, List.getElem?_cons_succ, List.getElem?_cons_zero]; rfl) (by kernel_rfl) (by kernel_rfl) (by kernel_rfl) (by intro _ _ _ h; exact h) (Or.inl ⟨by kernel_rfl, ?hy44⟩) (by assumption) ?rest44; case hy44 => (intro w hSw; (try dsimp only at hSw); go_simp; try with_reducible rfl))
              try simp only [Act.put, List.setIfInBounds_toArray, List.set_cons_zero, List.set_cons_succ]
              refine wpAnyH_done (by kernel_rfl) ?_ _
              have hbq' := hbq.drew
              obtain ⟨d0, d1, d2, d3, d4⟩ := HC.out _ hbq'
              have f0 := (HKO.out.drew).cell 0 _ rfl
              have HOB : Hid (o.length ≤ 1000002000000) := Lib.hid (by have h1 := HOL.out; have h2 := HL0.out; have h3 := HPP.out; omega)
              have HOE := Lib.hid (own_ent ⟨.slice Ax x.e.r.length cx, x.e⟩ _ (HSX.out.below hbq'.drew) HXS.out)
              unfold Ent.agg at HOE
              dsimp only at HOE
              gi_wp2_with fail
              gi_region_with_o (first
                | (refine ⟨trivial, (CallsIn.inRound l (callsIn_wide.2 HOE.out)).mono ?_⟩
                   rintro e w4 ⟨cv, rfl, hcv, hcf, hb4⟩
                   obtain ⟨Ac, cc, rfl, -⟩ := id hcv
                   have hb4' : Below wr.heap.size wr w4 := ((Below.refl _ wr).drew.drew).trans hb4
                   have HOW4 := ((HOW.out.below hb4')).alloc (.cells #[.string (str x.e.key), .int .i64 x.e.t, .int .i64 x.e.s, .slice Ac x.e.r.length cc, .bool x.e.met] 28)
                   have HS1 := one_ent w4 ⟨.slice Ac x.e.r.length cc, x.e⟩
                   have HON := ent_one (c := ⟨.slice Ac x.e.r.length cc, x.e⟩) hcv
                   have KO4 := Lib.hid ((HKO.out.below hb4').alloc (.cells #[.string (str x.e.key), .int .i64 x.e.t, .int .i64 x.e.s, .slice Ac x.e.r.length cc, .bool x.e.met] 28))
                   have f1 := (HKO.out.below hb4').cell 0 _ rfl
                   have f2 := KO4.out.cell 0 _ rfl
                   have hs4 := hb4'.size
                   obtain ⟨c0, c1, c2, c3, c4⟩ := HC.out _ (below_trans hbq hb4')
                   obtain ⟨v7, w7, hrun, hown7, hg7, hat7⟩ := run_app (P := Tryd.prog) (w1.heap.size + 2) 22 22 28 5 64 Tryd.underlying22 entI v o.length _ HOW4.own _ 1 (Ent.cells ⟨.slice Ac x.e.r.length cc, x.e⟩) HS1 rfl HON (by unfold maxLen; have := HOB.out; omega) (by have := HOB.out; omega) (by simp; omega)
                   have q7 := (KO4.out.grown hg7 (fun e => by have := own_ge HOW4.own _ e; omega)).cell 0 _ rfl
                   have e7 := (KO4.out.grown hg7 (fun e => by have := own_ge HOW4.own _ e; omega)).free 0
                   obtain ⟨A7, c7, rfl, -⟩ := Sl.of_own hown7)
                | fail)
              all_goals
                have hw4 := below_trans hb4' (below_alloc w4 (.cells #[.string (str x.e.key), .int .i64 x.e.t, .int .i64 x.e.s, .slice Ac x.e.r.length cc, .bool x.e.met] 28))
                have S4 := hcv.below (below_alloc w4 (.cells #[.string (str x.e.key), .int .i64 x.e.t, .int .i64 x.e.s, .slice Ac x.e.r.length cc, .bool x.e.met] 28))
                have H7 := HOW4.snoc (c := ⟨.slice Ac x.e.r.length cc, x.e⟩) hown7 hg7 hat7 S4 (fun k hk => ⟨by have h1 := (hcf k hk).1; have h2 : wr.heap.size ≤ k := h1; omega, by have := (hcf k hk).2; simp; omega, fun e => by
                  have h1 := (HOW.out.range (.inl e)).2
                  have h2 : wr.heap.size ≤ k := (hcf k hk).1
                  omega⟩)
                have H8 := Lib.hid (H7.set (p := ⟨w1.heap.size, 0, none⟩) (by show w1.heap.size < w1.heap.size + 2; omega) (.slice A7 (o.length + 1) c7))
                have hge := own_ge HOW4.own
                have K8 := Lib.hid ((KO4.out.grown hg7 (fun e => by have := hge _ e; omega)).set_ 0 (.slice A7 (o.length + 1) c7))
                have HA8 : Hid (Blk (w7.setCell ⟨w1.heap.size, 0, none⟩ (.slice A7 (o.length + 1) c7)) (w.heap.size + 1) 9 #[.string (str key)] ∧ Blk (w7.setCell ⟨w1.heap.size, 0, none⟩ (.slice A7 (o.length + 1) c7)) (w.heap.size + 1 + 1) 3 #[.int .i64 frm] ∧ Blk (w7.setCell ⟨w1.heap.size, 0, none⟩ (.slice A7 (o.length + 1) c7)) (w.heap.size + 1 + 1 + 1) 3 #[.int .i64 upto]) := Lib.hid
                  ⟨((HAA.out.1.below hw4).grown hg7 (fun e => by have := hge _ e; omega)).far (by show w.heap.size + 1 ≠ w1.heap.size; omega) _, ((HAA.out.2.1.below hw4).grown hg7 (fun e => by have := hge _ e; omega)).far (by show w.heap.size + 1 + 1 ≠ w1.heap.size; omega) _, ((HAA.out.2.2.below hw4).grown hg7 (fun e => by have := hge _ e; omega)).far (by show w.heap.size + 1 + 1 + 1 ≠ w1.heap.size; omega) _⟩
                have hb8 := (below_grown (below_trans hbq hw4) hg7 (fun k hk => by have := hge k hk; omega)).setCell (p := ⟨w1.heap.size, 0, none⟩) (by show w.heap.size ≤ w1.heap.size; omega) (.slice A7 (o.length + 1) c7)
                have KO8 := Lib.hid (((HKO3.out.trans (keeps_below hw4)).trans (ko_own HOW4.own hg7)).trans (KeepsOthers.setCell w7 ⟨w1.heap.size, 0, none⟩ (.slice A7 (o.length + 1) c7)))
                have KP8 := Lib.hid (((HKP.out.trans (KpB.of_below (by omega) (by omega) hw4)).trans (kp_grown hg7 (by simp; omega) (by simp; omega) (fun k hk => by have := hge k hk; omega))).set (p := ⟨w1.heap.size, 0, none⟩) (by show w.heap.size ≤ w1.heap.size; omega) (by show w1.heap.size + 1 ≠ w1.heap.size; omega) (.slice A7 (o.length + 1) c7))
                have HE7 : Hid (ens (o ++ [(⟨.slice Ac x.e.r.length cc, x.e⟩ : Ent)]) = ens o0 ++ ((ens pl).take (j + 1)).drop i) := Lib.hid (by rw [ens_snoc, HE.out, HTK.out, List.append_assoc])
                have HL8 : Hid ((o ++ [(⟨.slice Ac x.e.r.length cc, x.e⟩ : Ent)]).length ≤ o0.length + (j + 1 - i)) := Lib.hid (by have := HOL.out; simp; omega)
                clear hw4 S4 H7 hge hown7 hg7 hat7 HOW4 HS1 HON hcv hcf hb4 hb4' hrun c0 c1 c2 c3 c4
                gi_wp2
                go_roundw
                case rel => exact ⟨j + 1, I + 1, _, _, rfl, Lib.hid (by have := HI.out; omega), by omega, by omega, HQ2, HE7, HL8, H8, HA8, K8, KO8, KP8, hb8⟩
                case measure => have := HI.out; simp [intOf]; omega
            · have HF := Lib.hid (HEND.out (fun y hy => by rw [HXA.out] at hy; injection hy with hy; rw [← hy, HQX.out, decide_eq_false ht, Bool.and_false]))
              gi_wp2_with fail
              refine regionIn_held (S := (fun w' => w'.cell? ⟨g5, off5 + j * 5, none⟩ = some (.string (str x.e.key)) ∧ w'.cell? ⟨w.heap.size + 1, 0, none⟩ = some (.string (str key)) ∧ w'.cell? ⟨g5, off5 + j * 5 + 1, none⟩ = some (.int .i64 x.e.t) ∧ w'.cell? ⟨w.heap.size + 1 + 1 + 1, 0, none⟩ = some (.int .i64 upto))) hmx (by kernel_rfl) (by rintro ⟨a, w, h⟩; exact h) (And.intro (d0) (And.intro (b1) (And.intro (d1) (b3)))) (fun hHeld => ?_)
              (refine wpAnyH_take (i := 0) (oi := _) (v := ?v45) (by simp only [List.getElem?_toArray, List.getElem?_cons_succ, List.getElem?_cons_zero]; rfl) (by kernel_rfl) (by kernel_rfl) (by kernel_rfl) (by intro _ _ _ h; exact h) (Or.inl ⟨by kernel_rfl, ?hy45⟩) (by assumption) ?rest45; case hy45 => (intro w hSw; (try dsimp only at hSw); go_simp; try with_reducible rfl))
              try simp only [Act.put, List.setIfInBounds_toArray, List.set_cons_zero, List.set_cons_succ]
              (refine wpAnyH_take (i := 1) (oi := _) (v := ?v46) (by simp only [List.getElem?_toArray, List.getElem?_cons_succ, List.getElem?_cons_zero]; rfl) (by kernel_rfl) (by kernel_rfl) (by kernel_rfl) (by intro _ _ _ h; exact h) (Or.inl ⟨by kernel_rfl, ?hy46⟩) (by assumption) ?rest46; case hy46 => (intro w hSw; (try dsimp only at hSw); go_simp; try with_reducible rfl))
              try simp only [Act.put, List.setIfInBounds_toArray, List.set_cons_zero, List.set_cons_succ]
              (refine wpAnyH_take (i := 2) (oi := _) (v := ?v47) (by simp only [List.getElem?_toArray, List.getElem?_cons_succ, List.getElem?_cons_zero]; rfl) (by kernel_rfl) (by kernel_rfl) (by kernel_rfl) (by intro _ _ _ h; exact h) (Or.inl ⟨by kernel_rfl, ?hy47⟩) (by assumption) ?rest47; case hy47 => (intro w hSw; (try dsimp only at hSw); go_simp; try with_reducible rfl))
              try simp only [Act.put, List.setIfInBounds_toArray, List.set_cons_zero, List.set_cons_succ]
              (refine wpAnyH_take (i := 3) (oi := _) (v := ?v48) (by simp only [List.getElem?_toArray, List.getElem?_cons_succ, List.getElem?_cons_zero]; rfl) (by kernel_rfl) (by kernel_rfl) (by kernel_rfl) (by intro _ _ _ h; exact h) (Or.inl ⟨by kernel_rfl, ?hy48⟩) (by assumption) ?rest48; case hy48 => (intro w hSw; (try dsimp only at hSw); go_simp; try with_reducible rfl))
              try simp only [Act.put, List.setIfInBounds_toArray, List.set_cons_zero, List.set_cons_succ]
              (refine wpAnyH_take (i := 4) (oi := _) (v := ?v49) (by simp only [List.getElem?_toArray, List.getElem?_cons_succ, List.getElem?_cons_zero]; rfl) (by kernel_rfl) (by kernel_rfl) (by kernel_rfl) (by intro _ _ _ h; exact h) (Or.inl ⟨by kernel_rfl, ?hy49⟩) (by assumption) ?rest49; case hy49 => (intro w hSw; (try dsimp only at hSw); go_simp; try with_reducible rfl))
              try simp only [Act.put, List.setIfInBounds_toArray, List.set_cons_zero, List.set_cons_succ]
              (refine wpAnyH_take (i := 5) (oi := _) (v := ?v50) (by simp only [List.getElem?_toArray, List.getElem?_cons_succ, List.getElem?_cons_zero]; rfl) (by kernel_rfl) (by kernel_rfl) (by kernel_rfl) (by intro _ _ _ h; exact h) (Or.inl ⟨by kernel_rfl, ?hy50⟩) (by assumption) ?rest50; case hy50 => (intro w hSw; (try dsimp only at hSw); go_simp; try with_reducible rfl))
              try simp only [Act.put, List.setIfInBounds_toArray, List.set_cons_zero, List.set_cons_succ]
              (refine wpAnyH_take (i := 6) (oi := _) (v := ?v51) (by simp only [List.getElem?_toArray, List.getElem?_cons_succ, List.getElem?_cons_zero]; rfl) (by kernel_rfl) (by kernel_rfl) (by kernel_rfl) (by intro _ _ _ h; exact h) (Or.inl ⟨by kernel_rfl, ?hy51⟩) (by assumption) ?rest51; case hy51 => (intro w hSw; (try dsimp only at hSw); go_simp; try with_reducible rfl))
              try simp only [Act.put, List.setIfInBounds_toArray, List.set_cons_zero, List.set_cons_succ]
              (refine wpAnyH_take (i := 7) (oi := _) (v := ?v52) (by simp only [List.getElem?_toArray, List.getElem?_cons_succ, List.getElem?_cons_zero]; rfl) (by kernel_rfl) (by kernel_rfl) (by kernel_rfl) (by intro _ _ _ h; exact h) (Or.inl ⟨by kernel_rfl, ?hy52⟩) (by assumption) ?rest52; case hy52 => (intro w hSw; (try dsimp only at hSw); go_simp; try with_reducible rfl))
              try simp only [Act.put, List.setIfInBounds_toArray, List.set_cons_zero, List.set_cons_succ]
              (refine wpAnyH_take (i := 8) (oi := _) (v := ?v53) (by simp only [List.getElem?_toArray, List.getElem?_cons_succ, List.getElem?_cons_zero]; rfl) (by kernel_rfl) (by kernel_rfl) (by kernel_rfl) (by intro _ _ _ h; exact h) (Or.inl ⟨by kernel_rfl, ?hy53⟩) (by assumption) ?rest53; case hy53 => (intro w hSw; (try dsimp only at hSw); go_simp; try with_reducible rfl))
              try simp only [Act.put, List.setIfInBounds_toArray, List.set_cons_zero, List.set_cons_succ]
              (refine wpAnyH_take (i := 9) (oi := _) (v := ?v54) (by simp only [List.getElem?_toArray, List.getElem?_cons_succ, List.getElem?_cons_zero]; rfl) (by kernel_rfl) (by kernel_rfl) (by kernel_rfl) (by intro _ _ _ h; exact h) (Or.inl ⟨by kernel_rfl, ?hy54⟩) (by assumption) ?rest54; case hy54 => (intro w hSw; (try dsimp only at hSw); go_simp; try with_reducible rfl))
              try simp only [Act.put, List.setIfInBounds_toArray, List.set_cons_zero, List.set_cons_succ]
              (refine wpAnyH_take (i := 10) (oi := _) (v := ?v55) (by simp only [List.getElem?_toArray, List.getElem?_cons_succ, List.getElem?_cons_zero]; rfl) (by kernel_rfl) (by kernel_rfl) (by kernel_rfl) (by intro _ _ _ h; exact h) (Or.inl ⟨by kernel_rfl, ?hy55⟩) (by assumption) ?rest55; case hy55 => (intro w hSw; (try dsimp only at hSw); go_simp; try with_reducible rfl))
              try simp only [Act.put, List.setIfInBounds_toArray, List.set_cons_zero, List.set_cons_succ]
              (refine wpAnyH_take (i := 11) (oi := _) (v := ?v56) (by simp only [List.getElem?_toArray, List.getElem?_cons_succ, List.getElem?_cons_zero]; rfl) (by kernel_rfl) (by kernel_rfl) (by kernel_rfl) (by intro _ _ _ h; exact h) (Or.inl ⟨by kernel_rfl, ?hy56⟩) (by assumption) ?rest56; case hy56 => (intro w hSw; (try dsimp only at hSw); go_simp; try with_reducible rfl))
              try simp only [Act.put, List.setIfInBounds_toArray, List.set_cons_zero, List.set_cons_succ]
              (refine wpAnyH_take (i := 12) (oi := _) (v := ?v57) (by simp only [List.getElem?_toArray, List.getElem?_cons_succ, List.getElem?_cons_zero]; rfl) (by kernel_rfl) (by kernel_rfl) (by kernel_rfl) (by intro _ _ _ h; exact h) (Or.inl ⟨by kernel_rfl, ?hy57⟩) (by assumption) ?rest57; case hy57 => (intro w hSw; (try dsimp only at hSw); go_simp; try with_reducible rfl))
              try simp only [Act.put, List.setIfInBounds_toArray, List.set_cons_zero, List.set_cons_succ]
              (refine wpAnyH_take (i := 13) (oi := _) (v := ?v58) (by simp only [List.getElem?_toArray, List.getElem?_cons_succ, List.getElem?_cons_zero]; rfl) (by kernel_rfl) (by kernel_rfl) (by kernel_rfl) (by intro _ _ _ h; exact h) (Or.inl ⟨by kernel_rfl, ?hy58⟩) (by assumption) ?rest58; case hy58 => (intro w hSw; (try dsimp only at hSw); go_simp; try with_reducible rfl))
              try simp only [Act.put, List.setIfInBounds_toArray, List.set_cons_zero, List.set_cons_succ]
              (refine wpAnyH_take (i := 14) (oi := _) (v := ?v59) (by simp only [List.getElem?_toArray, List.getElem?_cons_succ, List.getElem?_cons_zero]; rfl) (by kernel_rfl) (by kernel_rfl) (by kernel_rfl) (by intro _ _ _ h; exact h) (Or.inl ⟨by kernel_rfl, ?hy59⟩) (by assumption) ?rest59; case hy59 => (intro w hSw; (try dsimp only at hSw); go_simp; try with_reducible rfl))
              try simp only [Act.put, List.setIfInBounds_toArray, List.set_cons_zero, List.set_cons_succ]
              (refine wpAnyH_take (i := 15) (oi := _) (v := ?v60) (by simp only [List.getElem?_toArray, List.getElem?_cons_succ, List.getElem?_cons_zero]; rfl) (by kernel_rfl) (by kernel_rfl) (by kernel_rfl) (by intro _ _ _ h; exact h) (Or.inl ⟨by kernel_rfl, ?hy60⟩) (by assumption) ?rest60; case hy60 => (intro w hSw; (try dsimp only at hSw); go_simp; try with_reducible rfl))
              try simp only [Act.put, List.setIfInBounds_toArray, List.set_cons_zero, List.set_cons_succ]
              (refine wpAnyH_take (i := 16) (oi := _) (v := ?v61) (by simp only [List.getElem?_toArray, List.getElem?_cons_succ, List.getElem?_cons_zero]; rfl) (by kernel_rfl) (by kernel_rfl) (by kernel_rfl) (by intro _ _ _ h; exact h) (Or.inl ⟨by kernel_rfl, ?hy61⟩) (by assumption) ?rest61; case hy61 => (intro w hSw; (try dsimp only at hSw); go_simp; try with_reducible rfl))
              try simp only [Act.put, List.setIfInBounds_toArray, List.set_cons_zero, List.set_cons_succ]
              (refine wpAnyH_take (i := 17) (oi := _) (v := ?v62) (by simp only [List.getElem?_toArray, List.getElem?_cons_succ, List.getElem?_cons_zero]; rfl) (by kernel_rfl) (by kernel_rfl) (by kernel_rfl) (by intro _ _ _ h; exact h) (Or.inl ⟨by kernel_rfl, ?hy62⟩) (by assumption) ?rest62; case hy62 => (intro w hSw; (try dsimp only at hSw); go_simp; try with_reducible rfl))
              try simp only [Act.put, List.setIfInBounds_toArray, List.set_cons_zero, List.set_cons_succ]
              (refine wpAnyH_take (i := 18) (oi := _) (v := ?v63) (by simp only [List.getElem?_toArray, List.getElem?_cons_succ, List.getElem?_cons_zero]; rfl) (by kernel_rfl) (by kernel_rfl) (by kernel_rfl) (by intro _ _ _ h; exact h) (Or.inl ⟨by kernel_rfl, ?hy63⟩) (by assumption) ?rest63; case hy63 => (intro w hSw; (try dsimp only at hSw); go_simp; try with_reducible rfl))
              try simp only [Act.put, List.setIfInBounds_toArray, List.set_cons_zero, List.set_cons_succ]
              (refine wpAnyH_take (i := 19) (oi := _) (v := ?v64) (by simp only [List.getElem?_toArray, List.getElem?_cons_succ, List.getElem?_cons_zero]; rfl) (by kernel_rfl) (by kernel_rfl) (by kernel_rfl) (by intro _ _ _ h; exact h) (Or.inl ⟨by kernel_rfl, ?hy64⟩) (by assumption) ?rest64; case hy64 => (intro w hSw; (try dsimp only at hSw); go_simp; try with_reducible rfl))
              try simp only [Act.put, List.setIfInBounds_toArray, List.set_cons_zero, List.set_cons_succ]
              (refine wpAnyH_take (i := 20) (oi := _) (v := ?v65) (by simp only [List.getElem?_toArray, List.getElem?_cons_succ, List.getElem?_cons_zero]; rfl) (by kernel_rfl) (by kernel_rfl) (by kernel_rfl) (by intro _ _ _ h; exact h) (Or.inl ⟨by kernel_rfl, ?hy65⟩) (by assumption) ?rest65; case hy65 => (intro w hSw; (try dsimp only at hSw); go_simp; try with_reducible rfl))
              try simp only [Act.put, List.setIfInBounds_toArray, List.set_cons_zero, List.set_cons_succ]
              (refine wpAnyH_take (i := 21) (oi := _) (v := ?v66) (by simp only [List.getElem?_toArray, List.getElem?_cons_succ, List.getElem?_cons_zero]; rfl) (by kernel_rfl) (by kernel_rfl) (by kernel_rfl) (by intro _ _ _ h; exact h) (Or.inl ⟨by kernel_rfl, ?hy66⟩) (by assumption) ?rest66; case hy66 => (intro w hSw; (try dsimp only at hSw); go_simp; try with_reducible rfl))
              try simp only [Act.put, List.setIfInBounds_toArray, List.set_cons_zero, List.set_cons_succ]
              refine wpAnyH_done (by kernel_rfl) ?_ _
              gi_wp2
              exact ⟨(HKO3.out).trans (KeepsOthers.drew _), (HKP.out).trans (KpB.of_below (by omega) (by omega) (Below.refl _ _).drew), ⟨v, o, HF.out, HL7.out, HOW.out.drew, HAA.out, HKO.out, by show w1.heap.size + 2 ≤ wr.heap.size; omega⟩, hbq.drew⟩
        · obtain rfl : j = pl.length := by omega
          have hd : decide (I < (pl.length : Int)) = false := decide_eq_false (by have := HI.out; omega)
          have HF := Lib.hid (HEND.out (fun y hy => by have := (List.getElem?_eq_some_iff.1 hy).1; rw [ens_len] at this; omega))
          gi_wp2_with fail
          refine regionIn_held (S := (fun _ => True)) hmx (by kernel_rfl) (by rintro ⟨a, w, h⟩; exact h) trivial (fun hHeld => ?_)
          (refine wpAnyH_take (i := 0) (oi := _) (v := ?v67) (by simp only [List.getElem?_toArray, List.getElem?_cons_succ, List.getElem?_cons_zero]; rfl) (by kernel_rfl) (by kernel_rfl) (by kernel_rfl) (by intro _ _ _ h; exact h) (Or.inl ⟨by kernel_rfl, ?hy67⟩) (by assumption) ?rest67; case hy67 => (intro w hSw; (try dsimp only at hSw); go_simp; try with_reducible rfl))
          try simp only [Act.put, List.setIfInBounds_toArray, List.set_cons_zero, List.set_cons_succ]
          (refine wpAnyH_take (i := 1) (oi := _) (v := ?v68) (by simp only [List.getElem?_toArray, List.getElem?_cons_succ, List.getElem?_cons_zero]; rfl) (by kernel_rfl) (by kernel_rfl) (by kernel_rfl) (by intro _ _ _ h; exact h) (Or.inl ⟨by kernel_rfl, ?hy68⟩) (by assumption) ?rest68; case hy68 => (intro w hSw; (try dsimp only at hSw); go_simp; try with_reducible rfl))
          try simp only [Act.put, List.setIfInBounds_toArray, List.set_cons_zero, List.set_cons_succ]
          (refine wpAnyH_take (i := 2) (oi := _) (v := ?v69) (by simp only [List.getElem?_toArray, List.getElem?_cons_succ, List.getElem?_cons_zero]; rfl) (by kernel_rfl) (by kernel_rfl) (by kernel_rfl) (by intro _ _ _ h; exact h) (Or.inl ⟨by kernel_rfl, ?hy69⟩) (by assumption) ?rest69; case hy69 => (intro w hSw; (try dsimp only at hSw); go_simp; try with_reducible rfl))
          try simp only [Act.put, List.setIfInBounds_toArray, List.set_cons_zero, List.set_cons_succ]
          (refine wpAnyH_take (i := 3) (oi := _) (v := ?v70) (by simp only [List.getElem?_toArray, List.getElem?_cons_succ, List.getElem?_cons_zero]; rfl) (by kernel_rfl) (by kernel_rfl) (by kernel_rfl) (by intro _ _ _ h; exact h) (Or.inl ⟨by kernel_rfl, ?hy70⟩) (by assumption) ?rest70; case hy70 => (intro w hSw; (try dsimp only at hSw); go_simp; try with_reducible rfl))
          try simp only [Act.put, List.setIfInBounds_toArray, List.set_cons_zero, List.set_cons_succ]
          (refine wpAnyH_take (i := 4) (oi := _) (v := ?v71) (by simp only [List.getElem?_toArray, List.getElem?_cons_succ, List.getElem?_cons_zero]; rfl) (by kernel_rfl) (by kernel_rfl) (by kernel_rfl) (by intro _ _ _ h; exact h) (Or.inl ⟨by kernel_rfl, ?hy71⟩) (by assumption) ?rest71; case hy71 => (intro w hSw; (try dsimp only at hSw); go_simp; try with_reducible rfl))
          try simp only [Act.put, List.setIfInBounds_toArray, List.set_cons_zero, List.set_cons_succ]
          (refine wpAnyH_take (i := 5) (oi := _) (v := _) (by simp only [List.getElem?_toArray, List.getElem?_cons_succ, List.getElem?_cons_zero]; rfl) (by kernel_rfl) (by kernel_rfl) (by kernel_rfl) (by intro _ _ _ h; exact h) (Or.inr ⟨by kernel_rfl, rfl⟩) (by assumption) ?_)
          try simp only [Act.put, List.setIfInBounds_toArray, List.set_cons_zero, List.set_cons_succ]
          (refine wpAnyH_take (i := 6) (oi := _) (v := _) (by simp only [List.getElem?_toArray, List.getElem?_cons_succ, List.getElem?_cons_zero]; rfl) (by kernel_rfl) (by kernel_rfl) (by kernel_rfl) (by intro _ _ _ h; exact h) (Or.inr ⟨by kernel_rfl, rfl⟩) (by assumption) ?_)
          try simp only [Act.put, List.setIfInBounds_toArray, List.set_cons_zero, List.set_cons_succ]
          (refine wpAnyH_take (i := 7) (oi := _) (v := _) (by simp only [List.getElem?_toArray, List.getElem?_cons_succ, List.getElem?_cons_zero]; rfl) (by kernel_rfl) (by kernel_rfl) (by kernel_rfl) (by intro _ _ _ h; exact h) (Or.inr ⟨by kernel_rfl, rfl⟩) (by assumption) ?_)
          try simp only [Act.put, List.setIfInBounds_toArray, List.set_cons_zero, List.set_cons_succ]
          (refine wpAnyH_take (i := 8) (oi := _) (v := _) (by simp only [List.getElem?_toArray, List.getElem?_cons_succ, List.getElem?_cons_zero]; rfl) (by kernel_rfl) (by kernel_rfl) (by kernel_rfl) (by intro _ _ _ h; exact h) (Or.inr ⟨by kernel_rfl, rfl⟩) (by assumption) ?_)
          try simp only [Act.put, List.setIfInBounds_toArray, List.set_cons_zero, List.set_cons_succ]
          (refine wpAnyH_take (i := 9) (oi := _) (v := _) (by simp only [List.getElem?_toArray, List.getElem?_cons_succ, List.getElem?_cons_zero]; rfl) (by kernel_rfl) (by kernel_rfl) (by kernel_rfl) (by intro _ _ _ h; exact h) (Or.inr ⟨by kernel_rfl, rfl⟩) (by assumption) ?_)
          try simp only [Act.put, List.setIfInBounds_toArray, List.set_cons_zero, List.set_cons_succ]
          (refine wpAnyH_take (i := 10) (oi := _) (v := _) (by simp only [List.getElem?_toArray, List.getElem?_cons_succ, List.getElem?_cons_zero]; rfl) (by kernel_rfl) (by kernel_rfl) (by kernel_rfl) (by intro _ _ _ h; exact h) (Or.inr ⟨by kernel_rfl, rfl⟩) (by assumption) ?_)
          try simp only [Act.put, List.setIfInBounds_toArray, List.set_cons_zero, List.set_cons_succ]
          (refine wpAnyH_take (i := 11) (oi := _) (v := _) (by simp only [List.getElem?_toArray, List.getElem?_cons_succ, List.getElem?_cons_zero]; rfl) (by kernel_rfl) (by kernel_rfl) (by kernel_rfl) (by intro _ _ _ h; exact h) (Or.inr ⟨by kernel_rfl, rfl⟩) (by assumption) ?_)
          try simp only [Act.put, List.setIfInBounds_toArray, List.set_cons_zero, List.set_cons_succ]
          (refine wpAnyH_take (i := 12) (oi := _) (v := ?v79) (by simp only [List.getElem?_toArray, List.getElem?_cons_succ, List.getElem?_cons_zero]; rfl) (by kernel_rfl) (by kernel_rfl) (by kernel_rfl) (by intro _ _ _ h; exact h) (Or.inl ⟨by kernel_rfl, ?hy79⟩) (by assumption) ?rest79; case hy79 => (intro w hSw; (try dsimp only at hSw); go_simp; try with_reducible rfl))
          try simp only [Act.put, List.setIfInBounds_toArray, List.set_cons_zero, List.set_cons_succ]
          (refine wpAnyH_take (i := 13) (oi := _) (v := ?v80) (by simp only [List.getElem?_toArray, List.getElem?_cons_succ, List.getElem?_cons_zero]; rfl) (by kernel_rfl) (by kernel_rfl) (by kernel_rfl) (by intro _ _ _ h; exact h) (Or.inl ⟨by kernel_rfl, ?hy80⟩) (by assumption) ?rest80; case hy80 => (intro w hSw; (try dsimp only at hSw); go_simp; try with_reducible rfl))
          try simp only [Act.put, List.setIfInBounds_toArray, List.set_cons_zero, List.set_cons_succ]
          (refine wpAnyH_take (i := 14) (oi := _) (v := _) (by simp only [List.getElem?_toArray, List.getElem?_cons_succ, List.getElem?_cons_zero]; rfl) (by kernel_rfl) (by kernel_rfl) (by kernel_rfl) (by intro _ _ _ h; exact h) (Or.inr ⟨by kernel_rfl, rfl⟩) (by assumption) ?_)
          try simp only [Act.put, List.setIfInBounds_toArray, List.set_cons_zero, List.set_cons_succ]
          (refine wpAnyH_take (i := 15) (oi := _) (v := _) (by simp only [List.getElem?_toArray, List.getElem?_cons_succ, List.getElem?_cons_zero]; rfl) (by kernel_rfl) (by kernel_rfl) (by kernel_rfl) (by intro _ _ _ h; exact h) (Or.inr ⟨by kernel_rfl, rfl⟩) (by assumption) ?_)
          try simp only [Act.put, List.setIfInBounds_toArray, List.set_cons_zero, List.set_cons_succ]
          (refine wpAnyH_take (i := 16) (oi := _) (v := _) (by simp only [List.getElem?_toArray, List.getElem?_cons_succ, List.getElem?_cons_zero]; rfl) (by kernel_rfl) (by kernel_rfl) (by kernel_rfl) (by intro _ _ _ h; exact h) (Or.inr ⟨by kernel_rfl, rfl⟩) (by assumption) ?_)
          try simp only [Act.put, List.setIfInBounds_toArray, List.set_cons_zero, List.set_cons_succ]
          (refine wpAnyH_take (i := 17) (oi := _) (v := _) (by simp only [List.getElem?_toArray, List.getElem?_cons_succ, List.getElem?_cons_zero]; rfl) (by kernel_rfl) (by kernel_rfl) (by kernel_rfl) (by intro _ _ _ h; exact h) (Or.inr ⟨by kernel_rfl, rfl⟩) (by assumption) ?_)
          try simp only [Act.put, List.setIfInBounds_toArray, List.set_cons_zero, List.set_cons_succ]
          (refine wpAnyH_take (i := 18) (oi := _) (v := _) (by simp only [List.getElem?_toArray, List.getElem?_cons_succ, List.getElem?_cons_zero]; rfl) (by kernel_rfl) (by kernel_rfl) (by kernel_rfl) (by intro _ _ _ h; exact h) (Or.inr ⟨by kernel_rfl, rfl⟩) (by assumption) ?_)
          try simp only [Act.put, List.setIfInBounds_toArray, List.set_cons_zero, List.set_cons_succ]
          (refine wpAnyH_take (i := 19) (oi := _) (v := _) (by simp only [List.getElem?_toArray, List.getElem?_cons_succ, List.getElem?_cons_zero]; rfl) (by kernel_rfl) (by kernel_rfl) (by kernel_rfl) (by intro _ _ _ h; exact h) (Or.inr ⟨by kernel_rfl, rfl⟩) (by assumption) ?_)
          try simp only [Act.put, List.setIfInBounds_toArray, List.set_cons_zero, List.set_cons_succ]
          (refine wpAnyH_take (i := 20) (oi := _) (v := _) (by simp only [List.getElem?_toArray, List.getElem?_cons_succ, List.getElem?_cons_zero]; rfl) (by kernel_rfl) (by kernel_rfl) (by kernel_rfl) (by intro _ _ _ h; exact h) (Or.inr ⟨by kernel_rfl, rfl⟩) (by assumption) ?_)
          try simp only [Act.put, List.setIfInBounds_toArray, List.set_cons_zero, List.set_cons_succ]
          (refine wpAnyH_take (i := 21) (oi := _) (v := ?v88) (by simp only [List.getElem?_toArray, List.getElem?_cons_succ, List.getElem?_cons_zero]; rfl) (by kernel_rfl) (by kernel_rfl) (by kernel_rfl) (by intro _ _ _ h; exact h) (Or.inl ⟨by kernel_rfl, ?hy88⟩) (by assumption) ?rest88; case hy88 => (intro w hSw; (try dsimp only at hSw); go_simp; try with_reducible rfl))
          try simp only [Act.put, List.setIfInBounds_toArray, List.set_cons_zero, List.set_cons_succ]
          refine wpAnyH_done (by kernel_rfl) ?_ _
          gi_wp2
          exact ⟨(HKO3.out).trans (KeepsOthers.drew _), (HKP.out).trans (KpB.of_below (by omega) (by omega) (Below.refl _ _).drew), ⟨v, o, HF.out, HL7.out, HOW.out.drew, HAA.out, HKO.out, by show w1.heap.size + 2 ≤ wr.heap.size; omega⟩, hbq.drew⟩
    case done =>
      rintro D ys W hD rfl ⟨⟨v, o, he, hl, hown, -, hKO, hWs⟩, hB⟩ hK
      have HE : Hid (ens o = b.bu.all.filter (scanP key frm upto)) := Lib.hid (by rw [he, HALL.out, filter_flatMap])
      have HLO : Hid (o.length ≤ 1000000) := Lib.hid (by
        have h1 := congrArg List.length HE.out
        have h2 := List.length_filter_le (scanP key frm upto) b.bu.all
        have h3 := HGO.out.few
        rw [ens_len] at h1
        omega)
      have HSO := Lib.hid (sortEnts_any v o _ W hown HLO.out)
      have HOWN := Lib.hid hown
      have HKO := Lib.hid hKO
      have f0 := hKO.cell 0 _ rfl
      clear he hl hown hKO
      gi_wp2_with fail
      refine ⟨trivial, (callsIn_wide.2 HSO.out).mono ?_⟩
      rintro e w2 ⟨rfl, l', hp, hpw, hown2, hg2⟩
      have HO2 := Lib.hid hown2
      have hK' := (ko_own HOWN.out.own hg2).same D _ hK rfl
      have hge := own_ge HOWN.out.own
      have f2 := (HKO.out.grown hg2 (fun e => by have := hge _ e; omega)).cell 0 _ rfl
      have hb2 := below_grown hB hg2 (fun k hk => by have := hge k hk; omega)
      have HPE : Hid (ens l' = SL) := Lib.hid (by rw [HSL.out]; exact scanL_eq HGO.out.alone (HE.out ▸ hp.map _) (hpw.imp (fun h => Int.not_lt.2 h)))
      clear f0 hown2 hp hpw hge HSO
      gi_wp2
      refine ⟨by simp, .inl ⟨_, _, rfl, run_takeDeferred hK', ?_⟩⟩
      have hrow : ∀ r, some D = some r → ∃ o : Obj, w2.heap[r]? = some o ∧ o.isCells = false := fun r e => by cases e; exact ⟨_, hK', rfl⟩
      exact ⟨.tuple #[v, .int .i64 0], by simp [results, Tryd.results34, go_sem], v, l', rfl, (HO2.out.recd (grownBy_putObj' _ D (.deferred none)) hrow).ents, HPE.out, hb2.trans (belowK_b (w := W0) (by omega) _ D _ _ hD hK' rfl rfl)⟩
    case stop =>
      rintro D c pre W hD hpre ⟨⟩
  · have HSL : Hid (SL = []) := Lib.hid (hSL.symm.trans (if_neg hck))
    have hb0 := bneT hck
    clear hSL
    gi_wp2
    exact ⟨.tuple #[.slice none 0 0, .int .i64 CK], by simp [results, Tryd.results34, go_sem], .slice none 0 0, [], rfl, Ents.nil _, by rw [HSL.out]; rfl, hbw1⟩

end Go.Proofs.YteabfalklgffmaaDoor
