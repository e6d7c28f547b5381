/-
  Put an entry.
-/
import Derived.Test.YteabfalklgffmaaDoorBuf23
import Derived.Test.YteabfalklgffmaaDoorBuf24
set_option linter.unusedSimpArgs false
set_option linter.unusedVariables false
namespace Go.Proofs.YteabfalklgffmaaDoor
open Go.RowKit Go.Shelf
attribute [local go_sem] Oper.semAt_some

set_option maxHeartbeats 1000000 in
theorem whole_any (p : Nat) (w : World) : Calls Tryd.prog 21 #[.pointer (some ⟨p, 0, none⟩)] w fun e w' => e = .returned (.bool true) ∧ w' = w := by
  go_enter Tryd.func21, Tryd.ntmps21
  go_wp2
  go_ret
  exact ⟨rfl, rfl⟩
def zB : Buf := ⟨0, .slice none 0 0, [], .slice none 0 0, []⟩
theorem zB_ok (w : World) : zB.ok w := ⟨Ents.nil w, Sl.nil_ w, nofun⟩
theorem zB_bu : zB.bu = noB := rfl
theorem sift_all {b : Buf} (hg : GoodB b.bu) : siftB b.bu (siftF (fun _ => true) (fun e => e.met)) = b.bu := by
  rw [show (siftF (fun _ => true) (fun e => e.met)) = fun e => [e] from by funext e; exact if_pos rfl]
  exact siftB_id hg.full
theorem siftWhole_any (b : Buf) (w : World) (hb : b.ok w) (hg : GoodB b.bu) :
    Calls Tryd.prog 20 #[b.agg, .func (.func 21) #[] #[]] w fun e w' => ∃ b' : Buf, e = .returned b'.agg ∧ OwnBuf w' (w.heap.size + 5) b' ∧ b'.bu = b.bu ∧ Below w.heap.size w w' ∧ w.heap.size + 5 ≤ w'.heap.size := by
  have h := sift_any 21 #[] (fun _ => true) (fun e => e.met) b w hb (fun k => by have h1 := part_len b k; have h2 := hg.few; omega) (by have := good_runs hg; omega) (fun k x hx => okE_short (hg.ok _ (part_mem hx)))
    (enters_of Tryd.func21 (by kernel_rfl) rfl) (fun x W P _ _ _ hB => (whole_any P W).mono fun e w' ⟨he, hw⟩ => by subst hw; exact ⟨he, hB, World.grownBy.refl _ _⟩)
  rw [sift_all hg] at h
  exact h
theorem sumP_bound (b : Buf) (hl : b.bu.all.length ≤ 4096) : ∀ (n : Nat) (pre : List Nat), pre.length = n → sumP b pre ≤ n * 4096
  | 0, pre, h => by rw [List.length_eq_zero_iff.1 h]; simp [sumP]
  | n + 1, pre, h => by
    obtain ⟨k, t, rfl⟩ : ∃ k t, pre = k :: t := by
      cases pre with
      | nil => cases h
      | cons k t => exact ⟨k, t, rfl⟩
    have h1 := sumP_bound b hl n t (by simpa using h)
    have h2 := part_len b k
    have h3 : sumP b (k :: t) = (b.part k).2.length + sumP b t := by
      unfold sumP
      rw [List.flatMap_cons, List.length_append, ens_len]
    omega

set_option maxRecDepth 100000 in
set_option maxHeartbeats 16000000 in
theorem put_any (b : Buf) (x : Ent) (w : World) (hb : b.ok w) (hf : b.fit) (hs : Sl w x.v x.e.r.length (rowCells x.e.r)) (hfx : FineE x.e) (hm : Mx w) :
    Calls Tryd.prog 6 #[b.agg, x.agg] w fun e w' => ∃ b' : Buf, e = .returned (.tuple #[b'.agg, .int .i64 (putS b.bu x.e).2]) ∧ OwnBuf w' w.heap.size b' ∧ b'.bu = (putS b.bu x.e).1 ∧ Below w.heap.size w w' := by
  have HO := Lib.hid hb
  have HS := Lib.hid hs
  have HM := Lib.hid hm
  have hmx : Tryd.prog.follows .mixedOrders = true := by kernel_rfl
  have HCH := Lib.hid (fun w' (h : Below w.heap.size w w') => check_any b w' (hb.below h) hf (hm.below h))
  have HFI := Lib.hid (fun w' (h : Below w.heap.size w w') => fine_ent x w' (hs.below h) hfx (hm.below h))
  have HHA := Lib.hid (fun (hg : GoodB b.bu) w' (h : Below w.heap.size w w') => has_any b x w' (hb.below h) (fun k => by
    by_cases hk : k < b.runs.length + 1
    · exact hg.up _ (by rw [parts_eq]; exact List.mem_map.2 ⟨k, List.mem_range.2 hk, rfl⟩)
    · obtain ⟨j, rfl⟩ : ∃ j, k = j + 1 := ⟨k - 1, by omega⟩
      simp only [Buf.part, List.getElem?_eq_none (l := b.runs) (i := j) (by omega), Option.getD_none]
      exact .nil) (fun k => by have h1 := part_len b k; have h2 := hg.few; omega))
  have HOWN := Lib.hid (fun w' (h : Below w.heap.size w w') (h8 : x.e.r.length ≤ 8) => own_ent x w' (hs.below h) h8)
  have HR : Hid (putS b.bu x.e = if checkB b.bu ≠ 0 then (noB, checkB b.bu) else if putE b.bu x.e ≠ 0 then (noB, putE b.bu x.e) else (putB b.bu x.e, 0)) := Lib.hid rfl
  have HGD := Lib.hid (check_zeroB (b := b.bu))
  have HPE : Hid (putE b.bu x.e = if okE x.e = false then 1 else if isE b.bu.all x.e = true then 10 else if 4096 ≤ b.bu.all.length then 2 else 0) := Lib.hid rfl
  generalize putS b.bu x.e = R at HR ⊢
  obtain ⟨Ax, cx, hvx, -⟩ := id hs
  unfold Buf.agg at HCH HHA ⊢
  unfold Ent.agg at HFI HHA HOWN ⊢
  rw [hvx] at HFI HHA HOWN ⊢
  have HVX := Lib.hid hvx
  have B0 := new_first w 25 #[.int .i64 b.limit, b.vm, b.vr] (.cells #[.string (str x.e.key), .int .i64 x.e.t, .int .i64 x.e.s, .slice Ax x.e.r.length cx, .bool x.e.met] 28)
  have B1 := new_second w 28 #[.string (str x.e.key), .int .i64 x.e.t, .int .i64 x.e.s, .slice Ax x.e.r.length cx, .bool x.e.met] (.cells #[.int .i64 b.limit, b.vm, b.vr] 25)
  have HK0 := Lib.hid (B0.alloc (.cells #[.int .i64 0, .slice none 0 0, .slice none 0 0] 25))
  have HK1 := Lib.hid (B1.alloc (.cells #[.int .i64 0, .slice none 0 0, .slice none 0 0] 25))
  have HK2 := Lib.hid (show Blk (((w.alloc (.cells #[.int .i64 b.limit, b.vm, b.vr] 25)).alloc (.cells #[.string (str x.e.key), .int .i64 x.e.t, .int .i64 x.e.s, .slice Ax x.e.r.length cx, .bool x.e.met] 28)).alloc (.cells #[.int .i64 0, .slice none 0 0, .slice none 0 0] 25)) (w.heap.size + 1 + 1) 25 #[.int .i64 0, .slice none 0 0, .slice none 0 0] from by
    have := Blk.new ((w.alloc (.cells #[.int .i64 b.limit, b.vm, b.vr] 25)).alloc (.cells #[.string (str x.e.key), .int .i64 x.e.t, .int .i64 x.e.s, .slice Ax x.e.r.length cx, .bool x.e.met] 28)) 25 #[.int .i64 0, .slice none 0 0, .slice none 0 0]
    simpa using this)
  have hB := below_trans (below_trans (below_alloc w (.cells #[.int .i64 b.limit, b.vm, b.vr] 25)) (below_alloc _ (.cells #[.string (str x.e.key), .int .i64 x.e.t, .int .i64 x.e.s, .slice Ax x.e.r.length cx, .bool x.e.met] 28))) (below_alloc _ (.cells #[.int .i64 0, .slice none 0 0, .slice none 0 0] 25))
  have y0 := HK0.out.cell 0 _ rfl
  have y1 := HK0.out.cell 1 _ rfl
  have y2 := HK0.out.cell 2 _ rfl
  clear hb hf hs hfx hm hvx B0 B1
  refine (callsIn_wide (n := 3)).1 ?_
  refine callsIn_of_wp_marks Tryd.func6 rfl trivial ?_ rfl
  simp only [Tryd.ntmps6, List.size_toArray, List.length_cons, List.length_nil, Nat.reduceAdd, Nat.reduceSub, Array.replicate_succ, Array.replicate_zero, List.push_toArray, List.append_toArray, List.nil_append, List.cons_append]
  gi_wp2_with fail
  refine ⟨trivial, (callsIn_wide.2 (HCH.out _ hB)).mono ?_⟩
  rintro e w1 ⟨rfl, hb1⟩
  have hbw1 := below_trans hB hb1
  have HA0 := Lib.hid (HK0.out.below hb1)
  have HA1 := Lib.hid (HK1.out.below hb1)
  have HA2 := Lib.hid (HK2.out.below hb1)
  clear HK0 HK1 HK2 y0 y1 y2 hb1 hB
  by_cases hck : checkB b.bu = 0
  · have HGO := Lib.hid (HGD.out.1 hck)
    have HR2 := Lib.hid (HR.out.trans (if_neg (fun h => h hck)))
    rw [hck]
    have x0 := HA1.out.cell 0 _ rfl
    have x1 := HA1.out.cell 1 _ rfl
    have x2 := HA1.out.cell 2 _ rfl
    have x3 := HA1.out.cell 3 _ rfl
    have x4 := HA1.out.cell 4 _ rfl
    clear HR hck HGD
    gi_wp2_with fail
    refine ⟨trivial, (callsIn_wide.2 (HFI.out _ hbw1)).mono ?_⟩
    rintro e w2 ⟨rfl, hb2⟩
    have hbw2 := below_trans hbw1 hb2
    have HC0 := Lib.hid (HA0.out.below hb2)
    have HC1 := Lib.hid (HA1.out.below hb2)
    have HC2 := Lib.hid (HA2.out.below hb2)
    clear HA0 HA1 HA2 x0 x1 x2 x3 x4 hb2 hbw1
    cases hok : okE x.e with
    | false =>
      have EE := Lib.hid (HR2.out.trans (by rw [show putE b.bu x.e = 1 from HPE.out.trans (if_pos hok)]; first | done | exact if_pos (by decide)))
      have r0 := HC2.out.cell 0 _ rfl
      have r1 := HC2.out.cell 1 _ rfl
      have r2 := HC2.out.cell 2 _ rfl
      have g0 := HC2.out.free 0
      have g1 := HC2.out.free 1
      have g2 := HC2.out.free 2
      have Z := ((HC2.out.set_ 0 (.int .i64 0)).set_ 1 (.slice none 0 0)).set_ 2 (.slice none 0 0)
      have z0 := Z.cell 0 (.int .i64 0) rfl
      have z1 := Z.cell 1 (.slice none 0 0) rfl
      have z2 := Z.cell 2 (.slice none 0 0) rfl
      have hq : ∀ i, w.heap.size ≤ (⟨w.heap.size + 1 + 1, i, none⟩ : Addr).block := fun i => by show w.heap.size ≤ w.heap.size + 1 + 1; omega
      have hb9 := ((hbw2.setCell (hq 0) (.int .i64 0)).setCell (hq 1) (.slice none 0 0)).setCell (hq 2) (.slice none 0 0)
      clear hq Z
      gi_wp2
      exact ⟨.tuple #[.agg #[.int .i64 0, .slice none 0 0, .slice none 0 0], .int .i64 1], by simp [results, Tryd.results6, go_sem, z0, z1, z2], zB, by (first | (rw [EE.out]; done) | (rw [EE.out]; rfl)), OwnBuf.empty _ _ _, by (first | (rw [EE.out]; done) | (rw [EE.out]; rfl)), hb9⟩
    | true =>
      have HP2 := Lib.hid (HPE.out.trans (if_neg (by rw [hok]; simp)))
      have HSH := Lib.hid (okE_short hok)
      have y0 := HC0.out.cell 0 _ rfl
      have y1 := HC0.out.cell 1 _ rfl
      have y2 := HC0.out.cell 2 _ rfl
      have x0 := HC1.out.cell 0 _ rfl
      have x1 := HC1.out.cell 1 _ rfl
      have x2 := HC1.out.cell 2 _ rfl
      have x3 := HC1.out.cell 3 _ rfl
      have x4 := HC1.out.cell 4 _ rfl
      clear hok HPE
      gi_wp2_with fail
      refine ⟨trivial, (callsIn_wide.2 (HHA.out HGO.out _ hbw2)).mono ?_⟩
      rintro e w3 ⟨rfl, hb3⟩
      have hbw3 := below_trans hbw2 hb3
      have HD0 := Lib.hid (HC0.out.below hb3)
      have HD1 := Lib.hid (HC1.out.below hb3)
      have HD2 := Lib.hid (HC2.out.below hb3)
      clear HC0 HC1 HC2 x0 x1 x2 x3 x4 y0 y1 y2 hb3 hbw2
      cases his : isE b.bu.all x.e with
      | true =>
        have EE := Lib.hid (HR2.out.trans (by rw [show putE b.bu x.e = 10 from HP2.out.trans (if_pos his)]; first | done | exact if_pos (by decide)))
        have r0 := HD2.out.cell 0 _ rfl
        have r1 := HD2.out.cell 1 _ rfl
        have r2 := HD2.out.cell 2 _ rfl
        have g0 := HD2.out.free 0
        have g1 := HD2.out.free 1
        have g2 := HD2.out.free 2
        have Z := ((HD2.out.set_ 0 (.int .i64 0)).set_ 1 (.slice none 0 0)).set_ 2 (.slice none 0 0)
        have z0 := Z.cell 0 (.int .i64 0) rfl
        have z1 := Z.cell 1 (.slice none 0 0) rfl
        have z2 := Z.cell 2 (.slice none 0 0) rfl
        have hq : ∀ i, w.heap.size ≤ (⟨w.heap.size + 1 + 1, i, none⟩ : Addr).block := fun i => by show w.heap.size ≤ w.heap.size + 1 + 1; omega
        have hb9 := ((hbw3.setCell (hq 0) (.int .i64 0)).setCell (hq 1) (.slice none 0 0)).setCell (hq 2) (.slice none 0 0)
        clear hq Z
        gi_wp2
        exact ⟨.tuple #[.agg #[.int .i64 0, .slice none 0 0, .slice none 0 0], .int .i64 10], by simp [results, Tryd.results6, go_sem, z0, z1, z2], zB, by (first | (rw [EE.out]; done) | (rw [EE.out]; rfl)), OwnBuf.empty _ _ _, by (first | (rw [EE.out]; done) | (rw [EE.out]; rfl)), hb9⟩
      | false =>
        have HP3 := Lib.hid (HP2.out.trans (if_neg (by rw [his]; simp)))
        have HE0 := Lib.hid (HD0.out.alloc (.cells #[.int .i64 0] 3))
        have y0 := HE0.out.cell 0 _ rfl
        have y1 := HE0.out.cell 1 _ rfl
        have y2 := HE0.out.cell 2 _ rfl
        clear his HP2
        gi_wp2_with (refine ⟨trivial, ?_⟩; gi_at_call 19; refine (callsIn_wide.2 (parts_any b _)).mono ?_; rintro e w' ⟨rfl, rfl⟩)
        have hB0 := below_trans (below_trans hbw3 (below_alloc w3 (.cells #[.int .i64 0] 3))) (below_alloc _ (.cells #[.int .i64 b.limit, b.vm, b.vr] 25))
        have k0 := HE0.out.alloc (.cells #[.int .i64 b.limit, b.vm, b.vr] 25)
        have k1 := (HD1.out.alloc (.cells #[.int .i64 0] 3)).alloc (.cells #[.int .i64 b.limit, b.vm, b.vr] 25)
        have k2 := (HD2.out.alloc (.cells #[.int .i64 0] 3)).alloc (.cells #[.int .i64 b.limit, b.vm, b.vr] 25)
        have k3 := (Blk.new w3 3 #[.int .i64 0]).alloc (.cells #[.int .i64 b.limit, b.vm, b.vr] 25)
        have k4 := Blk.new (w3.alloc (.cells #[.int .i64 0] 3)) 25 #[.int .i64 b.limit, b.vm, b.vr]
        simp only [World.size_alloc] at k4
        obtain ⟨W0, hW0⟩ : ∃ W0, (w3.alloc (.cells #[.int .i64 0] 3)).alloc (.cells #[.int .i64 b.limit, b.vm, b.vr] 25) = W0 := ⟨_, rfl⟩
        have hsz : W0.heap.size = w3.heap.size + 2 := by rw [← hW0]; simp
        rw [hW0] at hB0 k0 k1 k2 k3 k4 ⊢
        have hw3 := hbw3.size
        have hw33 : w.heap.size + 1 + 1 < w3.heap.size := HD2.out.lt
        clear y0 y1 y2 HE0 HD0 HD1 HD2 hW0
        refine wpIn_rangeFunc_ownF rfl (by omega) (gf := 42) (lb := #[.pointer (some ⟨w3.heap.size + 1, 0, none⟩)]) rfl trivial (enters_of Tryd.func42 (by kernel_rfl) rfl)
          (parts_stops Fence.wide _ trivial rfl (by omega) (w3.heap.size + 1) b W0 k4 w hB0 HO.out) KpB.trans (KpB.put (by omega) (by omega)) (Below.refl _ _) (fun _ => rfl)
          (fun pre W => (Blk W w.heap.size 25 #[.int .i64 b.limit, b.vm, b.vr] ∧ Blk W (w.heap.size + 1) 28 #[.string (str x.e.key), .int .i64 x.e.t, .int .i64 x.e.s, .slice Ax x.e.r.length cx, .bool x.e.met] ∧ Blk W (w.heap.size + 1 + 1) 25 #[.int .i64 0, .slice none 0 0, .slice none 0 0] ∧ Blk W w3.heap.size 3 #[.int .i64 (sumP b pre : Nat)] ∧ w3.heap.size + 2 ≤ W.heap.size) ∧ Below w.heap.size w W)
          (fun _ _ _ => False)
          (OwnFrom.and (Own.from (fun s A B row hs hg hr => ⟨blk_own hs.1 hg hr, blk_own hs.2.1 hg hr, blk_own hs.2.2.1 hg hr, blk_own hs.2.2.2.1 hg hr, Nat.le_trans hs.2.2.2.2 hg.size⟩) _) (ownFrom_below (Nat.le_refl _) (by omega)))
          (fun c => (fun _ _ _ _ h _ _ => h))
          ⟨⟨k0, k1, k2, k3, by omega⟩, hB0⟩
          (fun k => { tmps := #[.agg #[.int .i64 b.limit, b.vm, b.vr], .agg #[.string (str x.e.key), .int .i64 x.e.t, .int .i64 x.e.s, .slice Ax x.e.r.length cx, .bool x.e.met], .pointer (some ⟨w.heap.size, 0, none⟩), .pointer (some ⟨w.heap.size + 1, 0, none⟩), .pointer (some ⟨w.heap.size + 1 + 1, 0, none⟩), .int .i64 0, .int .i64 0, .pointer (some ⟨w3.heap.size, 0, none⟩), undef, (b.part k).1, undef, undef, undef, .agg #[.int .i64 b.limit, b.vm, b.vr], .int .i64 0, .int .i64 0, .bool false, undef, undef, .agg #[.string (str x.e.key), .int .i64 x.e.t, .int .i64 x.e.s, .slice Ax x.e.r.length cx, .bool x.e.met], .bool true, .bool false, undef, .agg #[.int .i64 b.limit, b.vm, b.vr], .agg #[.string (str x.e.key), .int .i64 x.e.t, .int .i64 x.e.s, .slice Ax x.e.r.length cx, .bool x.e.met], .bool false, undef, .agg #[.int .i64 b.limit, b.vm, b.vr], .func (.func 42) #[] #[.pointer (some ⟨w3.heap.size + 1, 0, none⟩)], .int .i64 (idxP k), (b.part k).1, undef, undef, undef, undef, undef, undef, undef, undef, undef, undef, undef, undef, undef, undef, undef, undef, undef, undef, undef, undef, undef, undef, undef, undef, undef, undef, undef, undef, undef, undef, undef, undef, undef, undef, undef, undef, undef, undef, undef], defers := [] }) ?assign ?body ?done ?stop
        case assign =>
          intro l k W K hK
          dsimp only [encP]
          gi_wp2
          exact hK
        case body =>
          rintro l pre k W ⟨⟨hKB, hKX, hKR, hKN, hWs⟩, hB⟩ hpre
          have y0 := hKN.cell 0 _ rfl
          have f0 := hKN.free 0
          have hpl := part_len b k
          have hsb := sumP_bound b HGO.out.few pre.length pre rfl
          have hfew := HGO.out.few
          have hrn := good_runs HGO.out
          have HSN := Lib.hid (sumP_snoc b pre k)
          obtain ⟨A5, c5, hpv, -⟩ := id (HO.out.part k).sl
          generalize (b.part k).1 = pv at hpv ⊢
          generalize (b.part k).2 = pl at hpl HSN hpv
          subst hpv
          have hw : IntKind.i64.wrap (((sumP b pre : Nat) : Int) + (pl.length : Int)) = ((sumP b pre : Nat) : Int) + (pl.length : Int) := by rw [IntKind.wrap_i64]; omega
          have HK3 := Lib.hid (hKN.set_ 0 (.int .i64 (((sumP b pre : Nat) : Int) + (pl.length : Int))))
          have HK0 := Lib.hid (hKB.far (p := ⟨w3.heap.size, 0, none⟩) (by show w.heap.size ≠ w3.heap.size; omega) (.int .i64 (((sumP b pre : Nat) : Int) + (pl.length : Int))))
          have HK1 := Lib.hid (hKX.far (p := ⟨w3.heap.size, 0, none⟩) (by show w.heap.size + 1 ≠ w3.heap.size; omega) (.int .i64 (((sumP b pre : Nat) : Int) + (pl.length : Int))))
          have HK2 := Lib.hid (hKR.far (p := ⟨w3.heap.size, 0, none⟩) (by show w.heap.size + 1 + 1 ≠ w3.heap.size; omega) (.int .i64 (((sumP b pre : Nat) : Int) + (pl.length : Int))))
          have hb3 := hB.setCell (p := ⟨w3.heap.size, 0, none⟩) (by show w.heap.size ≤ w3.heap.size; omega) (.int .i64 (((sumP b pre : Nat) : Int) + (pl.length : Int)))
          have KO3 := KeepsOthers.setCell W ⟨w3.heap.size, 0, none⟩ (.int .i64 (((sumP b pre : Nat) : Int) + (pl.length : Int)))
          have KP3 := (KpB.refl w.heap.size (w3.heap.size + 1) W).set (p := ⟨w3.heap.size, 0, none⟩) (by show w.heap.size ≤ w3.heap.size; omega) (by show w3.heap.size + 1 ≠ w3.heap.size; omega) (.int .i64 (((sumP b pre : Nat) : Int) + (pl.length : Int)))
          have HS2 : Hid ((sumP b (pre ++ [k]) : Nat) = sumP b pre + pl.length) := Lib.hid HSN.out
          clear hKB hKX hKR hKN hsb hfew hrn
          gi_wp2
          exact ⟨KO3, KP3, ⟨HK0.out, HK1.out, HK2.out, by rw [HS2.out]; exact HK3.out, by rw [World.size_setCell]; exact hWs⟩, hb3⟩
        case done =>
          rintro D ys W hD rfl ⟨⟨hKB, hKX, hKR, hKN, hWs⟩, hB⟩ hK
          rw [sumP_all] at hKN
          have f0 := hKN.cell 0 _ rfl
          have hfew := HGO.out.few
          have HKB := Lib.hid hKB
          have HKX := Lib.hid hKX
          have HKR := Lib.hid hKR
          have HKD := Lib.hid hK
          clear hKB hKX hKR hKN hK
          by_cases hfull : b.bu.all.length = 4096
          · have EE := Lib.hid (HR2.out.trans (by rw [show putE b.bu x.e = 2 from HP3.out.trans (if_pos (by omega))]; first | done | exact if_pos (by decide)))
            have hq4 : (((b.bu.all.length : Nat) : Int) == 4096) = true := by rw [hfull]; rfl
            clear hfull hfew
            have r0 := HKR.out.cell 0 _ rfl
            have r1 := HKR.out.cell 1 _ rfl
            have r2 := HKR.out.cell 2 _ rfl
            have g0 := HKR.out.free 0
            have g1 := HKR.out.free 1
            have g2 := HKR.out.free 2
            have hq : ∀ i, w.heap.size ≤ (⟨w.heap.size + 1 + 1, i, none⟩ : Addr).block := fun i => by show w.heap.size ≤ w.heap.size + 1 + 1; omega
            have hb9 := ((hB.setCell (hq 0) (.int .i64 0)).setCell (hq 1) (.slice none 0 0)).setCell (hq 2) (.slice none 0 0)
            have HKK := Lib.hid ((((KeepsOthers.setCell W ⟨w.heap.size + 1 + 1, 0, none⟩ (.int .i64 0)).trans (KeepsOthers.setCell _ ⟨w.heap.size + 1 + 1, 1, none⟩ (.slice none 0 0))).trans (KeepsOthers.setCell _ ⟨w.heap.size + 1 + 1, 2, none⟩ (.slice none 0 0))).same D _ HKD.out rfl)
            have Z := blk_put (o' := .deferred none) (((HKR.out.set_ 0 (.int .i64 0)).set_ 1 (.slice none 0 0)).set_ 2 (.slice none 0 0)) HKK.out rfl
            have z0 := Z.cell 0 (.int .i64 0) rfl
            have z1 := Z.cell 1 (.slice none 0 0) rfl
            have z2 := Z.cell 2 (.slice none 0 0) rfl
            clear hq Z
            gi_wp2
            refine ⟨by simp, .inl ⟨_, _, rfl, run_takeDeferred HKK.out, ?_⟩⟩
            exact ⟨.tuple #[.agg #[.int .i64 0, .slice none 0 0, .slice none 0 0], .int .i64 2], by simp [results, Tryd.results6, go_sem, z0, z1, z2], zB, by (first | (rw [EE.out]; done) | (rw [EE.out]; rfl)), OwnBuf.empty _ _ _, by (first | (rw [EE.out]; done) | (rw [EE.out]; rfl)), hb9.trans (belowK_b (w := W0) (by omega) _ D _ _ hD HKK.out rfl rfl)⟩
          · have EE : Hid (R = (putB b.bu x.e, 0)) := Lib.hid (HR2.out.trans (by rw [show putE b.bu x.e = 0 from HP3.out.trans (if_neg (by omega))]; exact if_neg (by decide)))
            have hq4 : (((b.bu.all.length : Nat) : Int) == 4096) = false := beqF (by omega)
            clear hfull hfew
            have HSW := Lib.hid (siftWhole_any b W (HO.out.below hB) HGO.out)
            have hlim := HGO.out.limit
            have hmlen : b.mem.length ≤ 999999 := by have := good_mem HGO.out; omega
            have hrlen : b.runs.length ≤ 999999 := by have := good_runs HGO.out; omega
            have HUP := Lib.hid (show Up (ens b.mem) from HGO.out.up _ (by simp [Bu.parts, Buf.bu]))
            have HPB := Lib.hid (show putB b.bu x.e = if b.limit < ((insE (ens b.mem) x.e).length : Int) then ⟨b.limit, [], b.bu.runs ++ [insE (ens b.mem) x.e]⟩ else ⟨b.limit, insE (ens b.mem) x.e, b.bu.runs⟩ from rfl)
            have y0 := HKB.out.cell 0 _ rfl
            have y1 := HKB.out.cell 1 _ rfl
            have y2 := HKB.out.cell 2 _ rfl
            unfold Buf.agg at HSW
            gi_wp2_with fail
            refine ⟨trivial, (callsIn_wide.2 HSW.out).mono ?_⟩
            rintro e w6 ⟨b1, rfl, hob, hbu, hb6, hs6⟩
            have hbw6 := below_trans hB hb6
            obtain ⟨hl1, he1, hm1', hr1'⟩ := bu_eq hbu
            obtain ⟨Ar1, cr1, hvr1, -⟩ := id hob.ok.sl
            obtain ⟨Am1, cm1, hvm1, -⟩ := id hob.ok.mem.sl
            rw [hvr1, hvm1, hl1]
            have hw6s := hbw6.size
            have HOB := Lib.hid (hob.below (below_alloc w6 (.cells #[.int .i64 b.limit, .slice Am1 b1.mem.length cm1, .slice Ar1 b1.runs.length cr1] 25)))
            have HKO := Lib.hid (Blk.new w6 25 #[.int .i64 b.limit, .slice Am1 b1.mem.length cm1, .slice Ar1 b1.runs.length cr1])
            have HX1 := Lib.hid ((HKX.out.below hb6).alloc (.cells #[.int .i64 b.limit, .slice Am1 b1.mem.length cm1, .slice Ar1 b1.runs.length cr1] 25))
            have HR1 := Lib.hid ((HKR.out.below hb6).alloc (.cells #[.int .i64 b.limit, .slice Am1 b1.mem.length cm1, .slice Ar1 b1.runs.length cr1] 25))
            have HD1 := Lib.hid (((keeps_below hb6).trans (KeepsOthers.alloc w6 (.cells #[.int .i64 b.limit, .slice Am1 b1.mem.length cm1, .slice Ar1 b1.runs.length cr1] 25))).same D _ HKD.out rfl)
            have hbw6a := below_trans hbw6 (below_alloc w6 (.cells #[.int .i64 b.limit, .slice Am1 b1.mem.length cm1, .slice Ar1 b1.runs.length cr1] 25))
            have HBS := Lib.hid (bsearch_any b1.vm b1.mem x _ HOB.out.mem.ents (by omega) (by rw [he1]; exact HUP.out))
            rw [hvm1] at HBS
            unfold Ent.agg at HBS
            rw [HVX.out] at HBS
            have q1 := HKO.out.cell 1 _ rfl
            have x0 := HX1.out.cell 0 _ rfl
            have x1 := HX1.out.cell 1 _ rfl
            have x2 := HX1.out.cell 2 _ rfl
            have x3 := HX1.out.cell 3 _ rfl
            have x4 := HX1.out.cell 4 _ rfl
            have HVM1 := Lib.hid hvm1
            have HVR1 := Lib.hid hvr1
            have HHO := Lib.hid hob
            have HLI := Lib.hid hl1
            have HEM := Lib.hid he1
            have HM1 := Lib.hid hm1'
            have HR1' := Lib.hid hr1'
            have HRU : Hid (b1.bu.runs = b.bu.runs) := Lib.hid (congrArg Bu.runs hbu)
            have hWsz := HKR.out.lt
            clear hob hvm1 hvr1 y0 y1 y2 HSW HKB HKX HKR HKD hb6 hl1 he1 hm1' hr1' hbu
            gi_wp2_with fail
            refine ⟨trivial, (callsIn_wide.2 HBS.out).mono ?_⟩
            rintro e w7 ⟨i, is, rfl, hpos, -, hb7⟩
            have HPS := Lib.hid hpos
            have hbw7 := below_trans hbw6a hb7
            have HKO7 := Lib.hid (HKO.out.below hb7)
            have HX7 := Lib.hid (HX1.out.below hb7)
            have HR7 := Lib.hid (HR1.out.below hb7)
            have HD7 := Lib.hid ((keeps_below hb7).same D _ HD1.out rfl)
            have HOB7 := Lib.hid (HOB.out.below hb7)
            have HOF := Lib.hid (HHO.out.off (Nat.le_refl _))
            have hw7 : w6.heap.size < w7.heap.size := HKO7.out.lt
            have HIL : Hid (i ≤ b1.mem.length) := Lib.hid (by have := hpos.1; rwa [ens_len] at this)
            have HOE := Lib.hid (HOWN.out w7.drew hbw7.drew HSH.out)
            have q1 := HKO7.out.cell 1 _ rfl
            have x0 := HX7.out.cell 0 _ rfl
            have x1 := HX7.out.cell 1 _ rfl
            have x2 := HX7.out.cell 2 _ rfl
            have x3 := HX7.out.cell 3 _ rfl
            have x4 := HX7.out.cell 4 _ rfl
            have HBL : Hid (b1.mem.length ≤ 1000000) := Lib.hid (by rw [HM1.out]; omega)
            clear hpos hb7 HBS HKO HX1 HR1 HD1 HOB
            gi_wp2_with fail
            refine Code.wpIn_mono (Q := Exit.then _ (fun _ _ _ => False)) (fun e a w h => by cases e <;> first | exact h | exact h.elim) ?_
            gi_region_with_o (first
              | (refine ⟨trivial, (callsIn_wide.2 HOE.out).mono ?_⟩
                 rintro e w8 ⟨cv, rfl, hcv, hcf, hb8⟩
                 obtain ⟨Ac, cc, rfl, -⟩ := id hcv
                 have hb78 : Below w7.heap.size w7 w8 := (Below.refl _ w7).drew.trans hb8
                 have KO8 := (HKO7.out.below hb78).alloc (.cells #[.string (str x.e.key), .int .i64 x.e.t, .int .i64 x.e.s, .slice Ac x.e.r.length cc, .bool x.e.met] 28)
                 have f8 := (HKO7.out.below hb78).cell 1 _ rfl
                 have f9 := KO8.cell 1 _ rfl
                 have hb78a := below_trans hb78 (below_alloc w8 (.cells #[.string (str x.e.key), .int .i64 x.e.t, .int .i64 x.e.s, .slice Ac x.e.r.length cc, .bool x.e.met] 28))
                 have h8s := hb78.size
                 have HIN := Lib.hid (insert_any b1.vm b1.mem (⟨.slice Ac x.e.r.length cc, x.e⟩ : Ent) (W.heap.size + 5) w8.heap.size i (w8.alloc (.cells #[.string (str x.e.key), .int .i64 x.e.t, .int .i64 x.e.s, .slice Ac x.e.r.length cc, .bool x.e.met] 28)) (HOB7.out.mem.below hb78a) (by simp; omega) HBL.out HIL.out (Blk.new w8 28 _) (fun e => by have := (HOB7.out.mem.range (.inl e)).2; omega) (hcv.below (below_alloc w8 (.cells #[.string (str x.e.key), .int .i64 x.e.t, .int .i64 x.e.s, .slice Ac x.e.r.length cc, .bool x.e.met] 28))) (fun k hk => ⟨by have := (hcf k hk).1; simp at this; omega, by have := (hcf k hk).2; simp; omega, fun e => by have h1 := (HOB7.out.mem.range (.inl e)).2; have := (hcf k hk).1; simp at this; omega⟩))
                 rw [HVM1.out] at HIN)
              | (refine ⟨trivial, (callsIn_wide.2 HIN.out).mono ?_⟩
                 rintro e w9 ⟨v9, rfl, hown9, hg9, hat9⟩
                 obtain ⟨l9, hl9⟩ : ∃ l9, b1.mem.take i ++ (⟨.slice Ac x.e.r.length cc, x.e⟩ : Ent) :: b1.mem.drop i = l9 := ⟨_, rfl⟩
                 rw [hl9] at hown9
                 obtain ⟨A9, c9, rfl, -⟩ := Sl.of_own hown9.own
                 have hrow : (Value.slice Am1 b1.mem.length cm1).ownBlock = b1.vm.ownBlock := by rw [HVM1.out]
                 rw [hrow] at hg9 hat9
                 have K9 := KO8.grown hg9 (fun e => HOF.out.mem _ (.inl e) rfl)
                 have q9 := K9.cell 1 _ rfl
                 have e9 := K9.free 1))
            all_goals
              have hg79 := grown_trans (grown_of_below hb78a b1.vm.ownBlock) hg9
              have hbk := eblk_lay (v := b1.vm) (l := b1.mem) (a := i) (n := w7.heap.size) (c := (⟨.slice Ac x.e.r.length cc, x.e⟩ : Ent)) (v' := (.slice A9 l9.length c9)) (fun k hk => by
                rcases hat9 with h | h
                · exact .inl (h ▸ hk)
                · exact .inr (Nat.le_trans hb78a.size (h k hk))) (fun k hk => by have := (hcf k hk).1; simpa using this)
              rw [hl9] at hbk
              have hens : ens l9 = insE (ens b.mem) x.e := by
                rw [← hl9, ens_lay, ← insE_at HPS.out, HEM.out]
              have hl3 : l9.length = (insE (ens b.mem) x.e).length := by have := congrArg List.length hens; rwa [ens_len] at this
              have hin := (insE_perm (ens b.mem) x.e).length_eq
              rw [List.length_cons, ens_len] at hin
              have hbw9 := below_grown (below_trans hbw7 hb78a) hg9 (fun k hk => by have := own_ge HOB7.out.mem.own k hk; omega)
              have HB3 := Lib.hid (HOB7.out.memGrown hown9 hg79 hbk)
              have HF3 := Lib.hid (HOF.out.setMem (v := (.slice A9 l9.length c9)) (l := l9) (fun k hk => by
                rcases hbk k hk with h | h
                · exact HOF.out.mem k h
                · omega))
              have HR9 := ((HR7.out.below hb78a).grown hg9 (fun e => by have := own_ge HOB7.out.mem.own _ e; omega))
              have HD9 := ((keeps_below hb78a).trans (ko_own (HOB7.out.below hb78a).mem.own hg9)).same D _ HD7.out rfl
              have hbw4 := hbw9.setCell (p := ⟨w6.heap.size, 1, none⟩) (by show w.heap.size ≤ w6.heap.size; exact hw6s) (.slice A9 l9.length c9)
              have HKO4 := Lib.hid (K9.set_ 1 (.slice A9 l9.length c9))
              have HR4 := Lib.hid (HR9.far (p := ⟨w6.heap.size, 1, none⟩) (by show w.heap.size + 1 + 1 ≠ w6.heap.size; omega) (.slice A9 l9.length c9))
              have HD4 := Lib.hid ((KeepsOthers.setCell w9 ⟨w6.heap.size, 1, none⟩ (.slice A9 l9.length c9)).same D _ HD9 rfl)
              have HB4 := Lib.hid (HB3.out.setOff (p := ⟨w6.heap.size, 1, none⟩) HF3.out (.slice A9 l9.length c9))
              have HE3 := Lib.hid hens
              have hle3 : l9.length ≤ 1000000 := by omega
              have HL3 := Lib.hid hl3
              have u0 := HKO4.out.cell 0 (.int .i64 b.limit) rfl
              have u1 := HKO4.out.cell 1 (.slice A9 l9.length c9) rfl
              have u2 := HKO4.out.cell 2 (.slice Ar1 b1.runs.length cr1) rfl
              have hr8 : b1.runs.length ≤ 1000000 := by rw [HR1'.out]; omega
              have hsz3 : w6.heap.size < w9.heap.size := K9.lt
              have hw65 : w.heap.size + 5 ≤ w6.heap.size := by omega
              clear hown9 hg9 hg79 hbk hat9 hl9 hens hbw9 hl3 hin q1 x0 x1 x2 x3 x4 hcv hcf hb8 hb78 hb78a h8s KO8 f8 f9 HIN hrow K9 q9 e9 HR9 HD9
              by_cases hbig : b.limit < (l9.length : Int)
              · have HPX : Hid ((⟨b1.limit, .slice none 0 0, [], .slice none 0 0, b1.runs ++ [((.slice A9 l9.length c9), l9)]⟩ : Buf).bu = putB b.bu x.e) := Lib.hid (by
                  rw [HPB.out, if_pos (by rw [← HL3.out]; exact hbig), ← HRU.out, ← HE3.out, ← HLI.out]
                  simp [Buf.bu, ens])
                have HB5 := Lib.hid (HB4.out.below (below_alloc _ (.cells #[(.slice A9 l9.length c9)] 22)))
                have K5 := Lib.hid (HKO4.out.alloc (.cells #[(.slice A9 l9.length c9)] 22))
                have K6 := Lib.hid (HR4.out.alloc (.cells #[(.slice A9 l9.length c9)] 22))
                have HD5 := Lib.hid ((KeepsOthers.alloc _ (.cells #[(.slice A9 l9.length c9)] 22)).same D _ HD4.out rfl)
                have hb5 := below_trans hbw4 (below_alloc _ (.cells #[(.slice A9 l9.length c9)] 22))
                have HS5 := Lib.hid (one_cellR (w9.setCell ⟨w6.heap.size, 1, none⟩ (.slice A9 l9.length c9)) 22 (.slice A9 l9.length c9))
                rw [World.size_setCell] at HS5
                have HBZ : Hid (W.heap.size + 5 ≤ ((w9.setCell ⟨w6.heap.size, 1, none⟩ (.slice A9 l9.length c9)).alloc (.cells #[(.slice A9 l9.length c9)] 22)).heap.size) := Lib.hid (by simp; omega)
                have HSL := Lib.hid HB5.out.sl
                dsimp only at HSL
                rw [HVR1.out] at HSL
                gi_wp2_with (gi_at_builtin; refine wpListIn_app rfl (.tmp 62) (.tmp 65) 23 rfl (W.heap.size + 5) 22 1 24 Tryd.underlying23 runI (.slice Ar1 b1.runs.length cr1) b1.runs.length _ rfl HSL.out _ 1 [(.slice A9 l9.length c9)] rfl HS5.out rfl (by simp; rfl) ?_ ?_ HBZ.out ?_)
                · unfold maxLen; omega
                · omega
                · intro v7 w10 hown7 hg7 hat7
                  obtain ⟨A7, c7, hv7, -⟩ := Sl.of_own hown7
                  subst hv7
                  rw [← HVR1.out] at hg7 hat7
                  have h6 := HB5.out.spill hown7 hg7 (by rw [World.size_alloc, World.size_setCell]; exact hat7)
                  have f6 := HF3.out.spill (v' := .slice A7 (b1.runs.length + 1) c7) hat7 (by simp [World.size_setCell]; omega)
                  have HPY : Hid ((⟨b1.limit, .slice none 0 0, [], .slice A7 (b1.runs.length + 1) c7, b1.runs ++ [((.slice A9 l9.length c9), l9)]⟩ : Buf).bu = putB b.bu x.e) := Lib.hid HPX.out
                  have hge := own_ge HB5.out.sl
                  have hbw7 := below_grown hb5 hg7 (fun k hk => by have := hge k hk; omega)
                  have K7 := Lib.hid (K5.out.grown hg7 (fun e => HF3.out.vr _ e rfl))
                  have K8 := Lib.hid (K6.out.grown hg7 (fun e => by have := hge _ e; omega))
                  have HD10 := (ko_own HB5.out.sl hg7).same D _ HD5.out rfl
                  have q7 := K7.out.cell 2 _ rfl
                  have e7 := K7.out.free 2
                  have K9 := Lib.hid (K7.out.set_ 2 (.slice A7 (b1.runs.length + 1) c7))
                  have q8 := K9.out.cell 1 (.slice A9 l9.length c9) rfl
                  have e8 := K9.out.free 1
                  have K10 := K9.out.set_ 1 (.slice none 0 0)
                  have t0 := K10.cell 0 (.int .i64 b.limit) rfl
                  have t1 := K10.cell 1 (.slice none 0 0) rfl
                  have t2 := K10.cell 2 (.slice A7 (b1.runs.length + 1) c7) rfl
                  have K11 := (K8.out.far (p := ⟨w6.heap.size, 2, none⟩) (by show w.heap.size + 1 + 1 ≠ w6.heap.size; omega) (.slice A7 (b1.runs.length + 1) c7)).far (p := ⟨w6.heap.size, 1, none⟩) (by show w.heap.size + 1 + 1 ≠ w6.heap.size; omega) (.slice none 0 0)
                  have r0 := K11.cell 0 _ rfl
                  have r1 := K11.cell 1 _ rfl
                  have r2 := K11.cell 2 _ rfl
                  have g0 := K11.free 0
                  have g1 := K11.free 1
                  have g2 := K11.free 2
                  have hp : ∀ i, (⟨w.heap.size + 1 + 1, i, none⟩ : Addr).block < W.heap.size + 5 := fun i => by show w.heap.size + 1 + 1 < _; omega
                  have hq : ∀ i, w.heap.size ≤ (⟨w.heap.size + 1 + 1, i, none⟩ : Addr).block := fun i => by show w.heap.size ≤ w.heap.size + 1 + 1; omega
                  have hq1 : ∀ i, w.heap.size ≤ (⟨w6.heap.size, i, none⟩ : Addr).block := fun i => hw6s
                  have HO9 := ((((h6.setOff (p := ⟨w6.heap.size, 2, none⟩) f6 (.slice A7 (b1.runs.length + 1) c7)).setOff (p := ⟨w6.heap.size, 1, none⟩) f6 (.slice none 0 0)).setFar (hp 0) (.int .i64 b.limit)).setFar (hp 1) (.slice none 0 0)).setFar (hp 2) (.slice A7 (b1.runs.length + 1) c7)
                  have hb9 := ((((hbw7.setCell (hq1 2) (.slice A7 (b1.runs.length + 1) c7)).setCell (hq1 1) (.slice none 0 0)).setCell (hq 0) (.int .i64 b.limit)).setCell (hq 1) (.slice none 0 0)).setCell (hq 2) (.slice A7 (b1.runs.length + 1) c7)
                  have HKK := Lib.hid ((((((KeepsOthers.setCell w10 ⟨w6.heap.size, 2, none⟩ (.slice A7 (b1.runs.length + 1) c7)).trans (KeepsOthers.setCell _ ⟨w6.heap.size, 1, none⟩ (.slice none 0 0))).trans (KeepsOthers.setCell _ ⟨w.heap.size + 1 + 1, 0, none⟩ (.int .i64 b.limit))).trans (KeepsOthers.setCell _ ⟨w.heap.size + 1 + 1, 1, none⟩ (.slice none 0 0))).trans (KeepsOthers.setCell _ ⟨w.heap.size + 1 + 1, 2, none⟩ (.slice A7 (b1.runs.length + 1) c7))).same D _ HD10 rfl)
                  have Z := blk_put (o' := .deferred none) (((K11.set_ 0 (.int .i64 b.limit)).set_ 1 (.slice none 0 0)).set_ 2 (.slice A7 (b1.runs.length + 1) c7)) HKK.out rfl
                  have z0 := Z.cell 0 (.int .i64 b.limit) rfl
                  have z1 := Z.cell 1 (.slice none 0 0) rfl
                  have z2 := Z.cell 2 (.slice A7 (b1.runs.length + 1) c7) rfl
                  have H9 := Lib.hid ((HO9.recd (grownBy_putObj' _ D (.deferred none)) (fun r e => by cases e; exact ⟨_, HKK.out, rfl⟩)).low (show w.heap.size ≤ W.heap.size + 5 by omega))
                  clear hown7 hg7 hat7 hge h6 f6 hbw7 hp hq hq1 K10 K11 Z HO9 HD10
                  gi_wp2
                  refine ⟨by simp, .inl ⟨_, _, rfl, run_takeDeferred HKK.out, ?_⟩⟩
                  exact ⟨.tuple #[.agg #[.int .i64 b.limit, .slice none 0 0, .slice A7 (b1.runs.length + 1) c7], .int .i64 0], by simp [results, Tryd.results6, go_sem, z0, z1, z2], ⟨b1.limit, .slice none 0 0, [], .slice A7 (b1.runs.length + 1) c7, b1.runs ++ [((.slice A9 l9.length c9), l9)]⟩, by rw [HLI.out, EE.out], H9.out, by rw [EE.out]; exact HPY.out, hb9.trans (belowK_b (w := W0) (by omega) _ D _ _ hD HKK.out rfl rfl)⟩
              · have HPX : Hid ((⟨b1.limit, (.slice A9 l9.length c9), l9, b1.vr, b1.runs⟩ : Buf).bu = putB b.bu x.e) := Lib.hid (by
                  rw [HPB.out, if_neg (by rw [← HL3.out]; exact hbig), ← HRU.out, ← HE3.out, ← HLI.out]
                  rfl)
                have r0 := HR4.out.cell 0 _ rfl
                have r1 := HR4.out.cell 1 _ rfl
                have r2 := HR4.out.cell 2 _ rfl
                have g3 := HR4.out.free 0
                have g4 := HR4.out.free 1
                have g5 := HR4.out.free 2
                have hp : ∀ i, (⟨w.heap.size + 1 + 1, i, none⟩ : Addr).block < W.heap.size + 5 := fun i => by show w.heap.size + 1 + 1 < _; omega
                have hq : ∀ i, w.heap.size ≤ (⟨w.heap.size + 1 + 1, i, none⟩ : Addr).block := fun i => by show w.heap.size ≤ w.heap.size + 1 + 1; omega
                have HO9 := ((HB4.out.setFar (hp 0) (.int .i64 b.limit)).setFar (hp 1) (.slice A9 l9.length c9)).setFar (hp 2) (.slice Ar1 b1.runs.length cr1)
                have hb9 := ((hbw4.setCell (hq 0) (.int .i64 b.limit)).setCell (hq 1) (.slice A9 l9.length c9)).setCell (hq 2) (.slice Ar1 b1.runs.length cr1)
                have HKK := Lib.hid ((((KeepsOthers.setCell (w9.setCell ⟨w6.heap.size, 1, none⟩ (.slice A9 l9.length c9)) ⟨w.heap.size + 1 + 1, 0, none⟩ (.int .i64 b.limit)).trans (KeepsOthers.setCell _ ⟨w.heap.size + 1 + 1, 1, none⟩ (.slice A9 l9.length c9))).trans (KeepsOthers.setCell _ ⟨w.heap.size + 1 + 1, 2, none⟩ (.slice Ar1 b1.runs.length cr1))).same D _ HD4.out rfl)
                have Z := blk_put (o' := .deferred none) (((HR4.out.set_ 0 (.int .i64 b.limit)).set_ 1 (.slice A9 l9.length c9)).set_ 2 (.slice Ar1 b1.runs.length cr1)) HKK.out rfl
                have z0 := Z.cell 0 (.int .i64 b.limit) rfl
                have z1 := Z.cell 1 (.slice A9 l9.length c9) rfl
                have z2 := Z.cell 2 (.slice Ar1 b1.runs.length cr1) rfl
                have H9 := Lib.hid ((HO9.recd (grownBy_putObj' _ D (.deferred none)) (fun r e => by cases e; exact ⟨_, HKK.out, rfl⟩)).low (show w.heap.size ≤ W.heap.size + 5 by omega))
                clear hp hq Z HO9
                gi_wp2
                refine ⟨by simp, .inl ⟨_, _, rfl, run_takeDeferred HKK.out, ?_⟩⟩
                exact ⟨.tuple #[.agg #[.int .i64 b.limit, (.slice A9 l9.length c9), .slice Ar1 b1.runs.length cr1], .int .i64 0], by simp [results, Tryd.results6, go_sem, z0, z1, z2], ⟨b1.limit, (.slice A9 l9.length c9), l9, b1.vr, b1.runs⟩, by rw [HLI.out, HVR1.out, EE.out], H9.out, by rw [EE.out]; exact HPX.out, hb9.trans (belowK_b (w := W0) (by omega) _ D _ _ hD HKK.out rfl rfl)⟩
        case stop =>
          rintro D c pre W hD hpre ⟨⟩
  · have EE := Lib.hid (HR.out.trans (if_pos hck))
    have hb0 := bneT hck
    generalize checkB b.bu = ck at EE hb0 ⊢
    have r0 := HA2.out.cell 0 _ rfl
    have r1 := HA2.out.cell 1 _ rfl
    have r2 := HA2.out.cell 2 _ rfl
    have g0 := HA2.out.free 0
    have g1 := HA2.out.free 1
    have g2 := HA2.out.free 2
    have Z := ((HA2.out.set_ 0 (.int .i64 0)).set_ 1 (.slice none 0 0)).set_ 2 (.slice none 0 0)
    have z0 := Z.cell 0 (.int .i64 0) rfl
    have z1 := Z.cell 1 (.slice none 0 0) rfl
    have z2 := Z.cell 2 (.slice none 0 0) rfl
    have hq : ∀ i, w.heap.size ≤ (⟨w.heap.size + 1 + 1, i, none⟩ : Addr).block := fun i => by show w.heap.size ≤ w.heap.size + 1 + 1; omega
    have hb9 := ((hbw1.setCell (hq 0) (.int .i64 0)).setCell (hq 1) (.slice none 0 0)).setCell (hq 2) (.slice none 0 0)
    clear hq Z
    gi_wp2
    exact ⟨.tuple #[.agg #[.int .i64 0, .slice none 0 0, .slice none 0 0], .int .i64 ck], by simp [results, Tryd.results6, go_sem, z0, z1, z2], zB, by (first | (rw [EE.out]; done) | (rw [EE.out]; rfl)), OwnBuf.empty _ _ _, by (first | (rw [EE.out]; done) | (rw [EE.out]; rfl)), hb9⟩

end Go.Proofs.YteabfalklgffmaaDoor
