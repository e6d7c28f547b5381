/-
  BufferAlike.
-/
import Derived.Test.YteabfalklgffmaaDoorBuf28
import Derived.Test.YteabfalklgffmaaDoorBuf30
import Derived.Test.YteabfalklgffmaaDoorBufLaw5
import Derived.Test.YteabfalklgffmaaDoorBuf10
import Derived.Deep.CutRange
set_option linter.unusedSimpArgs false
set_option linter.unusedVariables false
namespace Go.Proofs.YteabfalklgffmaaDoor
open Go.RowKit

theorem OwnBuf.offLow {w : World} {base : Nat} {b : Buf} (h : OwnBuf w base b) {o : Nat} (ho : o < base) : b.off o :=
  ⟨fun k hk => by have := (h.mem.range hk).1; omega, fun k hk => by have := own_ge h.sl k hk; omega, fun q hq k hk => by have := ((h.runs q hq).range hk).1; omega⟩
theorem newB_fst {n : Int} (h : inB n 1 64 = true) : newB n = (n, 0) := if_pos h
theorem newB_snd {n : Int} (h : inB n 1 64 = false) : newB n = (0, 3) := if_neg (by rw [h]; simp)

theorem OwnBuf.set3Off {w : World} {base : Nat} {b : Buf} (h : OwnBuf w base b) {g : Nat} (hf : b.off g) (u0 u1 u2 : Value) : OwnBuf (((w.setCell ⟨g, 0, none⟩ u0).setCell ⟨g, 1, none⟩ u1).setCell ⟨g, 2, none⟩ u2) base b := ((h.setOff (p := ⟨g, 0, none⟩) hf u0).setOff (p := ⟨g, 1, none⟩) hf u1).setOff (p := ⟨g, 2, none⟩) hf u2
theorem cell_far3 {w : World} {g k gd : Nat} {u : Value} (h : w.cell? ⟨gd, k, none⟩ = some u) (hne : gd ≠ g) (u0 u1 u2 : Value) : (((w.setCell ⟨g, 0, none⟩ u0).setCell ⟨g, 1, none⟩ u1).setCell ⟨g, 2, none⟩ u2).cell? ⟨gd, k, none⟩ = some u := by
  rw [World.cell?_of_block (Below.heap_setCell _ ⟨g, 2, none⟩ u2 gd hne), World.cell?_of_block (Below.heap_setCell _ ⟨g, 1, none⟩ u1 gd hne), World.cell?_of_block (Below.heap_setCell _ ⟨g, 0, none⟩ u0 gd hne)]
  exact h
theorem dropGood_any (b : Buf) (upto : Int) (w : World) (hb : b.ok w) (hf : b.fit) (hm : Mx w) (hg : GoodB b.bu) :
    Calls Tryd.prog 13 #[b.agg, .int .i64 upto] w fun e w' => ∃ b' : Buf, e = .returned (.tuple #[b'.agg, .int .i64 0]) ∧ OwnBuf w' w.heap.size b' ∧ b'.bu = dropB b.bu upto ∧ Below w.heap.size w w' := by
  have h := drop_any b upto w hb hf hm
  rw [check_zeroB.2 hg, if_pos rfl] at h
  exact h
theorem packGood_any (b : Buf) (w : World) (hb : b.ok w) (hf : b.fit) (hm : Mx w) (hg : GoodB b.bu) :
    Calls Tryd.prog 14 #[b.agg] w fun e w' => ∃ b' : Buf, e = .returned (.tuple #[b'.agg, .int .i64 0]) ∧ OwnBuf w' w.heap.size b' ∧ b'.bu = packB b.bu ∧ Below w.heap.size w w' := by
  have h := pack_any b w hb hf hm
  rw [check_zeroB.2 hg, if_pos rfl] at h
  exact h
theorem allGood_any (b : Buf) (w : World) (hb : b.ok w) (hf : b.fit) (hm : Mx w) (hg : GoodB b.bu) :
    Calls Tryd.prog 15 #[b.agg] w fun e w' => ∃ v l, e = .returned (.tuple #[v, .int .i64 0]) ∧ Ents w' v l ∧ ens l = sortE b.bu.all ∧ Below w.heap.size w w' := by
  have h := all_any b w hb hf hm
  rw [check_zeroB.2 hg, if_pos rfl] at h
  exact h.mono fun _ _ ⟨v, l, h1, h2, h3, h4⟩ => ⟨v, l, h1, h2.ents, h3, h4⟩
theorem goodFit {a : Buf} (hg : GoodB a.bu) (hF : ∀ e ∈ a.bu.all, FineE e) : a.fit :=
  fit_of (by have := hg.limit; have e : a.bu.limit = a.limit := rfl; omega) hF (by have := hg.few; omega) (by have h1 := good_runs hg; rw [show a.bu.runs.length = a.runs.length from List.length_map _]; omega)
theorem fine_drop {b : Bu} {upto : Int} (h : ∀ e ∈ b.all, FineE e) : ∀ e ∈ (dropB b upto).all, FineE e := by
  intro e he
  rw [dropB_sift', siftB_all] at he
  obtain ⟨x, hx, hy⟩ := List.mem_flatMap.1 he
  obtain ⟨-, rfl⟩ := mem_siftF hy
  exact h x hx
theorem fine_put {b : Bu} {x : En} (h : ∀ e ∈ b.all, FineE e) (hx : FineE x) : ∀ e ∈ (putB b x).all, FineE e := by
  intro e he
  rcases List.mem_cons.1 ((putB_perm b x).subset he) with rfl | he
  · exact hx
  · exact h e he
theorem buf_slices {w : World} {b : Buf} (h : b.ok w) : ∃ Am cm Ar cr, b.vm = .slice Am b.mem.length cm ∧ b.vr = .slice Ar b.runs.length cr := by
  obtain ⟨Am, cm, h1, -⟩ := h.mem.sl
  obtain ⟨Ar, cr, h2, -⟩ := h.sl
  exact ⟨Am, cm, Ar, cr, h1, h2⟩

set_option maxHeartbeats 16000000 in
set_option maxRecDepth 100000 in
theorem alike_loop (one two : Int) (v vd : Value) (l : List Ent) (ld : List Int) (w : World) (hl : Ents w v l) (hf : ∀ x ∈ l, FineE x.e) (hll : l.length ≤ 200) (hd : Sl w vd ld.length (intCells ld)) (hm : Mx w) (h1 : inB one 1 64 = true) (h2 : inB two 1 64 = true) :
    Calls Tryd.prog 4 #[.int .i64 one, .int .i64 two, v, vd] w fun e w' => e = .returned (.bool true) ∧ Below w.heap.size w w' := by
  have HM := Lib.hid hm
  have HL := Lib.hid hl
  have HF := Lib.hid hf
  have HD := Lib.hid hd
  have HAE := Lib.hid (alike_empty h1 h2)
  have hl1 := of_decide_eq_true h1
  have hl2 := of_decide_eq_true h2
  have HLI := Lib.hid (And.intro hl1 hl2)
  have HNA := Lib.hid (fun w' => new_any one w')
  have HNB := Lib.hid (fun w' => new_any two w')
  rw [newB_fst h1] at HNA
  rw [newB_fst h2] at HNB
  have HBG := Lib.hid (fun w' (h : Below w.heap.size w w') => begunB_any w' (hm.below h))
  obtain ⟨A, c, rfl, q1, q2, -⟩ := id hl.sl
  obtain ⟨Ad, cd, rfl, e1, e2, -⟩ := id hd
  unfold maxLen at e2
  clear hl hf hd hm h1 h2 hl1 hl2
  go_enter Tryd.func4, Tryd.ntmps4
  go_wp2_with fail
  refine (HNA.out _).mono ?_
  rintro e w1 ⟨rfl, hb1⟩
  have HK1 := Lib.hid (Blk.new w1 25 #[.int .i64 one, .slice none 0 0, .slice none 0 0])
  have hbw1 := below_trans hb1 (below_alloc w1 (.cells #[.int .i64 one, .slice none 0 0, .slice none 0 0] 25))
  have hs1 := hb1.size
  clear HNA hb1
  go_wp2_with fail
  refine (HNB.out _).mono ?_
  rintro e w2 ⟨rfl, hb2⟩
  have HL1 := Lib.hid ((HK1.out.below hb2).alloc (.cells #[.int .i64 two, .slice none 0 0, .slice none 0 0] 25))
  have HL2 := Lib.hid (Blk.new w2 25 #[.int .i64 two, .slice none 0 0, .slice none 0 0])
  have hbw2 := below_trans (below_trans hbw1 hb2) (below_alloc w2 (.cells #[.int .i64 two, .slice none 0 0, .slice none 0 0] 25))
  have hs2 : w1.heap.size < w2.heap.size := by have := hb2.size; simp at this; omega
  have hgt : decide ((200 : Int) < (l.length : Int)) = false := decide_eq_false (by omega)
  clear HNB HK1 hb2 hbw1
  go_wp2_with fail
  go_loopw [13, 14, 15, 16, 17, 18, 19] (fun i _ _ _ _ _ _ wr => ∃ (n : Nat) (a b : Buf), i = .int .i64 n ∧ n ≤ l.length ∧ Hid (AlikeB a.bu b.bu) ∧ Hid (∀ e ∈ a.bu.all, FineE e) ∧ Hid (a.limit = one ∧ b.limit = two) ∧ Hid (OwnBuf wr (w2.heap.size + 1) a) ∧ Hid (OwnBuf wr (w2.heap.size + 1) b) ∧ Hid (Blk wr w1.heap.size 25 #[.int .i64 a.limit, a.vm, a.vr]) ∧ Hid (Blk wr w2.heap.size 25 #[.int .i64 b.limit, b.vm, b.vr]) ∧ Below w.heap.size w wr) (fun i _ _ _ _ _ _ _ => l.length - (intOf i).toNat)
  case atStart => exact ⟨0, ⟨one, .slice none 0 0, [], .slice none 0 0, []⟩, ⟨two, .slice none 0 0, [], .slice none 0 0, []⟩, rfl, by omega, HAE, Lib.hid (fun e he => by simp [Buf.bu, Bu.all, Bu.parts, ens] at he), Lib.hid ⟨rfl, rfl⟩, Lib.hid (OwnBuf.empty _ _ _), Lib.hid (OwnBuf.empty _ _ _), HL1, HL2, hbw2⟩
  case round =>
    clear HL1 HL2 hbw2
    obtain ⟨n, a, b, rfl, hn, HAL, HFI, HLM, HOA, HOB, HKA, HKB, hbw⟩ := hrel
    by_cases hlt : n < l.length
    · have hx := List.getElem?_eq_getElem hlt
      generalize l[n] = x at hx
      have HSX := Lib.hid (HL.out.rows x (List.mem_of_getElem? hx))
      have HFX := Lib.hid (HF.out x (List.mem_of_getElem? hx))
      obtain ⟨g5, off5, rfl, hg5, hc⟩ := ent_at HL.out.sl rfl hx
      obtain ⟨Ax, cx, hvx, -⟩ := id HSX.out
      have HC := Lib.hid hc
      have HVX := Lib.hid hvx
      have HAF := Lib.hid (goodFit HAL.out.one HFI.out)
      have HBF := Lib.hid (goodFit HAL.out.two (fun e he => HFI.out e (HAL.out.perm.symm.subset he)))
      have HPA := Lib.hid (fun w' (h : Below wr.heap.size wr w') => put_any a x w' (HOA.out.ok.below h) HAF.out (HSX.out.below (below_trans hbw h)) HFX.out (HM.out.below (below_trans hbw h)))
      have HPB := Lib.hid (fun w' (h : Below wr.heap.size wr w') => put_any b x w' (HOB.out.ok.below h) HBF.out (HSX.out.below (below_trans hbw h)) HFX.out (HM.out.below (below_trans hbw h)))
      have HPQ := Lib.hid (HAL.out.putS x.e)
      generalize putS a.bu x.e = RA at HPA HPQ
      generalize putS b.bu x.e = RB at HPB HPQ
      unfold Buf.agg at HPA HPB
      unfold Ent.agg at HPA HPB
      have y0 := HKA.out.cell 0 _ rfl
      have y1 := HKA.out.cell 1 _ rfl
      have y2 := HKA.out.cell 2 _ rfl
      have k0 : (0 : Int) ≤ (n : Int) := by omega
      have k1 : (n : Int) < (l.length : Int) := by omega
      obtain ⟨d0, d1, d2, d3, d4⟩ := hc _ hbw
      have hA9 : w1.heap.size ≠ wr.heap.size := fun e => by have := HKA.out.lt; omega
      have hG9 : g5 ≠ wr.heap.size := fun e => by have := hbw.size; omega
      clear hx hc hvx
      have HS1 := Lib.hid (fun V (h : Below wr.heap.size wr V) => (And.intro ((HKA.out.below h).cell 0 _ rfl) (And.intro ((HKA.out.below h).cell 1 _ rfl) (And.intro ((HKA.out.below h).cell 2 _ rfl) (HC.out V (below_trans hbw h)))) : V.cell? ⟨w1.heap.size, 0, none⟩ = some (.int .i64 a.limit) ∧ V.cell? ⟨w1.heap.size, 1, none⟩ = some a.vm ∧ V.cell? ⟨w1.heap.size, 2, none⟩ = some a.vr ∧ V.cell? ⟨g5, off5 + n * 5, none⟩ = some (.string (str x.e.key)) ∧ V.cell? ⟨g5, off5 + n * 5 + 1, none⟩ = some (.int .i64 x.e.t) ∧ V.cell? ⟨g5, off5 + n * 5 + 2, none⟩ = some (.int .i64 x.e.s) ∧ V.cell? ⟨g5, off5 + n * 5 + 3, none⟩ = some x.v ∧ V.cell? ⟨g5, off5 + n * 5 + 4, none⟩ = some (.bool x.e.met)))
      go_upto_region 8 with fail
      go_cut [14, 15] from 42 to 144 (fun xv gv wx => ∃ (X : Nat) (x1 : Buf), xv = .pointer (some ⟨X, 0, none⟩) ∧ gv = .int .i64 RA.2 ∧ wr.heap.size ≤ X ∧ Hid (Blk wx X 25 #[.int .i64 x1.limit, x1.vm, x1.vr]) ∧ Hid (OwnBuf wx wr.heap.size x1) ∧ Hid (x1.off X) ∧ Hid (x1.bu = RA.1) ∧ Below wr.heap.size wr wx)
      case first =>
        have hbv : Below wr.heap.size wr wr.drew := (Below.refl _ _).drew
        go_region_held3 (fun w' => w'.cell? ⟨w1.heap.size, 0, none⟩ = some (.int .i64 a.limit) ∧ w'.cell? ⟨w1.heap.size, 1, none⟩ = some a.vm ∧ w'.cell? ⟨w1.heap.size, 2, none⟩ = some a.vr ∧ w'.cell? ⟨g5, off5 + n * 5, none⟩ = some (.string (str x.e.key)) ∧ w'.cell? ⟨g5, off5 + n * 5 + 1, none⟩ = some (.int .i64 x.e.t) ∧ w'.cell? ⟨g5, off5 + n * 5 + 2, none⟩ = some (.int .i64 x.e.s) ∧ w'.cell? ⟨g5, off5 + n * 5 + 3, none⟩ = some x.v ∧ w'.cell? ⟨g5, off5 + n * 5 + 4, none⟩ = some (.bool x.e.met))
          (first
            | with_reducible exact HS1.out _ hbv
            | exact HS1.out _ (below_trans hbv (below_alloc _ _))
            | exact HS1.out _ (below_alloc _ _).drew
            | exact HS1.out _ (below_set3 hbv (Nat.le_refl _) _ _ _))
          (first
            | (go_at_call 6; refine (HPA.out _ (by first | exact hbv | exact below_trans hbv (below_alloc _ _) | exact (below_alloc _ _).drew)).mono ?_; rintro e v5 ⟨x1, rfl, hox, hux, hv5⟩; obtain ⟨Am, cm, hvm, -⟩ := id hox.ok.mem.sl; obtain ⟨Ar, cr, hvr, -⟩ := id hox.ok.sl; have HVM := Lib.hid hvm; have HVR := Lib.hid hvr; rw [hvm, hvr]; have HOX := Lib.hid hox; have HUX := Lib.hid hux; have HV5 := Lib.hid hv5; have hbv := (by first | exact below_trans hbv hv5 | exact below_trans (below_trans hbv (below_alloc _ _)) hv5 | exact below_trans (below_alloc _ _).drew hv5 : Below wr.heap.size wr v5); first | (have KX := (Blk.new wr 25 #[.int .i64 0, .slice none 0 0, .slice none 0 0]).drew.below hv5; have r0 := KX.cell 0 _ rfl; have r1 := KX.cell 1 _ rfl; have r2 := KX.cell 2 _ rfl; have f0 := KX.free 0; have f1 := KX.free 1; have f2 := KX.free 2; clear KX) | skip; clear hox hux hv5 hvm hvr))
        all_goals
          go_wp2_with fail
          go_meet
          first
            | exact ⟨v5.heap.size, x1, rfl, rfl, hbv.size, Lib.hid (by rw [HVM.out, HVR.out]; exact Blk.new v5 25 #[.int .i64 x1.limit, .slice Am x1.mem.length cm, .slice Ar x1.runs.length cr]), Lib.hid (HOX.out.below (below_alloc v5 _)), Lib.hid (HOX.out.off (Nat.le_refl _)), HUX, below_trans hbv (below_alloc v5 _)⟩
            | exact ⟨wr.heap.size, x1, rfl, rfl, Nat.le_refl _, Lib.hid (by rw [HVM.out, HVR.out]; exact ((Blk.new wr 25 #[.int .i64 0, .slice none 0 0, .slice none 0 0]).drew.below HV5.out).set3 (.int .i64 x1.limit) (.slice Am x1.mem.length cm) (.slice Ar x1.runs.length cr)), Lib.hid ((HOX.out.set3 (g := wr.heap.size) (by simp) (.int .i64 x1.limit) (.slice Am x1.mem.length cm) (.slice Ar x1.runs.length cr)).low (by simp)), Lib.hid (HOX.out.offLow (by simp)), HUX, below_set3 hbv (Nat.le_refl _) _ _ _⟩
      case rest =>
        obtain ⟨X, x1, rfl, rfl, hX, HKX, HOX, HFX1, HUX, hb3⟩ := hcut
        obtain ⟨V1, hV1⟩ : ∃ V, V = wc := ⟨_, rfl⟩
        subst hV1
        have HKA1 := Lib.hid (HKA.out.below hb3)
        have HKB1 := Lib.hid (HKB.out.below hb3)
        have HOA1 := Lib.hid (HOA.out.below hb3)
        have HOB1 := Lib.hid (HOB.out.below hb3)
        have HAX := Lib.hid (HOA.out.off hX)
        have HBX := Lib.hid (HOB.out.off hX)
        have hbwV1 := below_trans hbw hb3
        have HPB2 := Lib.hid (fun w' (h : Below V1.heap.size V1 w') => HPB.out w' (below_trans hb3 h))
        have HWR := Lib.hid (And.intro hX (And.intro HKB.out.lt hb3.size))
        have y0 := HKB1.out.cell 0 _ rfl
        have y1 := HKB1.out.cell 1 _ rfl
        have y2 := HKB1.out.cell 2 _ rfl
        obtain ⟨d0, d1, d2, d3, d4⟩ := HC.out _ hbwV1
        clear HPA HPB HKA HKB HOA HOB HS1 hb3 hX
        have HS2 := Lib.hid (fun V (h : Below V1.heap.size V1 V) => (And.intro ((HKB1.out.below h).cell 0 _ rfl) (And.intro ((HKB1.out.below h).cell 1 _ rfl) (And.intro ((HKB1.out.below h).cell 2 _ rfl) (HC.out V (below_trans hbwV1 h)))) : V.cell? ⟨w2.heap.size, 0, none⟩ = some (.int .i64 b.limit) ∧ V.cell? ⟨w2.heap.size, 1, none⟩ = some b.vm ∧ V.cell? ⟨w2.heap.size, 2, none⟩ = some b.vr ∧ V.cell? ⟨g5, off5 + n * 5, none⟩ = some (.string (str x.e.key)) ∧ V.cell? ⟨g5, off5 + n * 5 + 1, none⟩ = some (.int .i64 x.e.t) ∧ V.cell? ⟨g5, off5 + n * 5 + 2, none⟩ = some (.int .i64 x.e.s) ∧ V.cell? ⟨g5, off5 + n * 5 + 3, none⟩ = some x.v ∧ V.cell? ⟨g5, off5 + n * 5 + 4, none⟩ = some (.bool x.e.met)))
        go_upto_region 9 with fail
        go_cut [16, 17] from 42 to 144 (fun xv gv wx => ∃ (X : Nat) (x1 : Buf), xv = .pointer (some ⟨X, 0, none⟩) ∧ gv = .int .i64 RB.2 ∧ V1.heap.size ≤ X ∧ Hid (Blk wx X 25 #[.int .i64 x1.limit, x1.vm, x1.vr]) ∧ Hid (OwnBuf wx V1.heap.size x1) ∧ Hid (x1.off X) ∧ Hid (x1.bu = RB.1) ∧ Below V1.heap.size V1 wx)
        case first =>
          have hbv : Below V1.heap.size V1 V1.drew := (Below.refl _ _).drew
          go_region_held3 (fun w' => w'.cell? ⟨w2.heap.size, 0, none⟩ = some (.int .i64 b.limit) ∧ w'.cell? ⟨w2.heap.size, 1, none⟩ = some b.vm ∧ w'.cell? ⟨w2.heap.size, 2, none⟩ = some b.vr ∧ w'.cell? ⟨g5, off5 + n * 5, none⟩ = some (.string (str x.e.key)) ∧ w'.cell? ⟨g5, off5 + n * 5 + 1, none⟩ = some (.int .i64 x.e.t) ∧ w'.cell? ⟨g5, off5 + n * 5 + 2, none⟩ = some (.int .i64 x.e.s) ∧ w'.cell? ⟨g5, off5 + n * 5 + 3, none⟩ = some x.v ∧ w'.cell? ⟨g5, off5 + n * 5 + 4, none⟩ = some (.bool x.e.met))
            (first
              | with_reducible exact HS2.out _ hbv
              | exact HS2.out _ (below_trans hbv (below_alloc _ _))
              | exact HS2.out _ (below_alloc _ _).drew
              | exact HS2.out _ (below_set3 hbv (Nat.le_refl _) _ _ _))
            (first
              | (go_at_call 6; refine (HPB2.out _ (by first | exact hbv | exact below_trans hbv (below_alloc _ _) | exact (below_alloc _ _).drew)).mono ?_; rintro e v5 ⟨x1, rfl, hox, hux, hv5⟩; obtain ⟨Am, cm, hvm, -⟩ := id hox.ok.mem.sl; obtain ⟨Ar, cr, hvr, -⟩ := id hox.ok.sl; have HVM := Lib.hid hvm; have HVR := Lib.hid hvr; rw [hvm, hvr]; have HOX := Lib.hid hox; have HUX := Lib.hid hux; have HV5 := Lib.hid hv5; have hbv := (by first | exact below_trans hbv hv5 | exact below_trans (below_trans hbv (below_alloc _ _)) hv5 | exact below_trans (below_alloc _ _).drew hv5 : Below V1.heap.size V1 v5); first | (have KX := (Blk.new V1 25 #[.int .i64 0, .slice none 0 0, .slice none 0 0]).drew.below hv5; have r0 := KX.cell 0 _ rfl; have r1 := KX.cell 1 _ rfl; have r2 := KX.cell 2 _ rfl; have f0 := KX.free 0; have f1 := KX.free 1; have f2 := KX.free 2; clear KX) | skip; clear hox hux hv5 hvm hvr))
          all_goals
            go_wp2_with fail
            go_meet
            first
              | exact ⟨v5.heap.size, x1, rfl, rfl, hbv.size, Lib.hid (by rw [HVM.out, HVR.out]; exact Blk.new v5 25 #[.int .i64 x1.limit, .slice Am x1.mem.length cm, .slice Ar x1.runs.length cr]), Lib.hid (HOX.out.below (below_alloc v5 _)), Lib.hid (HOX.out.off (Nat.le_refl _)), HUX, below_trans hbv (below_alloc v5 _)⟩
              | exact ⟨V1.heap.size, x1, rfl, rfl, Nat.le_refl _, Lib.hid (by rw [HVM.out, HVR.out]; exact ((Blk.new V1 25 #[.int .i64 0, .slice none 0 0, .slice none 0 0]).drew.below HV5.out).set3 (.int .i64 x1.limit) (.slice Am x1.mem.length cm) (.slice Ar x1.runs.length cr)), Lib.hid ((HOX.out.set3 (g := V1.heap.size) (by simp) (.int .i64 x1.limit) (.slice Am x1.mem.length cm) (.slice Ar x1.runs.length cr)).low (by simp)), Lib.hid (HOX.out.offLow (by simp)), HUX, below_set3 hbv (Nat.le_refl _) _ _ _⟩
        case rest =>
          obtain ⟨Y, z1, rfl, rfl, hY, HKY, HOY, HFY, HUY, hb4⟩ := hcut
          obtain ⟨V2, hV2⟩ : ∃ V, V = wc := ⟨_, rfl⟩
          subst hV2
          have HKA2 := Lib.hid (HKA1.out.below hb4)
          have HKB2 := Lib.hid (HKB1.out.below hb4)
          have HKX2 := Lib.hid (HKX.out.below hb4)
          have HOA2 := Lib.hid (HOA1.out.below hb4)
          have HOB2 := Lib.hid (HOB1.out.below hb4)
          have HOX2 := Lib.hid (HOX.out.below hb4)
          have HAY := Lib.hid (HOA1.out.off hY)
          have HBY := Lib.hid (HOB1.out.off hY)
          have HXY := Lib.hid (HOX.out.off hY)
          have HYX := Lib.hid (HOY.out.offLow HKX.out.lt)
          have hbwV2 := below_trans hbwV1 hb4
          have HXYn : Hid (X ≠ Y) := Lib.hid (by have := HKX.out.lt; omega)
          have HXA : Hid (w2.heap.size < X) := Lib.hid (by have h := HWR.out; have := HKX.out.lt; omega)
          have HYA : Hid (w2.heap.size < Y) := Lib.hid (by have h := HWR.out; omega)
          have HS12 := Lib.hid hs2
          have hEQ : (RA.2 != RB.2) = false := by
            have h1 := HPQ.out.1
            have h2 := HPQ.out.2
            rw [h1, h2]
            split <;> simp
          clear y0 y1 y2 d0 d1 d2 d3 d4 HPB2 HKA1 HKB1 HKX HOA1 HOB1 HOX HS2 hb4 hY hbwV1
          go_upto_if 70 with fail
          go_cut [] from 42 to 144 (fun wx => ∃ (a2 b2 : Buf), Hid (AlikeB a2.bu b2.bu) ∧ Hid (∀ e ∈ a2.bu.all, FineE e) ∧ Hid (a2.limit = one ∧ b2.limit = two) ∧ Hid (OwnBuf wx (w2.heap.size + 1) a2) ∧ Hid (OwnBuf wx (w2.heap.size + 1) b2) ∧ Hid (a2.off X ∧ a2.off Y ∧ b2.off X ∧ b2.off Y) ∧ Hid (Blk wx w1.heap.size 25 #[.int .i64 a2.limit, a2.vm, a2.vr]) ∧ Hid (Blk wx w2.heap.size 25 #[.int .i64 b2.limit, b2.vm, b2.vr]) ∧ Hid (Blk wx X 25 #[.int .i64 x1.limit, x1.vm, x1.vr]) ∧ Hid (Blk wx Y 25 #[.int .i64 z1.limit, z1.vm, z1.vr]) ∧ Below w.heap.size w wx)
          case first =>
            by_cases hp : putE b.bu x.e = 0
            · have e1 : RA = (putB a.bu x.e, 0) := by rw [HPQ.out.1, if_neg (fun h => h hp)]
              have e2 : RB = (putB b.bu x.e, 0) := by rw [HPQ.out.2, if_neg (fun h => h hp)]
              subst e1 e2
              have HAL2 := Lib.hid (HAL.out.put hp)
              have HF2 := Lib.hid (fine_put HFI.out HFX.out)
              have HU1 : Hid (x1.bu = putB a.bu x.e) := HUX
              have HU2 : Hid (z1.bu = putB b.bu x.e) := HUY
              have HL2 : Hid (x1.limit = one ∧ z1.limit = two) := Lib.hid ⟨by have h := congrArg Bu.limit HU1.out; rw [putB_limit] at h; exact h.trans HLM.out.1, by have h := congrArg Bu.limit HU2.out; rw [putB_limit] at h; exact h.trans HLM.out.2⟩
              obtain ⟨Am1, cm1, Ar1, cr1, hv1, hv2⟩ := buf_slices HOX2.out.ok
              obtain ⟨Am2, cm2, Ar2, cr2, hv3, hv4⟩ := buf_slices HOY.out.ok
              have HV1 := Lib.hid hv1
              have HV2 := Lib.hid hv2
              have HV3 := Lib.hid hv3
              have HV4 := Lib.hid hv4
              have KX := HKX2.out
              have KY := HKY.out
              rw [hv1, hv2] at KX
              rw [hv3, hv4] at KY
              have x0 := KX.cell 0 _ rfl
              have xx1 := KX.cell 1 _ rfl
              have x2 := KX.cell 2 _ rfl
              have y0 := KY.cell 0 _ rfl
              have yy1 := KY.cell 1 _ rfl
              have y2 := KY.cell 2 _ rfl
              have p0 := HKA2.out.cell 0 _ rfl
              have p1 := HKA2.out.cell 1 _ rfl
              have p2 := HKA2.out.cell 2 _ rfl
              have q0 := HKB2.out.cell 0 _ rfl
              have q1 := HKB2.out.cell 1 _ rfl
              have q2 := HKB2.out.cell 2 _ rfl
              have f0 := HKA2.out.free 0
              have f1 := HKA2.out.free 1
              have f2 := HKA2.out.free 2
              have g0 := HKB2.out.free 0
              have g1 := HKB2.out.free 1
              have g2 := HKB2.out.free 2
              have hne12 : w1.heap.size ≠ w2.heap.size := by omega
              have hneX1 : w1.heap.size ≠ X := by have := HXA.out; omega
              have hneX2 : w2.heap.size ≠ X := by have := HXA.out; omega
              have hneY1 : w1.heap.size ≠ Y := by have := HYA.out; omega
              have hneY2 : w2.heap.size ≠ Y := by have := HYA.out; omega
              clear hv1 hv2 hv3 hv4 KX KY HUX HUY hs2
              go_wp2_with fail
              go_region_with fail
              all_goals
                go_wp2_with fail
                go_meet
                have hw1r : w1.heap.size < wr.heap.size := by have h := HWR.out; have h2 := HS12.out; omega
                have hw2r : w2.heap.size < wr.heap.size := by have h := HWR.out; omega
                have hw1v : w1.heap.size < V1.heap.size := by have h := HWR.out; omega
                have hw2v : w2.heap.size < V1.heap.size := by have h := HWR.out; omega
                have hww2 : w.heap.size ≤ w2.heap.size := by have h2 := HS12.out; omega
                exact ⟨x1, z1, Lib.hid (by rw [HU1.out, HU2.out]; exact HAL2.out), Lib.hid (by rw [HU1.out]; exact HF2.out), HL2,
                  Lib.hid ((((HOX2.out.set3 hw1r _ _ _).set3 hw2r _ _ _).drew).low (by omega)), Lib.hid ((((HOY.out.set3 hw1v _ _ _).set3 hw2v _ _ _).drew).low (by omega)),
                  Lib.hid ⟨HFX1.out, HXY.out, HYX.out, HFY.out⟩, Lib.hid (by rw [HV1.out, HV2.out]; exact ((HKA2.out.set3 _ _ _).far3 hne12 _ _ _).drew), Lib.hid (by rw [HV3.out, HV4.out]; exact ((HKB2.out.far3 (Ne.symm hne12) _ _ _).set3 _ _ _).drew),
                  Lib.hid ((HKX2.out.far3 (Ne.symm hneX1) _ _ _).far3 (Ne.symm hneX2) _ _ _).drew, Lib.hid ((HKY.out.far3 (Ne.symm hneY1) _ _ _).far3 (Ne.symm hneY2) _ _ _).drew, (below_set3 (below_set3 hbwV2 hs1 _ _ _) hww2 _ _ _).drew⟩
            · have hb0 : (RA.2 == 0) = false := by rw [HPQ.out.1, if_pos hp]; simpa using hp
              go_wp2_with fail
              go_meet
              exact ⟨a, b, HAL, HFI, HLM, HOA2, HOB2, Lib.hid ⟨HAX.out, HAY.out, HBX.out, HBY.out⟩, HKA2, HKB2, HKX2, HKY, hbwV2⟩
          case rest =>
            obtain ⟨a2, b2, HAL2, HFI2, HLM2, HOA3, HOB3, HOF3, HKA3, HKB3, HKX3, HKY3, hbw3⟩ := hcut
            obtain ⟨V3, hV3⟩ : ∃ V, V = wc := ⟨_, rfl⟩
            subst hV3
            clear HKA2 HKB2 HKX2 HKY HOA2 HOB2 HOX2 HOY HAX HAY HBX HBY HFX1 HXY HYX HFY HUX HUY hbwV2 hEQ HPQ HC HVX HSX HFX HAF HBF HAL HFI HLM
            go_upto_if 76 with fail
            go_cut [] from 42 to 144 (fun wx => ∃ (a3 b3 : Buf), Hid (AlikeB a3.bu b3.bu) ∧ Hid (∀ e ∈ a3.bu.all, FineE e) ∧ Hid (a3.limit = one ∧ b3.limit = two) ∧ Hid (OwnBuf wx (w2.heap.size + 1) a3) ∧ Hid (OwnBuf wx (w2.heap.size + 1) b3) ∧ Hid (Blk wx w1.heap.size 25 #[.int .i64 a3.limit, a3.vm, a3.vr]) ∧ Hid (Blk wx w2.heap.size 25 #[.int .i64 b3.limit, b3.vm, b3.vr]) ∧ Below w.heap.size w wx)
            case first =>
              have hneX1 : w1.heap.size ≠ X := by have h1 := HXA.out; have h2 := HS12.out; omega
              have hneX2 : w2.heap.size ≠ X := by have := HXA.out; omega
              have hneY1 : w1.heap.size ≠ Y := by have h1 := HYA.out; have h2 := HS12.out; omega
              have hneY2 : w2.heap.size ≠ Y := by have := HYA.out; omega
              have hne12 : w1.heap.size ≠ w2.heap.size := by have h2 := HS12.out; omega
              have hwX : w.heap.size ≤ X := by have h1 := HXA.out; have h2 := HS12.out; omega
              have hwY : w.heap.size ≤ Y := by have h1 := HYA.out; have h2 := HS12.out; omega
              by_cases hdl : n < ld.length
              · have HG1 := HAL2.out.one
                have HG2 := HAL2.out.two
                have HFA := Lib.hid (goodFit HG1 HFI2.out)
                have HFB := Lib.hid (goodFit HG2 (fun e he => HFI2.out e (HAL2.out.perm.symm.subset he)))
                obtain ⟨gd, offd, rfl, hgd, hcd⟩ := int_at HD.out rfl hdl
                generalize ld.getD n 0 = dn at hcd
                have HDC := Lib.hid hcd
                have hndX : gd ≠ X := by have h := hgd; omega
                have hndY : gd ≠ Y := by have h := hgd; omega
                have hl0 : (0 : Int) ≤ (n : Int) := by omega
                have hl1 : (n : Int) < (ld.length : Int) := by omega
                clear hcd
                go_wp2_with fail
                have HDA := Lib.hid (fun w' (h : Below V3.heap.size V3 w') => dropGood_any a2 dn w' (HOA3.out.ok.below h) HFA.out (HM.out.below (below_trans hbw3 h)) HG1)
                have HDU : Hid (a2.bu = a2.bu) := Lib.hid rfl
                unfold Buf.agg at HDA
                have HS := Lib.hid (fun V (h : Below V3.heap.size V3 V) => (And.intro ((HKA3.out.below h).cell 0 _ rfl) (And.intro ((HKA3.out.below h).cell 1 _ rfl) (And.intro ((HKA3.out.below h).cell 2 _ rfl) (HDC.out V (below_trans hbw3 h)))) : V.cell? ⟨w1.heap.size, 0, none⟩ = some (.int .i64 a2.limit) ∧ V.cell? ⟨w1.heap.size, 1, none⟩ = some a2.vm ∧ V.cell? ⟨w1.heap.size, 2, none⟩ = some a2.vr ∧ V.cell? ⟨gd, offd + n, none⟩ = some (.int .i64 dn)))
                have hbv : Below V3.heap.size V3 V3.drew := (Below.refl _ _).drew
                go_region_held3 (fun w' => w'.cell? ⟨w1.heap.size, 0, none⟩ = some (.int .i64 a2.limit) ∧ w'.cell? ⟨w1.heap.size, 1, none⟩ = some a2.vm ∧ w'.cell? ⟨w1.heap.size, 2, none⟩ = some a2.vr ∧ w'.cell? ⟨gd, offd + n, none⟩ = some (.int .i64 dn))
                  (first
                    | with_reducible exact HSN
                    | with_reducible exact HS.out _ hbv
                    | (trace_state; fail))
                  (first
                    | (go_at_call 13; refine (HDA.out _ hbv).mono ?_; rintro e v5 ⟨x2, rfl, hox, hux, hv5⟩; obtain ⟨Amx2, cmx2, hvm, -⟩ := id hox.ok.mem.sl; obtain ⟨Arx2, crx2, hvr, -⟩ := id hox.ok.sl; have HVMx2 := Lib.hid hvm; have HVRx2 := Lib.hid hvr; rw [hvm, hvr]; have HOX := Lib.hid hox; have HUXx2 := Lib.hid hux; have hbv := below_trans hbv hv5; have KQ := HKX3.out.below hbv; have r0 := KQ.cell 0 _ rfl; have r1 := KQ.cell 1 _ rfl; have r2 := KQ.cell 2 _ rfl; have f0 := KQ.free 0; have f1 := KQ.free 1; have f2 := KQ.free 2; have KZ := (HKA3.out.below hbv).far3 hneX1 (.int .i64 x2.limit) (.slice Amx2 x2.mem.length cmx2) (.slice Arx2 x2.runs.length crx2); have HSN : (((v5.setCell ⟨X, 0, none⟩ (.int .i64 x2.limit)).setCell ⟨X, 1, none⟩ (.slice Amx2 x2.mem.length cmx2)).setCell ⟨X, 2, none⟩ (.slice Arx2 x2.runs.length crx2)).cell? ⟨w1.heap.size, 0, none⟩ = some (.int .i64 a2.limit) ∧ (((v5.setCell ⟨X, 0, none⟩ (.int .i64 x2.limit)).setCell ⟨X, 1, none⟩ (.slice Amx2 x2.mem.length cmx2)).setCell ⟨X, 2, none⟩ (.slice Arx2 x2.runs.length crx2)).cell? ⟨w1.heap.size, 1, none⟩ = some a2.vm ∧ (((v5.setCell ⟨X, 0, none⟩ (.int .i64 x2.limit)).setCell ⟨X, 1, none⟩ (.slice Amx2 x2.mem.length cmx2)).setCell ⟨X, 2, none⟩ (.slice Arx2 x2.runs.length crx2)).cell? ⟨w1.heap.size, 2, none⟩ = some a2.vr ∧ (((v5.setCell ⟨X, 0, none⟩ (.int .i64 x2.limit)).setCell ⟨X, 1, none⟩ (.slice Amx2 x2.mem.length cmx2)).setCell ⟨X, 2, none⟩ (.slice Arx2 x2.runs.length crx2)).cell? ⟨gd, offd + n, none⟩ = some (.int .i64 dn) := And.intro (KZ.cell 0 _ rfl) (And.intro (KZ.cell 1 _ rfl) (And.intro (KZ.cell 2 _ rfl) (cell_far3 (HDC.out _ (below_trans hbw3 hbv)) hndX (.int .i64 x2.limit) (.slice Amx2 x2.mem.length cmx2) (.slice Arx2 x2.runs.length crx2)))); clear KQ KZ hox hux hv5 hvm hvr))
                clear HSN r0 r1 r2 f0 f1 f2
                have HX3l := HKX3.out.lt
                have HY3l := HKY3.out.lt
                have hK4A := (HKA3.out.below hbv).far3 hneX1 (.int .i64 x2.limit) (.slice Amx2 x2.mem.length cmx2) (.slice Arx2 x2.runs.length crx2)
                have hK4B := (HKB3.out.below hbv).far3 hneX2 (.int .i64 x2.limit) (.slice Amx2 x2.mem.length cmx2) (.slice Arx2 x2.runs.length crx2)
                have hK4X := (HKX3.out.below hbv).set3 (.int .i64 x2.limit) (.slice Amx2 x2.mem.length cmx2) (.slice Arx2 x2.runs.length crx2)
                have hK4Y := (HKY3.out.below hbv).far3 (Ne.symm HXYn.out) (.int .i64 x2.limit) (.slice Amx2 x2.mem.length cmx2) (.slice Arx2 x2.runs.length crx2)
                have hO4B := (HOB3.out.below hbv).set3Off HOF3.out.2.2.1 (.int .i64 x2.limit) (.slice Amx2 x2.mem.length cmx2) (.slice Arx2 x2.runs.length crx2)
                have hO4X := HOX.out.set3 (g := X) HX3l (.int .i64 x2.limit) (.slice Amx2 x2.mem.length cmx2) (.slice Arx2 x2.runs.length crx2)
                have HXFY := Lib.hid (HOX.out.offLow HY3l)
                have hbw4 := below_set3 (below_trans hbw3 hbv) hwX (.int .i64 x2.limit) (.slice Amx2 x2.mem.length cmx2) (.slice Arx2 x2.runs.length crx2)
                have HX34 := Lib.hid (show w2.heap.size < V3.heap.size by have := HKB3.out.lt; omega)
                go_wp2_with fail
                obtain ⟨V4, hV4⟩ : ∃ V, (((v5.setCell ⟨X, 0, none⟩ (.int .i64 x2.limit)).setCell ⟨X, 1, none⟩ (.slice Amx2 x2.mem.length cmx2)).setCell ⟨X, 2, none⟩ (.slice Arx2 x2.runs.length crx2)) = V := ⟨_, rfl⟩
                rw [hV4] at hK4A hK4B hK4X hK4Y hO4B hO4X hbw4 ⊢
                have HK4A := Lib.hid hK4A
                have HK4B := Lib.hid hK4B
                have HK4X := Lib.hid hK4X
                have HK4Y := Lib.hid hK4Y
                have HO4B := Lib.hid hO4B
                have HO4X := Lib.hid hO4X
                clear hV4 hK4A hK4B hK4X hK4Y hO4B hO4X HX3l HY3l HS HDA HKA3 HKB3 HKX3 HKY3 HOA3 HOB3 HOX hbv
                have HDA := Lib.hid (fun w' (h : Below V4.heap.size V4 w') => dropGood_any b2 dn w' (HO4B.out.ok.below h) HFB.out (HM.out.below (below_trans hbw4 h)) HG2)
                have HDU : Hid (b2.bu = b2.bu) := Lib.hid rfl
                unfold Buf.agg at HDA
                have HS := Lib.hid (fun V (h : Below V4.heap.size V4 V) => (And.intro ((HK4B.out.below h).cell 0 _ rfl) (And.intro ((HK4B.out.below h).cell 1 _ rfl) (And.intro ((HK4B.out.below h).cell 2 _ rfl) (HDC.out V (below_trans hbw4 h)))) : V.cell? ⟨w2.heap.size, 0, none⟩ = some (.int .i64 b2.limit) ∧ V.cell? ⟨w2.heap.size, 1, none⟩ = some b2.vm ∧ V.cell? ⟨w2.heap.size, 2, none⟩ = some b2.vr ∧ V.cell? ⟨gd, offd + n, none⟩ = some (.int .i64 dn)))
                have hbv : Below V4.heap.size V4 V4.drew := (Below.refl _ _).drew
                go_region_held3 (fun w' => w'.cell? ⟨w2.heap.size, 0, none⟩ = some (.int .i64 b2.limit) ∧ w'.cell? ⟨w2.heap.size, 1, none⟩ = some b2.vm ∧ w'.cell? ⟨w2.heap.size, 2, none⟩ = some b2.vr ∧ w'.cell? ⟨gd, offd + n, none⟩ = some (.int .i64 dn))
                  (first
                    | with_reducible exact HSN
                    | with_reducible exact HS.out _ hbv
                    | (trace_state; fail))
                  (first
                    | (go_at_call 13; refine (HDA.out _ hbv).mono ?_; rintro e v5 ⟨y2, rfl, hox, hux, hv5⟩; obtain ⟨Amy2, cmy2, hvm, -⟩ := id hox.ok.mem.sl; obtain ⟨Ary2, cry2, hvr, -⟩ := id hox.ok.sl; have HVMy2 := Lib.hid hvm; have HVRy2 := Lib.hid hvr; rw [hvm, hvr]; have HOX := Lib.hid hox; have HUXy2 := Lib.hid hux; have hbv := below_trans hbv hv5; have KQ := HK4Y.out.below hbv; have r0 := KQ.cell 0 _ rfl; have r1 := KQ.cell 1 _ rfl; have r2 := KQ.cell 2 _ rfl; have f0 := KQ.free 0; have f1 := KQ.free 1; have f2 := KQ.free 2; have KZ := (HK4B.out.below hbv).far3 hneY2 (.int .i64 y2.limit) (.slice Amy2 y2.mem.length cmy2) (.slice Ary2 y2.runs.length cry2); have HSN : (((v5.setCell ⟨Y, 0, none⟩ (.int .i64 y2.limit)).setCell ⟨Y, 1, none⟩ (.slice Amy2 y2.mem.length cmy2)).setCell ⟨Y, 2, none⟩ (.slice Ary2 y2.runs.length cry2)).cell? ⟨w2.heap.size, 0, none⟩ = some (.int .i64 b2.limit) ∧ (((v5.setCell ⟨Y, 0, none⟩ (.int .i64 y2.limit)).setCell ⟨Y, 1, none⟩ (.slice Amy2 y2.mem.length cmy2)).setCell ⟨Y, 2, none⟩ (.slice Ary2 y2.runs.length cry2)).cell? ⟨w2.heap.size, 1, none⟩ = some b2.vm ∧ (((v5.setCell ⟨Y, 0, none⟩ (.int .i64 y2.limit)).setCell ⟨Y, 1, none⟩ (.slice Amy2 y2.mem.length cmy2)).setCell ⟨Y, 2, none⟩ (.slice Ary2 y2.runs.length cry2)).cell? ⟨w2.heap.size, 2, none⟩ = some b2.vr ∧ (((v5.setCell ⟨Y, 0, none⟩ (.int .i64 y2.limit)).setCell ⟨Y, 1, none⟩ (.slice Amy2 y2.mem.length cmy2)).setCell ⟨Y, 2, none⟩ (.slice Ary2 y2.runs.length cry2)).cell? ⟨gd, offd + n, none⟩ = some (.int .i64 dn) := And.intro (KZ.cell 0 _ rfl) (And.intro (KZ.cell 1 _ rfl) (And.intro (KZ.cell 2 _ rfl) (cell_far3 (HDC.out _ (below_trans hbw4 hbv)) hndY (.int .i64 y2.limit) (.slice Amy2 y2.mem.length cmy2) (.slice Ary2 y2.runs.length cry2)))); clear KQ KZ hox hux hv5 hvm hvr))
                clear HSN r0 r1 r2 f0 f1 f2
                have HX4l := HK4X.out.lt
                have HY4l := HK4Y.out.lt
                have hK5A := (HK4A.out.below hbv).far3 hneY1 (.int .i64 y2.limit) (.slice Amy2 y2.mem.length cmy2) (.slice Ary2 y2.runs.length cry2)
                have hK5B := (HK4B.out.below hbv).far3 hneY2 (.int .i64 y2.limit) (.slice Amy2 y2.mem.length cmy2) (.slice Ary2 y2.runs.length cry2)
                have hK5X := (HK4X.out.below hbv).far3 HXYn.out (.int .i64 y2.limit) (.slice Amy2 y2.mem.length cmy2) (.slice Ary2 y2.runs.length cry2)
                have hK5Y := (HK4Y.out.below hbv).set3 (.int .i64 y2.limit) (.slice Amy2 y2.mem.length cmy2) (.slice Ary2 y2.runs.length cry2)
                have hO5X := (HO4X.out.below hbv).set3Off HXFY.out (.int .i64 y2.limit) (.slice Amy2 y2.mem.length cmy2) (.slice Ary2 y2.runs.length cry2)
                have hO5Y := HOX.out.set3 (g := Y) HY4l (.int .i64 y2.limit) (.slice Amy2 y2.mem.length cmy2) (.slice Ary2 y2.runs.length cry2)
                have HX45 := Lib.hid (show w2.heap.size < V4.heap.size by have := HK4B.out.lt; omega)
                have hbw5 := below_set3 (below_trans hbw4 hbv) hwY (.int .i64 y2.limit) (.slice Amy2 y2.mem.length cmy2) (.slice Ary2 y2.runs.length cry2)
                obtain ⟨V5, hV5⟩ : ∃ V, (((v5.setCell ⟨Y, 0, none⟩ (.int .i64 y2.limit)).setCell ⟨Y, 1, none⟩ (.slice Amy2 y2.mem.length cmy2)).setCell ⟨Y, 2, none⟩ (.slice Ary2 y2.runs.length cry2)) = V := ⟨_, rfl⟩
                rw [hV5] at hK5A hK5B hK5X hK5Y hO5X hO5Y hbw5 ⊢
                have HAL4 : Hid (AlikeB x2.bu y2.bu) := Lib.hid (by rw [HUXx2.out, HUXy2.out]; exact HAL2.out.drop dn)
                have HFI4 : Hid (∀ e ∈ x2.bu.all, FineE e) := Lib.hid (by rw [HUXx2.out]; exact fine_drop HFI2.out)
                have HLM4 : Hid (x2.limit = one ∧ y2.limit = two) := Lib.hid ⟨(congrArg Bu.limit HUXx2.out).trans HLM2.out.1, (congrArg Bu.limit HUXy2.out).trans HLM2.out.2⟩
                have hO6Y := hO5Y.set3 (g := w1.heap.size) (by have h2 := HX45.out; have h3 := HS12.out; show w1.heap.size < V4.heap.size; omega) (.int .i64 x2.limit) (.slice Amx2 x2.mem.length cmx2) (.slice Arx2 x2.runs.length crx2)
                have HO6X := Lib.hid (hO5X.set3 (g := w1.heap.size) (by have h1 := HX34.out; have h3 := HS12.out; show w1.heap.size < V3.heap.size; omega) (.int .i64 x2.limit) (.slice Amx2 x2.mem.length cmx2) (.slice Arx2 x2.runs.length crx2))
                have hbw6 := below_set3 hbw5 hs1 (.int .i64 x2.limit) (.slice Amx2 x2.mem.length cmx2) (.slice Arx2 x2.runs.length crx2)
                have HPK := Lib.hid (packGood_any y2 _ hO6Y.ok (goodFit HAL4.out.two (fun e he => HFI4.out e (HAL4.out.perm.symm.subset he))) (HM.out.below hbw6) HAL4.out.two)
                unfold Buf.agg at HPK
                rw [HVMy2.out, HVRy2.out] at HPK
                have K6A := hK5A.set3 (.int .i64 x2.limit) (.slice Amx2 x2.mem.length cmx2) (.slice Arx2 x2.runs.length crx2)
                have K6B := hK5B.far3 (Ne.symm hne12) (.int .i64 x2.limit) (.slice Amx2 x2.mem.length cmx2) (.slice Arx2 x2.runs.length crx2)
                have K6Y := hK5Y.far3 (Ne.symm hneY1) (.int .i64 x2.limit) (.slice Amx2 x2.mem.length cmx2) (.slice Arx2 x2.runs.length crx2)
                have x0 := hK5X.cell 0 _ rfl
                have xx1 := hK5X.cell 1 _ rfl
                have xx2 := hK5X.cell 2 _ rfl
                have p0 := hK5A.cell 0 _ rfl
                have p1 := hK5A.cell 1 _ rfl
                have p2 := hK5A.cell 2 _ rfl
                have f0 := hK5A.free 0
                have f1 := hK5A.free 1
                have f2 := hK5A.free 2
                have z0 := K6Y.cell 0 _ rfl
                have z1 := K6Y.cell 1 _ rfl
                have z2 := K6Y.cell 2 _ rfl
                have HK6A := Lib.hid K6A
                have HK6B := Lib.hid K6B
                have HBW6 := Lib.hid hbw6
                have HHS1 := Lib.hid hs1
                clear hV5 hK5A hK5B hK5X hK5Y hO5X hO5Y hO6Y hbw5 hbw6 K6A K6B K6Y HX4l HY4l hbv hbw3 hbw4 hs1
                go_wp2_with fail
                refine HPK.out.mono ?_
                rintro e v7 ⟨p7, rfl, hop, hup, hb7⟩
                obtain ⟨Am7, cm7, hvm, -⟩ := id hop.ok.mem.sl
                obtain ⟨Ar7, cr7, hvr, -⟩ := id hop.ok.sl
                have HVM7 := Lib.hid hvm
                have HVR7 := Lib.hid hvr
                rw [hvm, hvr]
                have HUP := Lib.hid hup
                have K7B := HK6B.out.below hb7
                have q0 := K7B.cell 0 _ rfl
                have q1 := K7B.cell 1 _ rfl
                have q2 := K7B.cell 2 _ rfl
                have g0 := K7B.free 0
                have g1 := K7B.free 1
                have g2 := K7B.free 2
                have HK8B := Lib.hid (K7B.set3 (.int .i64 p7.limit) (.slice Am7 p7.mem.length cm7) (.slice Ar7 p7.runs.length cr7))
                have HK8A := Lib.hid ((HK6A.out.below hb7).far3 hne12 (.int .i64 p7.limit) (.slice Am7 p7.mem.length cm7) (.slice Ar7 p7.runs.length cr7))
                have HO8X := Lib.hid ((HO6X.out.below hb7).set3 (g := w2.heap.size) HX34.out (.int .i64 p7.limit) (.slice Am7 p7.mem.length cm7) (.slice Ar7 p7.runs.length cr7))
                have HO8P := Lib.hid (hop.set3 (g := w2.heap.size) HK6B.out.lt (.int .i64 p7.limit) (.slice Am7 p7.mem.length cm7) (.slice Ar7 p7.runs.length cr7))
                have HBW8 := Lib.hid (below_set3 (below_trans HBW6.out hb7) (g := w2.heap.size) (by have h1 := HHS1.out; have h2 := HS12.out; omega) (.int .i64 p7.limit) (.slice Am7 p7.mem.length cm7) (.slice Ar7 p7.runs.length cr7))
                have HB6L := Lib.hid HK6B.out.lt
                clear hvm hvr hup hop hb7 K7B x0 xx1 xx2 p0 p1 p2 f0 f1 f2 z0 z1 z2
                go_wp2_with fail
                go_meet
                exact ⟨x2, p7, Lib.hid (by rw [HUP.out]; exact HAL4.out.pack), HFI4, Lib.hid ⟨HLM4.out.1, (congrArg Bu.limit HUP.out).trans HLM4.out.2⟩, Lib.hid (HO8X.out.low (by have h := HX34.out; show w2.heap.size + 1 ≤ V3.heap.size; omega)), Lib.hid (HO8P.out.low (by have h := HB6L.out; omega)),
                  Lib.hid (by rw [HVMx2.out, HVRx2.out]; exact HK8A.out), Lib.hid (by rw [HVM7.out, HVR7.out]; exact HK8B.out), HBW8.out⟩
              · have hdn : decide ((n : Int) < (ld.length : Int)) = false := decide_eq_false (by omega)
                have hdl' : ¬ (n : Int) < (ld.length : Int) := by omega
                go_wp2_with fail
                go_meet
                exact ⟨a2, b2, HAL2, HFI2, HLM2, HOA3, HOB3, HKA3, HKB3, hbw3⟩
            case rest =>
              obtain ⟨a3, b3, HAL3, HFI3, HLM3, HOA4, HOB4, HKA4, HKB4, hbw4⟩ := hcut
              obtain ⟨V6, hV6⟩ : ∃ V, V = wc := ⟨_, rfl⟩
              subst hV6
              have HFA := Lib.hid (goodFit HAL3.out.one HFI3.out)
              have HFB := Lib.hid (goodFit HAL3.out.two (fun e he => HFI3.out e (HAL3.out.perm.symm.subset he)))
              have HGA := Lib.hid (fun w' (h : Below V6.heap.size V6 w') => allGood_any a3 w' (HOA4.out.ok.below h) HFA.out (HM.out.below (below_trans hbw4 h)) HAL3.out.one)
              have HGB := Lib.hid (fun w' (h : Below V6.heap.size V6 w') => allGood_any b3 w' (HOB4.out.ok.below h) HFB.out (HM.out.below (below_trans hbw4 h)) HAL3.out.two)
              unfold Buf.agg at HGA HGB
              have y0 := HKA4.out.cell 0 _ rfl
              have y1 := HKA4.out.cell 1 _ rfl
              have y2 := HKA4.out.cell 2 _ rfl
              go_wp2_with fail
              refine (HGA.out _ (Below.refl _ _)).mono ?_
              rintro e v8 ⟨vm, lm, rfl, hem, hum, hb8⟩
              have HEM := Lib.hid hem
              have HUM := Lib.hid hum
              have y0 := (HKB4.out.below hb8).cell 0 _ rfl
              have y1 := (HKB4.out.below hb8).cell 1 _ rfl
              have y2 := (HKB4.out.below hb8).cell 2 _ rfl
              clear hem hum
              go_wp2_with fail
              refine (HGB.out _ hb8).mono ?_
              rintro e v9 ⟨vn, ln, rfl, hen, hun, hb9⟩
              have hb89 := below_trans hb8 hb9
              have HSE := Lib.hid (sameEntries_any vm vn lm ln v9 (HEM.out.below hb9) hen (by rw [HUM.out, hun]; exact HAL3.out.sorted))
              obtain ⟨AmA, cmA, hvA, -⟩ := id HOA4.out.ok.mem.sl
              obtain ⟨AmB, cmB, hvB, -⟩ := id HOB4.out.ok.mem.sl
              have HVA := Lib.hid hvA
              have HVB := Lib.hid hvB
              have hla : decide (one < (a3.mem.length : Int)) = false := decide_eq_false (by have h := HAL3.out.one.mem; have e0 : a3.bu.mem.length = a3.mem.length := ens_len _; have e1 : a3.bu.limit = one := HLM3.out.1; rw [e0, e1] at h; omega)
              have hlb : decide (two < (b3.mem.length : Int)) = false := decide_eq_false (by have h := HAL3.out.two.mem; have e0 : b3.bu.mem.length = b3.mem.length := ens_len _; have e1 : b3.bu.limit = two := HLM3.out.2; rw [e0, e1] at h; omega)
              have hwn : IntKind.i64.wrap ((n : Int) + 1) = (n : Int) + 1 := by rw [IntKind.wrap_i64]; omega
              clear y0 y1 y2 hen hun hvA hvB hb8 hb9
              go_wp2_with fail
              refine HSE.out.mono ?_
              rintro e v10 ⟨rfl, hb10⟩
              have hb8A := below_trans hb89 hb10
              have HKA5 := Lib.hid (HKA4.out.below hb8A)
              have HKB5 := Lib.hid (HKB4.out.below hb8A)
              have HOA5 := Lib.hid (HOA4.out.below hb8A)
              have HOB5 := Lib.hid (HOB4.out.below hb8A)
              have hbwZ := below_trans hbw4 hb8A
              have KA := HKA5.out
              have KB := HKB5.out
              rw [HVA.out] at KA
              rw [HVB.out] at KB
              have a1 := KA.cell 1 _ rfl
              have b1 := KB.cell 1 _ rfl
              clear KA KB hb89 hb8A hb10
              go_wp2
              go_roundw
              case rel => exact ⟨n + 1, a3, b3, by go_num, by omega, HAL3, HFI3, HLM3, HOA5, HOB5, HKA5, HKB5, hbwZ⟩
              case measure => simp [intOf]; omega
    · obtain rfl : n = l.length := by omega
      have hk1 : ¬ (l.length : Int) < (l.length : Int) := by omega
      go_wp2_with (go_at_call 10; refine (HBG.out _ hbw).mono ?_; rintro e v5 ⟨rfl, hv5⟩; have hbv := below_trans hbw hv5)
      go_ret
      exact ⟨rfl, hbv⟩

set_option maxHeartbeats 4000000 in
set_option maxRecDepth 100000 in
theorem alikeA (one two : Int) (A : Option Addr) (k c : Nat) (vd : Value) (w : World) (hm : Mx w) (h1 : inB one 1 64 = false) :
    Calls Tryd.prog 4 #[.int .i64 one, .int .i64 two, .slice A k c, vd] w fun e w' => e = .returned (.bool true) ∧ Below w.heap.size w w' := by
  have HNA := Lib.hid (fun w' => new_any one w')
  have HNB := Lib.hid (fun w' => new_any two w')
  have HBG := Lib.hid (fun w' (h : Below w.heap.size w w') => begunB_any w' (hm.below h))
  rw [newB_snd h1] at HNA
  generalize newB two = rb at HNB
  clear h1
  clear hm
  go_enter Tryd.func4, Tryd.ntmps4
  go_wp2_with fail
  refine (HNA.out _).mono ?_
  rintro e w1 ⟨rfl, hb1⟩
  have hbw1 := below_trans hb1 (below_alloc w1 (.cells #[.int .i64 0, .slice none 0 0, .slice none 0 0] 25))
  clear hb1
  go_wp2_with fail
  refine (HNB.out _).mono ?_
  rintro e w2 ⟨rfl, hb2⟩
  have hbw2 := below_trans (below_trans hbw1 hb2) (below_alloc w2 (.cells #[.int .i64 rb.1, .slice none 0 0, .slice none 0 0] 25))
  clear hb2
  go_wp2_with (go_at_call 10; refine (HBG.out _ hbw2).mono ?_; rintro e v5 ⟨rfl, hv5⟩; have hbv := below_trans hbw2 hv5)
  go_ret
  exact ⟨rfl, hbv⟩

set_option maxHeartbeats 4000000 in
set_option maxRecDepth 100000 in
theorem alikeB_ (one two : Int) (A : Option Addr) (k c : Nat) (vd : Value) (w : World) (hm : Mx w) (h1 : inB one 1 64 = true) (h2 : inB two 1 64 = false) :
    Calls Tryd.prog 4 #[.int .i64 one, .int .i64 two, .slice A k c, vd] w fun e w' => e = .returned (.bool true) ∧ Below w.heap.size w w' := by
  have HNA := Lib.hid (fun w' => new_any one w')
  have HNB := Lib.hid (fun w' => new_any two w')
  have HBG := Lib.hid (fun w' (h : Below w.heap.size w w') => begunB_any w' (hm.below h))
  rw [newB_fst h1] at HNA
  rw [newB_snd h2] at HNB
  clear h1 h2
  clear hm
  go_enter Tryd.func4, Tryd.ntmps4
  go_wp2_with fail
  refine (HNA.out _).mono ?_
  rintro e w1 ⟨rfl, hb1⟩
  have hbw1 := below_trans hb1 (below_alloc w1 (.cells #[.int .i64 one, .slice none 0 0, .slice none 0 0] 25))
  clear hb1
  go_wp2_with fail
  refine (HNB.out _).mono ?_
  rintro e w2 ⟨rfl, hb2⟩
  have hbw2 := below_trans (below_trans hbw1 hb2) (below_alloc w2 (.cells #[.int .i64 0, .slice none 0 0, .slice none 0 0] 25))
  clear hb2
  go_wp2_with (go_at_call 10; refine (HBG.out _ hbw2).mono ?_; rintro e v5 ⟨rfl, hv5⟩; have hbv := below_trans hbw2 hv5)
  go_ret
  exact ⟨rfl, hbv⟩

set_option maxHeartbeats 4000000 in
set_option maxRecDepth 100000 in
theorem alikeC (one two : Int) (A : Option Addr) (k c : Nat) (vd : Value) (w : World) (hm : Mx w) (h1 : inB one 1 64 = true) (h2 : inB two 1 64 = true) (hk : 200 < k) :
    Calls Tryd.prog 4 #[.int .i64 one, .int .i64 two, .slice A k c, vd] w fun e w' => e = .returned (.bool true) ∧ Below w.heap.size w w' := by
  have HNA := Lib.hid (fun w' => new_any one w')
  have HNB := Lib.hid (fun w' => new_any two w')
  have HBG := Lib.hid (fun w' (h : Below w.heap.size w w') => begunB_any w' (hm.below h))
  rw [newB_fst h1] at HNA
  rw [newB_fst h2] at HNB
  have hkk : (200 : Int) < (k : Int) := by omega
  clear h1 h2
  clear hm
  go_enter Tryd.func4, Tryd.ntmps4
  go_wp2_with fail
  refine (HNA.out _).mono ?_
  rintro e w1 ⟨rfl, hb1⟩
  have hbw1 := below_trans hb1 (below_alloc w1 (.cells #[.int .i64 one, .slice none 0 0, .slice none 0 0] 25))
  clear hb1
  go_wp2_with fail
  refine (HNB.out _).mono ?_
  rintro e w2 ⟨rfl, hb2⟩
  have hbw2 := below_trans (below_trans hbw1 hb2) (below_alloc w2 (.cells #[.int .i64 two, .slice none 0 0, .slice none 0 0] 25))
  clear hb2
  go_wp2_with (go_at_call 10; refine (HBG.out _ hbw2).mono ?_; rintro e v5 ⟨rfl, hv5⟩; have hbv := below_trans hbw2 hv5)
  go_ret
  exact ⟨rfl, hbv⟩
theorem bufferAlike_walk (one two : Int) (v vd : Value) (l : List Ent) (ld : List Int) (w : World) (hl : Ents w v l) (hf : ∀ x ∈ l, FineE x.e) (hd : Sl w vd ld.length (intCells ld)) (hm : Mx w) :
    Calls Tryd.prog 4 #[.int .i64 one, .int .i64 two, v, vd] w fun e w' => e = .returned (.bool true) ∧ Below w.heap.size w w' := by
  obtain ⟨A, c, hv, -⟩ := id hl.sl
  cases h1 : inB one 1 64 with
  | false => rw [hv]; exact alikeA one two A _ c vd w hm h1
  | true =>
    cases h2 : inB two 1 64 with
    | false => rw [hv]; exact alikeB_ one two A _ c vd w hm h1 h2
    | true =>
      by_cases hk : l.length ≤ 200
      · exact alike_loop one two v vd l ld w hl hf hk hd hm h1 h2
      · rw [hv]; exact alikeC one two A _ c vd w hm h1 h2 (by omega)

end Go.Proofs.YteabfalklgffmaaDoor
