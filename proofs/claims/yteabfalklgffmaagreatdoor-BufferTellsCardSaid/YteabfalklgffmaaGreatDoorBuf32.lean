/-
  The reference's All, Pack, Drop, Take and Scan.
-/
import Derived.Test.YteabfalklgffmaaGreatDoorBuf18
import Derived.Test.YteabfalklgffmaaGreatDoorBuf33
set_option linter.unusedSimpArgs false
set_option linter.unusedVariables false
namespace Go.Proofs.YteabfalklgffmaaGreatDoor
open Go.RowKit

set_option maxHeartbeats 2000000 in
set_option maxRecDepth 10000 in
theorem rat_any (x : Ent) (key : List UInt8) (t s : Int) (w : World) :
    Calls Tryz.prog 34 #[x.agg, .string (str key), .int .i64 t, .int .i64 s] w fun e w' => e = .returned (.bool (atE key t s x.e)) ∧ Below w.heap.size w w' := by
  have EC : Hid (atE key t s x.e = (((str x.e.key).toList == (str key).toList) && (x.e.t == t) && (x.e.s == s))) := Lib.hid (by unfold atE; simp [str_toList])
  obtain ⟨av, ⟨ak, at_, as_, ar, am⟩⟩ := x
  unfold Ent.agg
  simp only at EC ⊢
  generalize str ak = sa at EC ⊢
  generalize str key = sb at EC ⊢
  generalize atE key t s ⟨ak, at_, as_, ar, am⟩ = c at EC ⊢
  have hB := below_alloc w (.cells #[.string sa, .int .i64 at_, .int .i64 as_, av, .bool am] 48)
  cases h5 : sa.toList == sb.toList
  · have e2 : Hid (c = false) := Lib.hid (by rw [EC.out, h5]; rfl)
    clear EC
    go_enter Tryz.func34, Tryz.ntmps34
    go_wp2
    go_ret
    exact ⟨by rw [e2.out]; rfl, hB⟩
  · cases h4 : at_ == t
    · have e2 : Hid (c = false) := Lib.hid (by rw [EC.out, h5, h4]; rfl)
      clear EC
      go_enter Tryz.func34, Tryz.ntmps34
      go_wp2
      go_ret
      exact ⟨by rw [e2.out]; rfl, hB⟩
    · have e2 : Hid (c = (as_ == s)) := Lib.hid (by rw [EC.out, h5, h4]; rfl)
      clear EC
      go_enter Tryz.func34, Tryz.ntmps34
      go_wp2
      go_ret
      exact ⟨by rw [e2.out]; rfl, hB⟩

set_option maxHeartbeats 2000000 in
set_option maxRecDepth 10000 in
theorem allIn_any (b : Buf) (w : World) (hb : b.ok w) (hf : b.fit) (hg : GoodB b.bu) :
    Calls Tryz.prog 19 #[b.agg] w fun e w' => ∃ v l, e = .returned v ∧ OwnE w' (w.heap.size + 1) v l ∧ ens l = sortE b.bu.all ∧ Below w.heap.size w w' ∧ w.heap.size < w'.heap.size := by
  have HEN := Lib.hid (fun w' (h : Below w.heap.size w w') => entries_any b w' (hb.below h) (by have := hg.few; omega) (fun k x hx => ((hf.part k).1 x hx).len))
  obtain ⟨Av, cv, hvb, -⟩ := id hb.mem.sl
  obtain ⟨Ar, cr, hvr, -⟩ := id hb.sl
  unfold Buf.agg at HEN ⊢
  rw [hvb, hvr] at HEN ⊢
  have HK := Lib.hid (Blk.new w 25 #[.int .i64 b.limit, .slice Av b.mem.length cv, .slice Ar b.runs.length cr])
  have hB := below_alloc w (.cells #[.int .i64 b.limit, .slice Av b.mem.length cv, .slice Ar b.runs.length cr] 25)
  have y0 := HK.out.cell 0 _ rfl
  have y1 := HK.out.cell 1 _ rfl
  have y2 := HK.out.cell 2 _ rfl
  have hs : (w.alloc (.cells #[.int .i64 b.limit, .slice Av b.mem.length cv, .slice Ar b.runs.length cr] 25)).heap.size = w.heap.size + 1 := World.size_alloc _ _
  have HS := Lib.hid hs
  clear hb hf hg hvb hvr hs
  go_enter Tryz.func19, Tryz.ntmps19
  go_wp2_with fail
  refine (HEN.out _ hB).mono ?_
  rintro e w2 ⟨v2, l2, rfl, hown, hens, hb2, hlt⟩
  have hbw2 := below_trans hB hb2
  rw [HS.out] at hown hlt
  have hO := hown.low (base' := w.heap.size + 1) (by omega)
  clear hown hb2 y0 y1 y2 HEN HK
  go_wp2
  go_ret
  exact ⟨_, l2, rfl, hO, hens, hbw2, by omega⟩

/-! ### Drop and Take -/
set_option maxHeartbeats 2000000 in
set_option maxRecDepth 10000 in
theorem rdrop1_any (c : Nat) (upto : Int) (x : Ent) (W : World) (hc : Blk W c 3 #[.int .i64 upto]) :
    Calls Tryz.prog 47 #[x.agg, .pointer (some ⟨c, 0, none⟩)] W fun e w2 => e = .returned (.bool (decide (upto < x.e.t))) ∧ Below W.heap.size W w2 := by
  unfold Ent.agg
  have hB := below_alloc W (.cells #[.string (str x.e.key), .int .i64 x.e.t, .int .i64 x.e.s, x.v, .bool x.e.met] 48)
  have c0 := (hc.alloc (.cells #[.string (str x.e.key), .int .i64 x.e.t, .int .i64 x.e.s, x.v, .bool x.e.met] 48)).cell 0 _ rfl
  clear hc
  go_enter Tryz.func47, Tryz.ntmps47
  go_wp2
  go_ret
  exact ⟨rfl, hB⟩
theorem dropB_keep (b : Bu) (upto : Int) : dropB b upto = siftB b (keepF fun e => decide (upto < e.t)) := by
  unfold dropB
  congr 1
  funext e
  unfold keepF
  by_cases h : upto < e.t
  · rw [if_pos h, if_pos (decide_eq_true h)]
  · rw [if_neg h, if_neg (by show ¬ decide (upto < e.t) = true; simp; omega)]
theorem ownDrop_any (b : Buf) (upto : Int) (c : Nat) (w : World) (hb : b.ok w) (hf : b.fit) (hg : GoodB b.bu) (hc : Blk w c 3 #[.int .i64 upto]) :
    Calls Tryz.prog 32 #[b.agg, .func (.func 47) #[] #[.pointer (some ⟨c, 0, none⟩)]] w fun e w' => ∃ b', e = .returned b'.agg ∧ OwnBuf w' (w.heap.size + 3) b' ∧ b'.bu = dropB b.bu upto ∧ Below w.heap.size w w' ∧ w.heap.size + 3 ≤ w'.heap.size := by
  have h := ownBuffer_any 47 #[.pointer (some ⟨c, 0, none⟩)] (fun e => decide (upto < e.t)) b w hb (by have := hg.few; omega) (by have := good_runs hg; omega) (fun k x hx => ((hf.part k).1 x hx).len)
    (enters_of Tryz.func47 (by kernel_rfl) rfl) (fun x W h1 _ => rdrop1_any c upto x W (hc.below h1))
  rw [← dropB_keep] at h
  exact h
set_option maxHeartbeats 2000000 in
set_option maxRecDepth 10000 in
theorem rtake1_any (c1 c2 c3 : Nat) (key : List UInt8) (t s : Int) (x : Ent) (W : World) (h1 : Blk W c1 9 #[.string (str key)]) (h2 : Blk W c2 3 #[.int .i64 t]) (h3 : Blk W c3 3 #[.int .i64 s]) (hv : ∃ A n k, x.v = .slice A n k) :
    Calls Tryz.prog 35 #[x.agg, .pointer (some ⟨c1, 0, none⟩), .pointer (some ⟨c2, 0, none⟩), .pointer (some ⟨c3, 0, none⟩)] W fun e w2 => e = .returned (.bool (!atE key t s x.e)) ∧ Below W.heap.size W w2 := by
  have HAT := Lib.hid (fun w' => rat_any x key t s w')
  obtain ⟨A, n, k, hv⟩ := hv
  unfold Ent.agg at HAT ⊢
  rw [hv] at HAT ⊢
  have hB := below_alloc W (.cells #[.string (str x.e.key), .int .i64 x.e.t, .int .i64 x.e.s, .slice A n k, .bool x.e.met] 48)
  have c0 := (h1.alloc (.cells #[.string (str x.e.key), .int .i64 x.e.t, .int .i64 x.e.s, .slice A n k, .bool x.e.met] 48)).cell 0 _ rfl
  have d0 := (h2.alloc (.cells #[.string (str x.e.key), .int .i64 x.e.t, .int .i64 x.e.s, .slice A n k, .bool x.e.met] 48)).cell 0 _ rfl
  have e0 := (h3.alloc (.cells #[.string (str x.e.key), .int .i64 x.e.t, .int .i64 x.e.s, .slice A n k, .bool x.e.met] 48)).cell 0 _ rfl
  clear h1 h2 h3 hv
  go_enter Tryz.func35, Tryz.ntmps35
  go_wp2_with fail
  refine (HAT.out _).mono ?_
  rintro e w2 ⟨rfl, hb2⟩
  have hbw2 := below_trans hB hb2
  clear c0 d0 e0 hB hb2
  go_wp2
  go_ret
  exact ⟨rfl, hbw2⟩
theorem takeB_keep (b : Bu) (key : List UInt8) (t s : Int) : takeB b key t s = siftB b (keepF fun e => !atE key t s e) := by
  unfold takeB
  congr 1
  funext e
  unfold keepF
  cases h : atE key t s e <;> simp [h]
theorem sl_slice {w : World} {v : Value} {n : Nat} {cs : List Value} (h : Sl w v n cs) : ∃ A n k, v = .slice A n k := by
  obtain ⟨A, c, hv, -⟩ := h
  exact ⟨A, n, c, hv⟩
theorem ownTake_any (b : Buf) (key : List UInt8) (t s : Int) (c1 c2 c3 : Nat) (w : World) (hb : b.ok w) (hf : b.fit) (hg : GoodB b.bu) (h1 : Blk w c1 9 #[.string (str key)]) (h2 : Blk w c2 3 #[.int .i64 t]) (h3 : Blk w c3 3 #[.int .i64 s]) :
    Calls Tryz.prog 32 #[b.agg, .func (.func 35) #[] #[.pointer (some ⟨c1, 0, none⟩), .pointer (some ⟨c2, 0, none⟩), .pointer (some ⟨c3, 0, none⟩)]] w fun e w' => ∃ b', e = .returned b'.agg ∧ OwnBuf w' (w.heap.size + 3) b' ∧ b'.bu = takeB b.bu key t s ∧ Below w.heap.size w w' ∧ w.heap.size + 3 ≤ w'.heap.size := by
  have h := ownBuffer_any 35 #[.pointer (some ⟨c1, 0, none⟩), .pointer (some ⟨c2, 0, none⟩), .pointer (some ⟨c3, 0, none⟩)] (fun e => !atE key t s e) b w hb (by have := hg.few; omega) (by have := good_runs hg; omega) (fun k x hx => ((hf.part k).1 x hx).len)
    (enters_of Tryz.func35 (by kernel_rfl) rfl) (fun x W hW hs => rtake1_any c1 c2 c3 key t s x W (h1.below hW) (h2.below hW) (h3.below hW) (sl_slice hs))
  rw [← takeB_keep] at h
  exact h
set_option maxHeartbeats 4000000 in
set_option maxRecDepth 10000 in
theorem dropIn_any (b : Buf) (upto : Int) (w : World) (hb : b.ok w) (hf : b.fit) (hg : GoodB b.bu) :
    Calls Tryz.prog 20 #[b.agg, .int .i64 upto] w fun e w' => ∃ b' : Buf, e = .returned b'.agg ∧ OwnBuf w' w.heap.size b' ∧ b'.bu = dropB b.bu upto ∧ Below w.heap.size w w' := by
  have HOW := Lib.hid (fun w' (h : Below w.heap.size w w') h1 => ownDrop_any b upto (w.heap.size + 1) w' (hb.below h) hf hg h1)
  generalize dropB b.bu upto = SL at HOW ⊢
  obtain ⟨Av, cv, hvb, -⟩ := id hb.mem.sl
  obtain ⟨Ar, cr, hvr, -⟩ := id hb.sl
  unfold Buf.agg at HOW ⊢
  rw [hvb, hvr] at HOW
  rw [hvb, hvr]
  have hB : Below w.heap.size w (((w.alloc (.cells #[.int .i64 b.limit, .slice Av b.mem.length cv, .slice Ar b.runs.length cr] 25)).alloc (.cells #[.int .i64 upto] 3)).alloc (.cells #[.int .i64 0, .slice none 0 0, .slice none 0 0] 25)) := below_trans (below_trans (below_alloc w _) (below_alloc _ _)) (below_alloc _ _)
  have k0 : Blk (((w.alloc (.cells #[.int .i64 b.limit, .slice Av b.mem.length cv, .slice Ar b.runs.length cr] 25)).alloc (.cells #[.int .i64 upto] 3)).alloc (.cells #[.int .i64 0, .slice none 0 0, .slice none 0 0] 25)) (w.heap.size) 25 #[.int .i64 b.limit, .slice Av b.mem.length cv, .slice Ar b.runs.length cr] := by
    have k := ((Blk.new w 25 #[.int .i64 b.limit, .slice Av b.mem.length cv, .slice Ar b.runs.length cr]).alloc (.cells #[.int .i64 upto] 3)).alloc (.cells #[.int .i64 0, .slice none 0 0, .slice none 0 0] 25)
    simpa using k
  have HK0 := Lib.hid k0
  have k1 : Blk (((w.alloc (.cells #[.int .i64 b.limit, .slice Av b.mem.length cv, .slice Ar b.runs.length cr] 25)).alloc (.cells #[.int .i64 upto] 3)).alloc (.cells #[.int .i64 0, .slice none 0 0, .slice none 0 0] 25)) (w.heap.size + 1) 3 #[.int .i64 upto] := by
    have k := (Blk.new (w.alloc (.cells #[.int .i64 b.limit, .slice Av b.mem.length cv, .slice Ar b.runs.length cr] 25)) 3 #[.int .i64 upto]).alloc (.cells #[.int .i64 0, .slice none 0 0, .slice none 0 0] 25)
    simpa using k
  have HK1 := Lib.hid k1
  have k2 : Blk (((w.alloc (.cells #[.int .i64 b.limit, .slice Av b.mem.length cv, .slice Ar b.runs.length cr] 25)).alloc (.cells #[.int .i64 upto] 3)).alloc (.cells #[.int .i64 0, .slice none 0 0, .slice none 0 0] 25)) (w.heap.size + 1 + 1) 25 #[.int .i64 0, .slice none 0 0, .slice none 0 0] := by
    have k := Blk.new ((w.alloc (.cells #[.int .i64 b.limit, .slice Av b.mem.length cv, .slice Ar b.runs.length cr] 25)).alloc (.cells #[.int .i64 upto] 3)) 25 #[.int .i64 0, .slice none 0 0, .slice none 0 0]
    simpa using k
  have HK2 := Lib.hid k2
  have y0 := k0.cell 0 _ rfl
  have y1 := k0.cell 1 _ rfl
  have y2 := k0.cell 2 _ rfl
  clear hb hf hg hvb hvr k0 k1 k2
  go_enter Tryz.func20, Tryz.ntmps20
  go_wp2_with fail
  refine (HOW.out _ hB HK1.out).mono ?_
  rintro e w2 ⟨b2, rfl, hob2, hE, hb2, -⟩
  have hbw2 := below_trans hB hb2
  obtain ⟨Am, cm, hvm, -⟩ := id hob2.ok.mem.sl
  obtain ⟨Ar2, cr2, hvr2, -⟩ := id hob2.ok.sl
  have HVM := Lib.hid hvm
  have HVR := Lib.hid hvr2
  rw [hvm, hvr2]
  have K2 := HK2.out.below hb2
  have hlt := HK2.out.lt
  have f0 := K2.free 0
  have f1 := K2.free 1
  have f2 := K2.free 2
  have r0 := K2.cell 0 _ rfl
  have r1 := K2.cell 1 _ rfl
  have r2 := K2.cell 2 _ rfl
  have KZ := K2.set3 (.int .i64 b2.limit) (.slice Am b2.mem.length cm) (.slice Ar2 b2.runs.length cr2)
  have z0 := KZ.cell 0 _ rfl
  have z1 := KZ.cell 1 _ rfl
  have z2 := KZ.cell 2 _ rfl
  have hb9 := below_set3 hbw2 (g := w.heap.size + 1 + 1) (by omega) (.int .i64 b2.limit) (.slice Am b2.mem.length cm) (.slice Ar2 b2.runs.length cr2)
  have HOB := Lib.hid ((hob2.set3 (g := w.heap.size + 1 + 1) (by omega) (.int .i64 b2.limit) (.slice Am b2.mem.length cm) (.slice Ar2 b2.runs.length cr2)).low (base' := w.heap.size) (by simp; omega))
  clear y0 y1 y2 hvm hvr2 K2 KZ hob2 hb2 hB HOW
  go_wp2
  refine bodyPost_ret (v := .agg #[.int .i64 b2.limit, .slice Am b2.mem.length cm, .slice Ar2 b2.runs.length cr2]) (by simp [results, Tryz.results20, go_sem, z0, z1, z2]) rfl ?_
  exact ⟨b2, by rw [HVM.out, HVR.out], HOB.out, hE, hb9⟩
set_option maxHeartbeats 4000000 in
set_option maxRecDepth 10000 in
theorem takeIn_any (b : Buf) (key : List UInt8) (t s : Int) (w : World) (hb : b.ok w) (hf : b.fit) (hg : GoodB b.bu) :
    Calls Tryz.prog 12 #[b.agg, .string (str key), .int .i64 t, .int .i64 s] w fun e w' => ∃ b' : Buf, e = .returned b'.agg ∧ OwnBuf w' w.heap.size b' ∧ b'.bu = takeB b.bu key t s ∧ Below w.heap.size w w' := by
  have HOW := Lib.hid (fun w' (h : Below w.heap.size w w') h1 h2 h3 => ownTake_any b key t s (w.heap.size + 1) (w.heap.size + 1 + 1) (w.heap.size + 1 + 1 + 1) w' (hb.below h) hf hg h1 h2 h3)
  generalize takeB b.bu key t s = SL at HOW ⊢
  obtain ⟨Av, cv, hvb, -⟩ := id hb.mem.sl
  obtain ⟨Ar, cr, hvr, -⟩ := id hb.sl
  unfold Buf.agg at HOW ⊢
  rw [hvb, hvr] at HOW
  rw [hvb, hvr]
  have hB : Below w.heap.size w (((((w.alloc (.cells #[.int .i64 b.limit, .slice Av b.mem.length cv, .slice Ar b.runs.length cr] 25)).alloc (.cells #[.string (str key)] 9)).alloc (.cells #[.int .i64 t] 3)).alloc (.cells #[.int .i64 s] 3)).alloc (.cells #[.int .i64 0, .slice none 0 0, .slice none 0 0] 25)) := below_trans (below_trans (below_trans (below_trans (below_alloc w _) (below_alloc _ _)) (below_alloc _ _)) (below_alloc _ _)) (below_alloc _ _)
  have k0 : Blk (((((w.alloc (.cells #[.int .i64 b.limit, .slice Av b.mem.length cv, .slice Ar b.runs.length cr] 25)).alloc (.cells #[.string (str key)] 9)).alloc (.cells #[.int .i64 t] 3)).alloc (.cells #[.int .i64 s] 3)).alloc (.cells #[.int .i64 0, .slice none 0 0, .slice none 0 0] 25)) (w.heap.size) 25 #[.int .i64 b.limit, .slice Av b.mem.length cv, .slice Ar b.runs.length cr] := by
    have k := ((((Blk.new w 25 #[.int .i64 b.limit, .slice Av b.mem.length cv, .slice Ar b.runs.length cr]).alloc (.cells #[.string (str key)] 9)).alloc (.cells #[.int .i64 t] 3)).alloc (.cells #[.int .i64 s] 3)).alloc (.cells #[.int .i64 0, .slice none 0 0, .slice none 0 0] 25)
    simpa using k
  have HK0 := Lib.hid k0
  have k1 : Blk (((((w.alloc (.cells #[.int .i64 b.limit, .slice Av b.mem.length cv, .slice Ar b.runs.length cr] 25)).alloc (.cells #[.string (str key)] 9)).alloc (.cells #[.int .i64 t] 3)).alloc (.cells #[.int .i64 s] 3)).alloc (.cells #[.int .i64 0, .slice none 0 0, .slice none 0 0] 25)) (w.heap.size + 1) 9 #[.string (str key)] := by
    have k := (((Blk.new (w.alloc (.cells #[.int .i64 b.limit, .slice Av b.mem.length cv, .slice Ar b.runs.length cr] 25)) 9 #[.string (str key)]).alloc (.cells #[.int .i64 t] 3)).alloc (.cells #[.int .i64 s] 3)).alloc (.cells #[.int .i64 0, .slice none 0 0, .slice none 0 0] 25)
    simpa using k
  have HK1 := Lib.hid k1
  have k2 : Blk (((((w.alloc (.cells #[.int .i64 b.limit, .slice Av b.mem.length cv, .slice Ar b.runs.length cr] 25)).alloc (.cells #[.string (str key)] 9)).alloc (.cells #[.int .i64 t] 3)).alloc (.cells #[.int .i64 s] 3)).alloc (.cells #[.int .i64 0, .slice none 0 0, .slice none 0 0] 25)) (w.heap.size + 1 + 1) 3 #[.int .i64 t] := by
    have k := ((Blk.new ((w.alloc (.cells #[.int .i64 b.limit, .slice Av b.mem.length cv, .slice Ar b.runs.length cr] 25)).alloc (.cells #[.string (str key)] 9)) 3 #[.int .i64 t]).alloc (.cells #[.int .i64 s] 3)).alloc (.cells #[.int .i64 0, .slice none 0 0, .slice none 0 0] 25)
    simpa using k
  have HK2 := Lib.hid k2
  have k3 : Blk (((((w.alloc (.cells #[.int .i64 b.limit, .slice Av b.mem.length cv, .slice Ar b.runs.length cr] 25)).alloc (.cells #[.string (str key)] 9)).alloc (.cells #[.int .i64 t] 3)).alloc (.cells #[.int .i64 s] 3)).alloc (.cells #[.int .i64 0, .slice none 0 0, .slice none 0 0] 25)) (w.heap.size + 1 + 1 + 1) 3 #[.int .i64 s] := by
    have k := (Blk.new (((w.alloc (.cells #[.int .i64 b.limit, .slice Av b.mem.length cv, .slice Ar b.runs.length cr] 25)).alloc (.cells #[.string (str key)] 9)).alloc (.cells #[.int .i64 t] 3)) 3 #[.int .i64 s]).alloc (.cells #[.int .i64 0, .slice none 0 0, .slice none 0 0] 25)
    simpa using k
  have HK3 := Lib.hid k3
  have k4 : Blk (((((w.alloc (.cells #[.int .i64 b.limit, .slice Av b.mem.length cv, .slice Ar b.runs.length cr] 25)).alloc (.cells #[.string (str key)] 9)).alloc (.cells #[.int .i64 t] 3)).alloc (.cells #[.int .i64 s] 3)).alloc (.cells #[.int .i64 0, .slice none 0 0, .slice none 0 0] 25)) (w.heap.size + 1 + 1 + 1 + 1) 25 #[.int .i64 0, .slice none 0 0, .slice none 0 0] := by
    have k := Blk.new ((((w.alloc (.cells #[.int .i64 b.limit, .slice Av b.mem.length cv, .slice Ar b.runs.length cr] 25)).alloc (.cells #[.string (str key)] 9)).alloc (.cells #[.int .i64 t] 3)).alloc (.cells #[.int .i64 s] 3)) 25 #[.int .i64 0, .slice none 0 0, .slice none 0 0]
    simpa using k
  have HK4 := Lib.hid k4
  have y0 := k0.cell 0 _ rfl
  have y1 := k0.cell 1 _ rfl
  have y2 := k0.cell 2 _ rfl
  clear hb hf hg hvb hvr k0 k1 k2 k3 k4
  go_enter Tryz.func12, Tryz.ntmps12
  go_wp2_with fail
  refine (HOW.out _ hB HK1.out HK2.out HK3.out).mono ?_
  rintro e w2 ⟨b2, rfl, hob2, hE, hb2, -⟩
  have hbw2 := below_trans hB hb2
  obtain ⟨Am, cm, hvm, -⟩ := id hob2.ok.mem.sl
  obtain ⟨Ar2, cr2, hvr2, -⟩ := id hob2.ok.sl
  have HVM := Lib.hid hvm
  have HVR := Lib.hid hvr2
  rw [hvm, hvr2]
  have K2 := HK4.out.below hb2
  have hlt := HK4.out.lt
  have f0 := K2.free 0
  have f1 := K2.free 1
  have f2 := K2.free 2
  have r0 := K2.cell 0 _ rfl
  have r1 := K2.cell 1 _ rfl
  have r2 := K2.cell 2 _ rfl
  have KZ := K2.set3 (.int .i64 b2.limit) (.slice Am b2.mem.length cm) (.slice Ar2 b2.runs.length cr2)
  have z0 := KZ.cell 0 _ rfl
  have z1 := KZ.cell 1 _ rfl
  have z2 := KZ.cell 2 _ rfl
  have hb9 := below_set3 hbw2 (g := w.heap.size + 1 + 1 + 1 + 1) (by omega) (.int .i64 b2.limit) (.slice Am b2.mem.length cm) (.slice Ar2 b2.runs.length cr2)
  have HOB := Lib.hid ((hob2.set3 (g := w.heap.size + 1 + 1 + 1 + 1) (by omega) (.int .i64 b2.limit) (.slice Am b2.mem.length cm) (.slice Ar2 b2.runs.length cr2)).low (base' := w.heap.size) (by simp; omega))
  clear y0 y1 y2 hvm hvr2 K2 KZ hob2 hb2 hB HOW
  go_wp2
  refine bodyPost_ret (v := .agg #[.int .i64 b2.limit, .slice Am b2.mem.length cm, .slice Ar2 b2.runs.length cr2]) (by simp [results, Tryz.results12, go_sem, z0, z1, z2]) rfl ?_
  exact ⟨b2, by rw [HVM.out, HVR.out], HOB.out, hE, hb9⟩

/-! ### Pack -/
set_option maxHeartbeats 8000000 in
set_option maxRecDepth 10000 in
theorem packIn_any (b : Buf) (w : World) (hb : b.ok w) (hf : b.fit) (hg : GoodB b.bu) :
    Calls Tryz.prog 21 #[b.agg] w fun e w' => ∃ b' : Buf, e = .returned b'.agg ∧ OwnBuf w' w.heap.size b' ∧ b'.bu = packB b.bu ∧ Below w.heap.size w w' := by
  have HAI := Lib.hid (fun w' (h : Below w.heap.size w w') => allIn_any b w' (hb.below h) hf hg)
  have HLI : Hid (b.bu.limit = b.limit) := Lib.hid rfl
  have HPN := Lib.hid (packB_nil (b := b.bu))
  have HPO := Lib.hid (packB_one (b := b.bu))
  generalize packB b.bu = SL at HPN HPO ⊢
  obtain ⟨Av, cv, hvb, -⟩ := id hb.mem.sl
  obtain ⟨Ar, cr, hvr, -⟩ := id hb.sl
  unfold Buf.agg at HAI ⊢
  rw [hvb, hvr] at HAI
  rw [hvb, hvr]
  have B0 := (new_first w 25 #[.int .i64 b.limit, .slice Av b.mem.length cv, .slice Ar b.runs.length cr] (.cells #[.int .i64 0, .slice none 0 0, .slice none 0 0] 25)).alloc (.cells #[.int .i64 b.limit, .slice none 0 0, .slice none 0 0] 25)
  have B1 := (new_second w 25 #[.int .i64 0, .slice none 0 0, .slice none 0 0] (.cells #[.int .i64 b.limit, .slice Av b.mem.length cv, .slice Ar b.runs.length cr] 25)).alloc (.cells #[.int .i64 b.limit, .slice none 0 0, .slice none 0 0] 25)
  have HK0 := Lib.hid B0
  have HK1 := Lib.hid B1
  have HK2 := Lib.hid (show Blk (((w.alloc (.cells #[.int .i64 b.limit, .slice Av b.mem.length cv, .slice Ar b.runs.length cr] 25)).alloc (.cells #[.int .i64 0, .slice none 0 0, .slice none 0 0] 25)).alloc (.cells #[.int .i64 b.limit, .slice none 0 0, .slice none 0 0] 25)) (w.heap.size + 1 + 1) 25 #[.int .i64 b.limit, .slice none 0 0, .slice none 0 0] from by
    have := Blk.new ((w.alloc (.cells #[.int .i64 b.limit, .slice Av b.mem.length cv, .slice Ar b.runs.length cr] 25)).alloc (.cells #[.int .i64 0, .slice none 0 0, .slice none 0 0] 25)) 25 #[.int .i64 b.limit, .slice none 0 0, .slice none 0 0]
    simpa using this)
  have hB := below_trans (below_trans (below_alloc w (.cells #[.int .i64 b.limit, .slice Av b.mem.length cv, .slice Ar b.runs.length cr] 25)) (below_alloc _ (.cells #[.int .i64 0, .slice none 0 0, .slice none 0 0] 25))) (below_alloc _ (.cells #[.int .i64 b.limit, .slice none 0 0, .slice none 0 0] 25))
  have y0 := HK0.out.cell 0 _ rfl
  have y1 := HK0.out.cell 1 _ rfl
  have y2 := HK0.out.cell 2 _ rfl
  have HY := Lib.hid ((new_first w 25 #[.int .i64 b.limit, .slice Av b.mem.length cv, .slice Ar b.runs.length cr] (.cells #[.int .i64 0, .slice none 0 0, .slice none 0 0] 25)).cell 0 _ rfl)
  have yy := HY.out
  clear hb hf hg hvb hvr B0 B1
  go_enter Tryz.func21, Tryz.ntmps21
  go_wp2_with fail
  refine (HAI.out _ hB).mono ?_
  rintro e w2 ⟨v, l, rfl, hown, he, hb2, hsz⟩
  have hbw2 := below_trans hB hb2
  obtain ⟨A, c, hv, -⟩ := id hown.ents.sl
  subst hv
  have HE := Lib.hid he
  have hc : OwnE w2 (w.heap.size + 3) (.slice A l.length c) l := hown.low (by simp)
  have HOW := Lib.hid hc
  have k1 := HK1.out.below hb2
  have k2 := HK2.out.below hb2
  have hlt2 := k2.lt
  clear y0 y1 y2 yy HY HAI hown he hc HK0 HK1 HK2 hb2 hsz hB
  by_cases hl : l = []
  · subst hl
    have hnil : sortE b.bu.all = [] := by rw [← HE.out]; rfl
    have HSX : Hid (SL = ⟨b.limit, [], []⟩) := Lib.hid ((HPN.out hnil).trans (by rw [HLI.out]))
    have y0 := k2.cell 0 _ rfl
    have y1 := k2.cell 1 _ rfl
    have y2 := k2.cell 2 _ rfl
    have f0 := k1.free 0
    have f1 := k1.free 1
    have f2 := k1.free 2
    have r0 := k1.cell 0 _ rfl
    have r1 := k1.cell 1 _ rfl
    have r2 := k1.cell 2 _ rfl
    have KZ := k1.set3 (.int .i64 b.limit) (.slice none 0 0) (.slice none 0 0)
    have z0 := KZ.cell 0 _ rfl
    have z1 := KZ.cell 1 _ rfl
    have z2 := KZ.cell 2 _ rfl
    have hb9 := below_set3 hbw2 (g := w.heap.size + 1) (by omega) (.int .i64 b.limit) (.slice none 0 0) (.slice none 0 0)
    clear hnil k1 k2 KZ HPN HPO
    go_wp2
    refine bodyPost_ret (v := .agg #[.int .i64 b.limit, .slice none 0 0, .slice none 0 0]) (by simp [results, Tryz.results21, go_sem, z0, z1, z2]) rfl ?_
    exact ⟨⟨b.limit, .slice none 0 0, [], .slice none 0 0, []⟩, rfl, OwnBuf.empty _ _ _, HSX.out.symm, hb9⟩
  · have hnil : sortE b.bu.all ≠ [] := by rw [← HE.out]; intro h; exact hl (List.map_eq_nil_iff.1 h)
    have HSX : Hid (SL = ⟨b.limit, [], [sortE b.bu.all]⟩) := Lib.hid ((HPO.out hnil).trans (by rw [HLI.out]))
    have hpos : 0 < l.length := List.length_pos_iff.2 hl
    have HNR : Hid ((w2.alloc (.cells #[.slice A l.length c] 22)).ownsRow (w.heap.size + 3) 22 1 (.slice none 0 0) 0 []) := Lib.hid ⟨rfl, .inl ⟨rfl, rfl⟩⟩
    have HJ1 := Lib.hid (k1.alloc (.cells #[.slice A l.length c] 22))
    have HJ2 := Lib.hid (k2.alloc (.cells #[.slice A l.length c] 22))
    have HOA := Lib.hid (HOW.out.alloc (.cells #[.slice A l.length c] 22))
    have hb3 := below_trans hbw2 (below_alloc w2 (.cells #[.slice A l.length c] 22))
    have HBS : Hid (w.heap.size + 3 ≤ (w2.alloc (.cells #[.slice A l.length c] 22)).heap.size) := Lib.hid (by simp; omega)
    have x2 := k2.cell 2 _ rfl
    clear hnil k1 k2 HPN HPO
    go_wp2_with (at_builtin; refine wpList_app rfl (.tmp 14) (.tmp 16) 23 rfl (w.heap.size + 3) 22 1 24 Tryz.underlying23 runI (.slice none 0 0) 0 _ rfl HNR.out _ 1 [.slice A l.length c] rfl (one_cellR w2 22 (.slice A l.length c)) rfl (by simp; rfl) ?_ ?_ HBS.out ?_)
    · decide
    · decide
    · intro v7 w7 hown7 hg7 hat7
      obtain ⟨A7, c7, hv7, -⟩ := Sl.of_own hown7
      subst hv7
      have HO7 := (OwnBuf.empty (w2.alloc (.cells #[.slice A l.length c] 22)) (w.heap.size + 3) b.limit).snoc HOA.out (fun k _ => ⟨eblk_nil rfl, nofun, nofun⟩) hown7 hg7 (by rw [World.size_alloc]; exact hat7)
      have j1 := HJ1.out.grown hg7 nofun
      have j2 := HJ2.out.grown hg7 nofun
      have q2 := j2.free 2
      have qq2 := j2.cell 2 _ rfl
      have KS := j2.set_ 2 (.slice A7 1 c7)
      have y0 := KS.cell 0 (.int .i64 b.limit) rfl
      have y1 := KS.cell 1 (.slice none 0 0) rfl
      have y2 := KS.cell 2 (.slice A7 1 c7) rfl
      have KR := j1.far (p := ⟨w.heap.size + 1 + 1, 2, none⟩) (by show w.heap.size + 1 ≠ w.heap.size + 1 + 1; omega) (.slice A7 1 c7)
      have f0 := KR.free 0
      have f1 := KR.free 1
      have f2 := KR.free 2
      have r0 := KR.cell 0 _ rfl
      have r1 := KR.cell 1 _ rfl
      have r2 := KR.cell 2 _ rfl
      have KZ := KR.set3 (.int .i64 b.limit) (.slice none 0 0) (.slice A7 1 c7)
      have z0 := KZ.cell 0 _ rfl
      have z1 := KZ.cell 1 _ rfl
      have z2 := KZ.cell 2 _ rfl
      have hb9 := below_set3 ((below_grown hb3 hg7 nofun).setCell (p := ⟨w.heap.size + 1 + 1, 2, none⟩) (by show w.heap.size ≤ w.heap.size + 1 + 1; omega) (.slice A7 1 c7)) (g := w.heap.size + 1) (by omega) (.int .i64 b.limit) (.slice none 0 0) (.slice A7 1 c7)
      have HO9 := Lib.hid (((HO7.setFar (p := ⟨w.heap.size + 1 + 1, 2, none⟩) (by show w.heap.size + 1 + 1 < w.heap.size + 3; omega) (.slice A7 1 c7)).set3 (g := w.heap.size + 1) (by omega) (.int .i64 b.limit) (.slice none 0 0) (.slice A7 1 c7)).low (base' := w.heap.size) (by omega))
      clear KZ KS KR j1 j2 HOW HO7 hown7 hg7 hat7 HJ1 HJ2 HOA x2
      go_wp2
      refine bodyPost_ret (v := .agg #[.int .i64 b.limit, .slice none 0 0, .slice A7 1 c7]) (by simp [results, Tryz.results21, go_sem, z0, z1, z2]) rfl ?_
      exact ⟨⟨b.limit, .slice none 0 0, [], .slice A7 1 c7, [(.slice A l.length c, l)]⟩, rfl, HO9.out, by rw [HSX.out, ← HE.out]; rfl, hb9⟩
end Go.Proofs.YteabfalklgffmaaGreatDoor
