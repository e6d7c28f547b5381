/-
  Is there an entry of that place?
-/
import Derived.Test.YteabfalklgffmaaDoorBuf5
import Derived.Test.YteabfalklgffmaaDoorBuf6
import Derived.RangeFuncFrom
set_option linter.unusedSimpArgs false
set_option linter.unusedVariables false
namespace Go.Proofs.YteabfalklgffmaaDoor
open Go.RowKit Go.Shelf
attribute [local go_sem] Oper.semAt_some

def Buf.agg (b : Buf) : Value := .agg #[.int .i64 b.limit, b.vm, b.vr]
theorem blk_own {A B : World} {g : Nat} {t : TypeId} {cs : Array Value} {row : Option Nat} (h : Blk A g t cs) (hg : A.grownBy B row) (hr : ∀ r, row = some r → ∃ o : Obj, A.heap[r]? = some o ∧ o.isCells = false) : Blk B g t cs :=
  (hg.block g h.lt (fun e => by
    obtain ⟨o, ho, hc⟩ := hr g e.symm
    have h' : A.heap[g]? = some (.cells cs t) := h
    rw [h'] at ho
    injection ho with ho
    subst ho
    cases hc)).trans h
theorem keeps_below {W W' : World} (h : Below W.heap.size W W') : KeepsOthers W W' := KeepsOthers.of_grownBy (grown_of_below h none) (fun j o e => by cases e)

theorem parts_eq (b : Buf) : b.bu.parts = (List.range (b.runs.length + 1)).map fun k => ens (b.part k).2 := by
  rw [List.range_succ_eq_map, List.map_cons, List.map_map]
  show ens b.mem :: (b.runs.map fun p => ens p.2) = _
  congr 1
  apply List.ext_getElem
  · simp
  · intro i h1 h2
    have hi : i < b.runs.length := by simpa using h1
    simp [Buf.part, hi]
theorem isE_parts (b : Buf) (e : En) : isE b.bu.all e = (List.range (b.runs.length + 1)).any fun k => isE (ens (b.part k).2) e := by
  unfold Bu.all
  rw [isE_flat, parts_eq, List.any_map]
  rfl

set_option maxRecDepth 100000 in
set_option maxHeartbeats 4000000 in
theorem has_any (b : Buf) (x : Ent) (w : World) (hb : b.ok w) (hU : ∀ k, Up (ens (b.part k).2)) (hl : ∀ k, (b.part k).2.length ≤ 1000000) :
    Calls Tryd.prog 18 #[b.agg, x.agg] w fun e w' => e = .returned (.bool (isE b.bu.all x.e)) ∧ Below w.heap.size w w' := by
  have HO := Lib.hid hb
  have HU := Lib.hid hU
  have HL := Lib.hid hl
  have HBS := Lib.hid (fun k w' (h : Below w.heap.size w w') => bsearch_any (b.part k).1 (b.part k).2 x w' ((hb.part k).below h) (hl k) (hU k))
  have HIS := Lib.hid (isE_parts b x.e)
  unfold Buf.agg
  unfold Ent.agg at HBS ⊢
  clear hb hU hl
  refine (callsIn_wide (n := 3)).1 ?_
  refine callsIn_of_wp_marks Tryd.func18 rfl trivial ?_ rfl
  simp only [Tryd.ntmps18, List.size_toArray, List.length_cons, List.length_nil, Nat.reduceAdd, Nat.reduceSub, Array.replicate_succ, Array.replicate_zero, List.push_toArray, List.append_toArray, List.nil_append, List.cons_append]
  gi_wp2_with (refine ⟨trivial, ?_⟩; gi_at_call 19; refine (callsIn_wide.2 (parts_any b _)).mono ?_; rintro e w' ⟨rfl, rfl⟩)
  have hB0 : Below w.heap.size w ((((w.alloc (.cells #[.int .i64 b.limit, b.vm, b.vr] 25)).alloc (.cells #[.string (str x.e.key), .int .i64 x.e.t, .int .i64 x.e.s, x.v, .bool x.e.met] 28)).alloc (.cells #[.bool false] 4)).alloc (.cells #[.int .i64 b.limit, b.vm, b.vr] 25)) :=
    ((((Below.refl _ w).alloc (Nat.le_refl _) _).alloc (by simp) _).alloc (by simp; omega) _).alloc (by simp; omega) _
  have k1 := (Blk.new (w.alloc (.cells #[.int .i64 b.limit, b.vm, b.vr] 25)) 28 #[.string (str x.e.key), .int .i64 x.e.t, .int .i64 x.e.s, x.v, .bool x.e.met]).alloc (.cells #[.bool false] 4) |>.alloc (.cells #[.int .i64 b.limit, b.vm, b.vr] 25)
  have k2 := (Blk.new ((w.alloc (.cells #[.int .i64 b.limit, b.vm, b.vr] 25)).alloc (.cells #[.string (str x.e.key), .int .i64 x.e.t, .int .i64 x.e.s, x.v, .bool x.e.met] 28)) 4 #[.bool false]).alloc (.cells #[.int .i64 b.limit, b.vm, b.vr] 25)
  have k3 := Blk.new (((w.alloc (.cells #[.int .i64 b.limit, b.vm, b.vr] 25)).alloc (.cells #[.string (str x.e.key), .int .i64 x.e.t, .int .i64 x.e.s, x.v, .bool x.e.met] 28)).alloc (.cells #[.bool false] 4)) 25 #[.int .i64 b.limit, b.vm, b.vr]
  simp only [World.size_alloc] at k1 k2 k3
  obtain ⟨W0, hW0⟩ : ∃ W0, (((w.alloc (.cells #[.int .i64 b.limit, b.vm, b.vr] 25)).alloc (.cells #[.string (str x.e.key), .int .i64 x.e.t, .int .i64 x.e.s, x.v, .bool x.e.met] 28)).alloc (.cells #[.bool false] 4)).alloc (.cells #[.int .i64 b.limit, b.vm, b.vr] 25) = W0 := ⟨_, rfl⟩
  have hsz : W0.heap.size = w.heap.size + 4 := by rw [← hW0]; simp
  rw [hW0] at hB0 k1 k2 k3 ⊢
  refine wpIn_rangeFunc_ownF rfl (by omega) (gf := 42) (lb := #[.pointer (some ⟨w.heap.size + 1 + 1 + 1, 0, none⟩)]) rfl trivial (enters_of Tryd.func42 (by kernel_rfl) rfl)
    (parts_stops Fence.wide _ trivial rfl (by omega) (w.heap.size + 1 + 1 + 1) b W0 k3 w hB0 HO.out) KpB.trans (KpB.put (by omega) (by omega)) (Below.refl _ _) (fun _ => rfl)
    (fun pre W => ((∀ k ∈ pre, isE (ens (b.part k).2) x.e = false) ∧ Blk W (w.heap.size + 1) 28 #[.string (str x.e.key), .int .i64 x.e.t, .int .i64 x.e.s, x.v, .bool x.e.met] ∧ Blk W (w.heap.size + 1 + 1) 4 #[.bool false] ∧ w.heap.size + 4 ≤ W.heap.size) ∧ Below w.heap.size w W)
    (fun c pre W => (c = .ret ∧ (∃ k ∈ pre, isE (ens (b.part k).2) x.e = true) ∧ Blk W (w.heap.size + 1 + 1) 4 #[.bool true]) ∧ Below w.heap.size w W)
    (OwnFrom.and (Own.from (fun s A B row hs hg hr => ⟨hs.1, blk_own hs.2.1 hg hr, blk_own hs.2.2.1 hg hr, Nat.le_trans hs.2.2.2 hg.size⟩) _) (ownFrom_below (Nat.le_refl _) (by omega)))
    (fun c => OwnFrom.and (Own.from (fun s A B row hs hg hr => ⟨hs.1, hs.2.1, blk_own hs.2.2 hg hr⟩) _) (ownFrom_below (Nat.le_refl _) (by omega)))
    ⟨⟨nofun, k1, k2, by omega⟩, hB0⟩
    (fun k => { tmps := #[.agg #[.int .i64 b.limit, b.vm, b.vr], .agg #[.string (str x.e.key), .int .i64 x.e.t, .int .i64 x.e.s, x.v, .bool x.e.met], .pointer (some ⟨w.heap.size, 0, none⟩), .pointer (some ⟨w.heap.size + 1, 0, none⟩), .pointer (some ⟨w.heap.size + 1 + 1, 0, none⟩), undef, (b.part k).1, undef, undef,
      .agg #[.int .i64 b.limit, b.vm, b.vr], .func (.func 42) #[] #[.pointer (some ⟨w.heap.size + 1 + 1 + 1, 0, none⟩)], .int .i64 (idxP k), (b.part k).1, undef, undef, undef, undef, undef, undef, undef], defers := [] }) ?assign ?body ?done ?stop
  case assign =>
    intro l k W K hK
    dsimp only [encP]
    gi_wp2
    exact hK
  case body =>
    rintro l pre k W ⟨⟨hp, hK1, hK2, hWs⟩, hB⟩ _
    have y0 := hK1.cell 0 _ rfl
    have y1 := hK1.cell 1 _ rfl
    have y2 := hK1.cell 2 _ rfl
    have y3 := hK1.cell 3 _ rfl
    have y4 := hK1.cell 4 _ rfl
    have HBK := Lib.hid (HBS.out k W hB)
    cases his : isE (ens (b.part k).2) x.e with
    | false =>
      have HIK := Lib.hid his
      simp only [his] at HBK
      clear his
      gi_wp2_with (refine ⟨trivial, ?_⟩; gi_at_call 22; refine (CallsIn.inRound l (callsIn_wide.2 HBK.out)).mono ?_; rintro e w5 ⟨i, _, rfl, -, rfl, hb5⟩)
      exact ⟨keeps_below hb5, KpB.of_below (by omega) (by omega) hb5, ⟨fun j hj => by
        rcases List.mem_append.1 hj with hj | hj
        · exact hp j hj
        · rw [List.mem_singleton.1 hj]; exact HIK.out, hK1.below hb5, hK2.below hb5, Nat.le_trans hWs hb5.size⟩, below_trans hB hb5⟩
    | true =>
      have HIK := Lib.hid his
      simp only [his] at HBK
      clear his
      gi_wp2_with (refine ⟨trivial, ?_⟩; gi_at_call 22; refine (CallsIn.inRound l (callsIn_wide.2 HBK.out)).mono ?_; rintro e w5 ⟨i, _, rfl, -, rfl, hb5⟩; have z0 := (hK2.below hb5).cell 0 _ rfl; have f0 := (hK2.below hb5).free 0)
      exact ⟨(keeps_below hb5).trans (KeepsOthers.setCell _ _ _), ⟨rfl, ⟨k, by simp, HIK.out⟩, (hK2.below hb5).set_ 0 (.bool true)⟩, (below_trans hB hb5).setCell (p := ⟨w.heap.size + 1 + 1, 0, none⟩) (by show w.heap.size ≤ w.heap.size + 1 + 1; omega) _⟩
  case done =>
    rintro D ys W hD rfl ⟨⟨hne, hK1, hK2, -⟩, hB⟩ hK
    have z0 := hK2.cell 0 _ rfl
    have f0 := hK2.free 0
    gi_wp2
    have hK' := (KeepsOthers.setCell W ⟨w.heap.size + 1 + 1, 0, none⟩ (.bool false)).same D _ hK rfl
    refine ⟨by simp, .inl ⟨_, _, rfl, run_takeDeferred hK', ?_⟩⟩
    have hc5 := cell_kept ((hK2.set_ 0 (.bool false)).cell 0 (.bool false) rfl) (grownBy_putObj' _ D (.deferred none)) (fun r e => by cases e; exact ⟨_, hK', rfl⟩)
    refine ⟨.bool false, ?_, ?_, (hB.setCell (p := ⟨w.heap.size + 1 + 1, 0, none⟩) (by show w.heap.size ≤ w.heap.size + 1 + 1; omega) _).trans (belowK_b (w := W0) (by omega) _ D _ _ hD hK' rfl rfl)⟩
    · simp [results, Tryd.results18, go_sem, hc5]
    · rw [HIS.out, show ((List.range (b.runs.length + 1)).any fun k => isE (ens (b.part k).2) x.e) = false from List.any_eq_false.2 fun k hk => by rw [hne k hk]; simp]
  case stop =>
    rintro D c pre W hD hpre ⟨⟨rfl, hin, hK2⟩, hB⟩ hK
    gi_wp2
    refine ⟨by simp, .inl ⟨_, _, rfl, run_takeDeferred hK, ?_⟩⟩
    have hc5 := cell_kept (hK2.cell 0 (.bool true) rfl) (grownBy_putObj' _ D (.deferred none)) (fun r e => by cases e; exact ⟨_, hK, rfl⟩)
    refine ⟨.bool true, ?_, ?_, hB.trans (belowK_b (w := W0) (by omega) W D _ _ hD hK rfl rfl)⟩
    · simp [results, Tryd.results18, go_sem, hc5]
    · obtain ⟨k, hk, hh⟩ := hin
      obtain ⟨q, hq, rfl⟩ := hpre
      rw [HIS.out, show ((List.range (b.runs.length + 1)).any fun k => isE (ens (b.part k).2) x.e) = true from List.any_eq_true.2 ⟨k, by rw [List.mem_range] at hk ⊢; omega, hh⟩]

end Go.Proofs.YteabfalklgffmaaDoor
