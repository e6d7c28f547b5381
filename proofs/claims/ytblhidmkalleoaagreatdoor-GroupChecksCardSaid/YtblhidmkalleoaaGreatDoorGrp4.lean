/-
  Groups: looks.
-/
import Derived.Test.YtblhidmkalleoaaGreatDoorGrp3
import Derived.Test.YtblhidmkalleoaaGreatDoorGrpA9
import Derived.Test.YtblhidmkalleoaaGreatDoorValue12
set_option linter.unusedSimpArgs false
set_option linter.unusedVariables false
namespace Go.Proofs.YtblhidmkalleoaaGreatDoor
open Go.RowKit

/-- Cells of a block, laid one after the other. -/
def setAll (w : World) (g : Nat) : Nat → List Value → World
  | _, [] => w
  | i, v :: l => setAll (w.setCell ⟨g, i, none⟩ v) g (i + 1) l
theorem setAll_arr {t : TypeId} {g : Nat} : ∀ {l : List Value} {w : World} {cs : Array Value} {i : Nat}, Blk w g t cs → i + l.length = cs.size → ∃ ds, Blk (setAll w g i l) g t ds ∧ ds.toList = cs.toList.take i ++ l
  | [], w, cs, i, h, hl => ⟨cs, h, by simp at hl; rw [hl]; simp [List.take_of_length_le]⟩
  | v :: l, w, cs, i, h, hl => by
    have hlt : i < cs.size := by simp at hl; omega
    obtain ⟨ds, h1, h2⟩ := setAll_arr (h.set_ i v) (i := i + 1) (l := l) (by simp at hl ⊢; omega)
    refine ⟨ds, h1, ?_⟩
    rw [h2, Array.toList_setIfInBounds, List.take_add_one]
    rw [List.take_set_of_le (Nat.le_refl _), List.getElem?_set_self (by simpa using hlt)]
    simp
theorem Blk.setAll {w : World} {g : Nat} {t : TypeId} {cs : Array Value} (h : Blk w g t cs) (l : List Value) (hl : l.length = cs.size) : Blk (setAll w g 0 l) g t l.toArray := by
  obtain ⟨ds, h1, h2⟩ := setAll_arr h (i := 0) (l := l) (by omega)
  have : ds = l.toArray := by rw [← Array.toArray_toList (xs := ds), h2]; simp
  rwa [this] at h1
theorem Sl.own_lt {w : World} {v : Value} {n : Nat} {cs : List Value} (h : Sl w v n cs) (hne : cs ≠ []) : ∀ k, v.ownBlock = some k → k < w.heap.size := by
  obtain ⟨A, c, rfl, -, -, -, h3⟩ := h
  obtain ⟨b, off, rfl, hc⟩ := h3 hne
  intro k hk
  injection hk with hk
  subst hk
  cases cs with
  | nil => exact absurd rfl hne
  | cons u l => exact World.block_lt_of_cell? w _ (hc 0 u rfl)
theorem own_slice {w : World} {base : Nat} {e : TypeId} {size n : Nat} {v : Value} {xs : List Value} (h : w.ownsRow base e size v n xs) : ∃ A m c, v = .slice A m c := by
  rcases h.2 with ⟨rfl, _⟩ | ⟨g, cap, _, rfl, _⟩
  · exact ⟨_, _, _, rfl⟩
  · exact ⟨_, _, _, rfl⟩
theorem Sl.setAll {g : Nat} : ∀ {l : List Value} {w : World} {v : Value} {n : Nat} {cs : List Value} {i : Nat}, Sl w v n cs → (∀ k, v.ownBlock = some k → k ≠ g) → Sl (setAll w g i l) v n cs
  | [], _, _, _, _, _, h, _ => h
  | u :: l, w, v, n, cs, i, h, hg => Sl.setAll (l := l) (w := w.setCell ⟨g, i, none⟩ u) (i := i + 1) (h.setCell (p := ⟨g, i, none⟩) hg u) hg
theorem below_setAll {a : World} {b g : Nat} : ∀ {l : List Value} {w : World} {i : Nat}, Below b a w → b ≤ g → Below b a (setAll w g i l)
  | [], _, _, h, _ => h
  | v :: l, w, i, h, hg => below_setAll (l := l) (w := w.setCell ⟨g, i, none⟩ v) (i := i + 1) (h.setCell (p := ⟨g, i, none⟩) hg v) hg

set_option maxHeartbeats 16000000 in
set_option maxRecDepth 10000 in
theorem looks_any (p : Pl) (w : World) (h : p.ok w) (hz : checkP p = 0) :
    Calls Tryz.prog 67 #[.agg #[.int .i64 p.kind, .int .i64 p.mode, .int .i64 p.low, .int .i64 p.high, .int .i64 p.size, .int .i64 p.limit, p.vl, p.vr, p.vk, p.vq, .bool p.grouped, p.vg, p.va]] w fun e w' => ∃ va vo, e = .returned (.agg (lookCells p va vo)) ∧ Sl w' va (allT p).length (intCells (allT p)) ∧ Sl w' vo (ownT p).length (intCells (ownT p)) ∧ Below w.heap.size w w' := by
  have HL := Lib.hid h.l
  have HRR := Lib.hid h.r
  have HG := Lib.hid h.g
  have hsh := counts_short (check_ok hz).2.2.1
  have hgr := form_group (check_ok hz).2.2.2.2
  obtain ⟨A0, c0, h0, n0, m0, -⟩ := id HL.out
  obtain ⟨A1, c1, h1, n1, m1, -⟩ := id HRR.out
  obtain ⟨A4, c4, h4, n4, m4, -⟩ := id HG.out
  obtain ⟨A2, c2, h2, -⟩ := h.k
  obtain ⟨A3, c3, h3, -⟩ := h.q
  obtain ⟨A5, c5, h5, -⟩ := h.a
  obtain ⟨l1, l2, r1, r2, -, -, -, -, g1, -⟩ := hsh
  unfold maxLen at m0 m1 m4
  obtain ⟨t, ht⟩ : ∃ t, p.left ++ p.right = t := ⟨_, rfl⟩
  have hl8 : t.length ≤ 8 := by rw [← ht, List.length_append]; omega
  have ht1 : 1 ≤ t.length := by rw [← ht, List.length_append]; omega
  rw [show ownT p = outG t p.group by rw [← ht]; rfl, show allT p = t from ht]
  rw [ht] at hgr
  have HT0 := Lib.hid ht
  have HT1 : Hid (intCells t ≠ []) := Lib.hid (fun e => by have h1 := congrArg List.length e; rw [intCells_len, List.length_nil] at h1; omega)
  have HGR := Lib.hid hgr
  unfold lookCells
  rw [h0] at HL ⊢
  rw [h1] at HRR ⊢
  rw [h4] at HG ⊢
  rw [h2, h3, h5]
  clear ht h hz hgr h0 h1 h4 h2 h3 h5
  have hB := below_trans (below_alloc w (.cells #[.int .i64 p.kind, .int .i64 p.mode, .int .i64 p.low, .int .i64 p.high, .int .i64 p.size, .int .i64 p.limit, .slice A0 p.left.length c0, .slice A1 p.right.length c1, .slice A2 p.lkeys.length c2, .slice A3 p.rkeys.length c3, .bool p.grouped, .slice A4 p.group.length c4, .slice A5 p.aggs.length c5] 25)) (below_alloc _ (.cells #[.int .i64 0, .int .i64 0, .int .i64 0, .int .i64 0, .int .i64 0, .int .i64 0, .slice none 0 0, .slice none 0 0, .slice none 0 0, .slice none 0 0, .bool false, .slice none 0 0, .slice none 0 0, .slice none 0 0, .slice none 0 0] 117))
  have K0 := new_first w 25 #[.int .i64 p.kind, .int .i64 p.mode, .int .i64 p.low, .int .i64 p.high, .int .i64 p.size, .int .i64 p.limit, .slice A0 p.left.length c0, .slice A1 p.right.length c1, .slice A2 p.lkeys.length c2, .slice A3 p.rkeys.length c3, .bool p.grouped, .slice A4 p.group.length c4, .slice A5 p.aggs.length c5] (.cells #[.int .i64 0, .int .i64 0, .int .i64 0, .int .i64 0, .int .i64 0, .int .i64 0, .slice none 0 0, .slice none 0 0, .slice none 0 0, .slice none 0 0, .bool false, .slice none 0 0, .slice none 0 0, .slice none 0 0, .slice none 0 0] 117)
  have K1 := new_second w 117 #[.int .i64 0, .int .i64 0, .int .i64 0, .int .i64 0, .int .i64 0, .int .i64 0, .slice none 0 0, .slice none 0 0, .slice none 0 0, .slice none 0 0, .bool false, .slice none 0 0, .slice none 0 0, .slice none 0 0, .slice none 0 0] (.cells #[.int .i64 p.kind, .int .i64 p.mode, .int .i64 p.low, .int .i64 p.high, .int .i64 p.size, .int .i64 p.limit, .slice A0 p.left.length c0, .slice A1 p.right.length c1, .slice A2 p.lkeys.length c2, .slice A3 p.rkeys.length c3, .bool p.grouped, .slice A4 p.group.length c4, .slice A5 p.aggs.length c5] 25)
  have HSS := Lib.hid (fun w' (h : Below ((w.alloc (.cells #[.int .i64 p.kind, .int .i64 p.mode, .int .i64 p.low, .int .i64 p.high, .int .i64 p.size, .int .i64 p.limit, .slice A0 p.left.length c0, .slice A1 p.right.length c1, .slice A2 p.lkeys.length c2, .slice A3 p.rkeys.length c3, .bool p.grouped, .slice A4 p.group.length c4, .slice A5 p.aggs.length c5] 25)).alloc (.cells #[.int .i64 0, .int .i64 0, .int .i64 0, .int .i64 0, .int .i64 0, .int .i64 0, .slice none 0 0, .slice none 0 0, .slice none 0 0, .slice none 0 0, .bool false, .slice none 0 0, .slice none 0 0, .slice none 0 0, .slice none 0 0] 117)).heap.size ((w.alloc (.cells #[.int .i64 p.kind, .int .i64 p.mode, .int .i64 p.low, .int .i64 p.high, .int .i64 p.size, .int .i64 p.limit, .slice A0 p.left.length c0, .slice A1 p.right.length c1, .slice A2 p.lkeys.length c2, .slice A3 p.rkeys.length c3, .bool p.grouped, .slice A4 p.group.length c4, .slice A5 p.aggs.length c5] 25)).alloc (.cells #[.int .i64 0, .int .i64 0, .int .i64 0, .int .i64 0, .int .i64 0, .int .i64 0, .slice none 0 0, .slice none 0 0, .slice none 0 0, .slice none 0 0, .bool false, .slice none 0 0, .slice none 0 0, .slice none 0 0, .slice none 0 0] 117)) w') => (let K0 := K0.below h; And.intro (K0.cell 0 _ rfl) (And.intro (K0.cell 1 _ rfl) (And.intro (K0.cell 2 _ rfl) (And.intro (K0.cell 3 _ rfl) (And.intro (K0.cell 4 _ rfl) (And.intro (K0.cell 5 _ rfl) (And.intro (K0.cell 6 _ rfl) (And.intro (K0.cell 7 _ rfl) (And.intro (K0.cell 8 _ rfl) (And.intro (K0.cell 9 _ rfl) (And.intro (K0.cell 10 _ rfl) (And.intro (K0.cell 11 _ rfl) (K0.cell 12 _ rfl))))))))))))))
  have HK0 := Lib.hid K0
  have HK1 := Lib.hid K1
  clear K0 K1
  go_enter Tryz.func67, Tryz.ntmps67
  go_upto_region 1 with fail
  obtain ⟨V, hV⟩ : ∃ V, ((w.alloc (.cells #[.int .i64 p.kind, .int .i64 p.mode, .int .i64 p.low, .int .i64 p.high, .int .i64 p.size, .int .i64 p.limit, .slice A0 p.left.length c0, .slice A1 p.right.length c1, .slice A2 p.lkeys.length c2, .slice A3 p.rkeys.length c3, .bool p.grouped, .slice A4 p.group.length c4, .slice A5 p.aggs.length c5] 25)).alloc (.cells #[.int .i64 0, .int .i64 0, .int .i64 0, .int .i64 0, .int .i64 0, .int .i64 0, .slice none 0 0, .slice none 0 0, .slice none 0 0, .slice none 0 0, .bool false, .slice none 0 0, .slice none 0 0, .slice none 0 0, .slice none 0 0] 117)) = V := ⟨_, rfl⟩
  rw [hV] at HSS HK0 HK1 hB ⊢
  have HVS : Hid (V.heap.size = w.heap.size + 1 + 1) := Lib.hid (by rw [← hV]; simp)
  clear hV
  go_cut [3] from 3 to 33 (fun lv wx => ∃ (P : Nat) (va : Value), lv = .pointer (some ⟨P, 0, none⟩) ∧ w.heap.size + 1 < P ∧ Hid (Blk wx P 117 #[.int .i64 p.kind, .int .i64 p.mode, .int .i64 p.low, .int .i64 p.high, .int .i64 p.size, .int .i64 p.limit, .slice A0 p.left.length c0, .slice A1 p.right.length c1, .slice A2 p.lkeys.length c2, .slice A3 p.rkeys.length c3, .bool p.grouped, .slice A4 p.group.length c4, .slice A5 p.aggs.length c5, va, .slice none 0 0]) ∧ Hid (Sl wx va t.length (intCells t)) ∧ Hid (∀ k, va.ownBlock = some k → w.heap.size + 1 < k ∧ k ≠ P ∧ k < wx.heap.size) ∧ Below V.heap.size V wx)
  case first =>
      refine tr (S := (fun w' => w'.cell? ⟨w.heap.size, 0, none⟩ = some (.int .i64 p.kind) ∧ w'.cell? ⟨w.heap.size, 1, none⟩ = some (.int .i64 p.mode) ∧ w'.cell? ⟨w.heap.size, 2, none⟩ = some (.int .i64 p.low) ∧ w'.cell? ⟨w.heap.size, 3, none⟩ = some (.int .i64 p.high) ∧ w'.cell? ⟨w.heap.size, 4, none⟩ = some (.int .i64 p.size) ∧ w'.cell? ⟨w.heap.size, 5, none⟩ = some (.int .i64 p.limit) ∧ w'.cell? ⟨w.heap.size, 6, none⟩ = some (.slice A0 p.left.length c0) ∧ w'.cell? ⟨w.heap.size, 7, none⟩ = some (.slice A1 p.right.length c1) ∧ w'.cell? ⟨w.heap.size, 8, none⟩ = some (.slice A2 p.lkeys.length c2) ∧ w'.cell? ⟨w.heap.size, 9, none⟩ = some (.slice A3 p.rkeys.length c3) ∧ w'.cell? ⟨w.heap.size, 10, none⟩ = some (.bool p.grouped) ∧ w'.cell? ⟨w.heap.size, 11, none⟩ = some (.slice A4 p.group.length c4) ∧ w'.cell? ⟨w.heap.size, 12, none⟩ = some (.slice A5 p.aggs.length c5))) (HSS.out _ (Below.refl _ V).drew) (fun hHeld => ?_)
      refine tk 0 ?_; refine tk 1 ?_; refine tk 2 ?_; refine tk 3 ?_; refine tk 4 ?_
      refine tc2 5 8 ?_ ?_
      · intro K hK
        go_simp
        refine hK.out _ _ (HSS.out _ (below_alloc V (.cells #[.slice A0 p.left.length c0, .slice A1 p.right.length c1] 22)).drew) (fun hHeld5 => ?_)
        clear hK K
        refine tc2 6 8 ?_ ?_
        · intro K hK
          go_simp
          refine Calls.mono (by with_reducible exact concat_any _ _ _ p.left p.right _ (two_sl V _ _).drew (HL.out.below (below_trans hB (below_alloc V (.cells #[.slice A0 p.left.length c0, .slice A1 p.right.length c1] 22)).drew)) (HRR.out.below (below_trans hB (below_alloc V (.cells #[.slice A0 p.left.length c0, .slice A1 p.right.length c1] 22)).drew)) (by omega) (by omega)) ?_
          rintro e w3 ⟨v1, rfl, hs1, hfr, hb3⟩
          rw [HT0.out] at hs1
          have hbw3 := below_trans (below_alloc V (.cells #[.slice A0 p.left.length c0, .slice A1 p.right.length c1] 22)).drew hb3
          have Z3 := HSS.out _ hbw3
          have HS1 := Lib.hid hs1
          have HFR := Lib.hid hfr
          have HLT := Lib.hid (hs1.own_lt HT1.out)
          simp only [World.size_drew, World.size_alloc] at HFR
          obtain ⟨Av, nv, cv, rfl⟩ : ∃ A n c, v1 = .slice A n c := by obtain ⟨A, c, e, -⟩ := id hs1; exact ⟨A, _, c, e⟩
          clear hs1 hfr
          go_wp2_with fail
          refine hK.out _ _ Z3 (fun hHeld6 => ?_)
          clear hK K
          refine tk 7 ?_; refine tc 8 ?_
          intro K hK
          go_simp
          refine hK.out _ _ (HSS.out _ (below_trans hbw3 (below_alloc _ (.cells #[.int .i64 0, .int .i64 0, .int .i64 0, .int .i64 0, .int .i64 0, .int .i64 0, .slice none 0 0, .slice none 0 0, .slice none 0 0, .slice none 0 0, .bool false, .slice none 0 0, .slice none 0 0, .slice none 0 0, .slice none 0 0] 117)))) (fun hHeld8 => ?_)
          clear hK K
          refine tc 9 ?_
          intro K hK
          go_simp
          refine hK.out _ _ (HSS.out _ (below_trans hbw3 (below_alloc _ (.cells #[.int .i64 p.kind, .int .i64 p.mode, .int .i64 p.low, .int .i64 p.high, .int .i64 p.size, .int .i64 p.limit, .slice A0 p.left.length c0, .slice A1 p.right.length c1, .slice A2 p.lkeys.length c2, .slice A3 p.rkeys.length c3, .bool p.grouped, .slice A4 p.group.length c4, .slice A5 p.aggs.length c5, .slice Av nv cv, .slice none 0 0] 117)))) (fun hHeld9 => ?_)
          clear hK K
          refine td ?_
          go_wp2_with fail
          go_meet
          exact ⟨w3.heap.size, _, rfl, by have := HVS.out; have := hbw3.size; omega, Lib.hid (Blk.new w3 117 #[.int .i64 p.kind, .int .i64 p.mode, .int .i64 p.low, .int .i64 p.high, .int .i64 p.size, .int .i64 p.limit, .slice A0 p.left.length c0, .slice A1 p.right.length c1, .slice A2 p.lkeys.length c2, .slice A3 p.rkeys.length c3, .bool p.grouped, .slice A4 p.group.length c4, .slice A5 p.aggs.length c5, .slice Av nv cv, .slice none 0 0]), Lib.hid (HS1.out.below (below_alloc _ _)), Lib.hid (fun k hk => by have h1 := HFR.out k hk; have h2 := HLT.out k hk; have h3 := HVS.out; have h4 := hbw3.size; exact ⟨by omega, by omega, by simp; omega⟩), below_trans hbw3 (below_alloc _ _)⟩
        · intro K hK
          go_simp
          refine hK.out _ _ (HSS.out _ (below_trans (below_alloc V (.cells #[.slice A0 p.left.length c0, .slice A1 p.right.length c1] 22)) (below_alloc _ (.cells #[.int .i64 0, .int .i64 0, .int .i64 0, .int .i64 0, .int .i64 0, .int .i64 0, .slice none 0 0, .slice none 0 0, .slice none 0 0, .slice none 0 0, .bool false, .slice none 0 0, .slice none 0 0, .slice none 0 0, .slice none 0 0] 117))).drew) (fun hHeld8 => ?_)
          clear hK K
          refine tc 6 ?_
          intro K hK
          go_simp
          refine Calls.mono (by with_reducible exact concat_any _ _ _ p.left p.right _ ((two_sl V _ _).below (below_alloc _ (.cells #[.int .i64 0, .int .i64 0, .int .i64 0, .int .i64 0, .int .i64 0, .int .i64 0, .slice none 0 0, .slice none 0 0, .slice none 0 0, .slice none 0 0, .bool false, .slice none 0 0, .slice none 0 0, .slice none 0 0, .slice none 0 0] 117))).drew (HL.out.below (below_trans hB (below_trans (below_alloc V (.cells #[.slice A0 p.left.length c0, .slice A1 p.right.length c1] 22)) (below_alloc _ (.cells #[.int .i64 0, .int .i64 0, .int .i64 0, .int .i64 0, .int .i64 0, .int .i64 0, .slice none 0 0, .slice none 0 0, .slice none 0 0, .slice none 0 0, .bool false, .slice none 0 0, .slice none 0 0, .slice none 0 0, .slice none 0 0] 117))).drew)) (HRR.out.below (below_trans hB (below_trans (below_alloc V (.cells #[.slice A0 p.left.length c0, .slice A1 p.right.length c1] 22)) (below_alloc _ (.cells #[.int .i64 0, .int .i64 0, .int .i64 0, .int .i64 0, .int .i64 0, .int .i64 0, .slice none 0 0, .slice none 0 0, .slice none 0 0, .slice none 0 0, .bool false, .slice none 0 0, .slice none 0 0, .slice none 0 0, .slice none 0 0] 117))).drew)) (by omega) (by omega)) ?_
          rintro e w3 ⟨v1, rfl, hs1, hfr, hb3⟩
          rw [HT0.out] at hs1
          have hbw3 := below_trans (below_trans (below_alloc V (.cells #[.slice A0 p.left.length c0, .slice A1 p.right.length c1] 22)) (below_alloc _ (.cells #[.int .i64 0, .int .i64 0, .int .i64 0, .int .i64 0, .int .i64 0, .int .i64 0, .slice none 0 0, .slice none 0 0, .slice none 0 0, .slice none 0 0, .bool false, .slice none 0 0, .slice none 0 0, .slice none 0 0, .slice none 0 0] 117))).drew hb3
          have Z3 := HSS.out _ hbw3
          have HS1 := Lib.hid hs1
          have HFR := Lib.hid hfr
          have HLT := Lib.hid (hs1.own_lt HT1.out)
          simp only [World.size_drew, World.size_alloc] at HFR
          obtain ⟨Av, nv, cv, rfl⟩ : ∃ A n c, v1 = .slice A n c := by obtain ⟨A, c, e, -⟩ := id hs1; exact ⟨A, _, c, e⟩
          clear hs1 hfr
          go_wp2_with fail
          refine hK.out _ _ Z3 (fun hHeld6 => ?_)
          clear hK K
          refine tk 7 ?_; refine tc 9 ?_
          have K8 := ((Blk.new (V.alloc (.cells #[.slice A0 p.left.length c0, .slice A1 p.right.length c1] 22)) 117 #[.int .i64 0, .int .i64 0, .int .i64 0, .int .i64 0, .int .i64 0, .int .i64 0, .slice none 0 0, .slice none 0 0, .slice none 0 0, .slice none 0 0, .bool false, .slice none 0 0, .slice none 0 0, .slice none 0 0, .slice none 0 0]).drew.below hb3)
          try simp only [World.size_alloc] at K8
          have K9 := K8.setAll [.int .i64 p.kind, .int .i64 p.mode, .int .i64 p.low, .int .i64 p.high, .int .i64 p.size, .int .i64 p.limit, .slice A0 p.left.length c0, .slice A1 p.right.length c1, .slice A2 p.lkeys.length c2, .slice A3 p.rkeys.length c3, .bool p.grouped, .slice A4 p.group.length c4, .slice A5 p.aggs.length c5, .slice Av nv cv, .slice none 0 0] rfl
          simp only [setAll, Nat.reduceAdd] at K9
          have B9 := below_setAll (b := V.heap.size) (l := [.int .i64 p.kind, .int .i64 p.mode, .int .i64 p.low, .int .i64 p.high, .int .i64 p.size, .int .i64 p.limit, .slice A0 p.left.length c0, .slice A1 p.right.length c1, .slice A2 p.lkeys.length c2, .slice A3 p.rkeys.length c3, .bool p.grouped, .slice A4 p.group.length c4, .slice A5 p.aggs.length c5, .slice Av nv cv, .slice none 0 0]) (i := 0) hbw3 (g := V.heap.size + 1) (by omega)
          simp only [setAll, Nat.reduceAdd] at B9
          have r0 := K8.cell 0 _ rfl
          have f0 := K8.free 0
          have r1 := K8.cell 1 _ rfl
          have f1 := K8.free 1
          have r2 := K8.cell 2 _ rfl
          have f2 := K8.free 2
          have r3 := K8.cell 3 _ rfl
          have f3 := K8.free 3
          have r4 := K8.cell 4 _ rfl
          have f4 := K8.free 4
          have r5 := K8.cell 5 _ rfl
          have f5 := K8.free 5
          have r6 := K8.cell 6 _ rfl
          have f6 := K8.free 6
          have r7 := K8.cell 7 _ rfl
          have f7 := K8.free 7
          have r8 := K8.cell 8 _ rfl
          have f8 := K8.free 8
          have r9 := K8.cell 9 _ rfl
          have f9 := K8.free 9
          have r10 := K8.cell 10 _ rfl
          have f10 := K8.free 10
          have r11 := K8.cell 11 _ rfl
          have f11 := K8.free 11
          have r12 := K8.cell 12 _ rfl
          have f12 := K8.free 12
          have r13 := K8.cell 13 _ rfl
          have f13 := K8.free 13
          have r14 := K8.cell 14 _ rfl
          have f14 := K8.free 14
          intro K hK
          go_simp
          refine hK.out _ _ (HSS.out _ B9) (fun hHeld9 => ?_)
          clear hK K
          refine td ?_
          go_wp2_with fail
          go_meet
          exact ⟨V.heap.size + 1, _, rfl, by have := HVS.out; omega, Lib.hid K9, Lib.hid (by have := HS1.out.setAll (l := [.int .i64 p.kind, .int .i64 p.mode, .int .i64 p.low, .int .i64 p.high, .int .i64 p.size, .int .i64 p.limit, .slice A0 p.left.length c0, .slice A1 p.right.length c1, .slice A2 p.lkeys.length c2, .slice A3 p.rkeys.length c3, .bool p.grouped, .slice A4 p.group.length c4, .slice A5 p.aggs.length c5, .slice Av nv cv, .slice none 0 0]) (i := 0) (g := V.heap.size + 1) (fun k hk e => by have := HFR.out k hk; omega); simp only [setAll, Nat.reduceAdd] at this; exact this), Lib.hid (fun k hk => by have h1 := HFR.out k hk; have h2 := HLT.out k hk; have h3 := HVS.out; have h4 := hbw3.size; exact ⟨by omega, by omega, by simp; omega⟩), B9⟩
      · intro K hK
        go_simp
        refine hK.out _ _ (HSS.out _ (below_alloc V (.cells #[.int .i64 0, .int .i64 0, .int .i64 0, .int .i64 0, .int .i64 0, .int .i64 0, .slice none 0 0, .slice none 0 0, .slice none 0 0, .slice none 0 0, .bool false, .slice none 0 0, .slice none 0 0, .slice none 0 0, .slice none 0 0] 117)).drew) (fun hHeld8 => ?_)
        clear hK K
        refine tc 5 ?_
        intro K hK
        go_simp
        refine hK.out _ _ (HSS.out _ (below_trans (below_alloc V (.cells #[.int .i64 0, .int .i64 0, .int .i64 0, .int .i64 0, .int .i64 0, .int .i64 0, .slice none 0 0, .slice none 0 0, .slice none 0 0, .slice none 0 0, .bool false, .slice none 0 0, .slice none 0 0, .slice none 0 0, .slice none 0 0] 117)) (below_alloc _ (.cells #[.slice A0 p.left.length c0, .slice A1 p.right.length c1] 22))).drew) (fun hHeld5 => ?_)
        clear hK K
        refine tc 6 ?_
        intro K hK
        go_simp
        refine Calls.mono (by with_reducible exact concat_any _ _ _ p.left p.right _ (two_sl1 V _ _ _).drew (HL.out.below (below_trans hB (below_trans (below_alloc V (.cells #[.int .i64 0, .int .i64 0, .int .i64 0, .int .i64 0, .int .i64 0, .int .i64 0, .slice none 0 0, .slice none 0 0, .slice none 0 0, .slice none 0 0, .bool false, .slice none 0 0, .slice none 0 0, .slice none 0 0, .slice none 0 0] 117)) (below_alloc _ (.cells #[.slice A0 p.left.length c0, .slice A1 p.right.length c1] 22))).drew)) (HRR.out.below (below_trans hB (below_trans (below_alloc V (.cells #[.int .i64 0, .int .i64 0, .int .i64 0, .int .i64 0, .int .i64 0, .int .i64 0, .slice none 0 0, .slice none 0 0, .slice none 0 0, .slice none 0 0, .bool false, .slice none 0 0, .slice none 0 0, .slice none 0 0, .slice none 0 0] 117)) (below_alloc _ (.cells #[.slice A0 p.left.length c0, .slice A1 p.right.length c1] 22))).drew)) (by omega) (by omega)) ?_
        rintro e w3 ⟨v1, rfl, hs1, hfr, hb3⟩
        rw [HT0.out] at hs1
        have hbw3 := below_trans (below_trans (below_alloc V (.cells #[.int .i64 0, .int .i64 0, .int .i64 0, .int .i64 0, .int .i64 0, .int .i64 0, .slice none 0 0, .slice none 0 0, .slice none 0 0, .slice none 0 0, .bool false, .slice none 0 0, .slice none 0 0, .slice none 0 0, .slice none 0 0] 117)) (below_alloc _ (.cells #[.slice A0 p.left.length c0, .slice A1 p.right.length c1] 22))).drew hb3
        have Z3 := HSS.out _ hbw3
        have HS1 := Lib.hid hs1
        have HFR := Lib.hid hfr
        have HLT := Lib.hid (hs1.own_lt HT1.out)
        simp only [World.size_drew, World.size_alloc] at HFR
        obtain ⟨Av, nv, cv, rfl⟩ : ∃ A n c, v1 = .slice A n c := by obtain ⟨A, c, e, -⟩ := id hs1; exact ⟨A, _, c, e⟩
        clear hs1 hfr
        go_wp2_with fail
        refine hK.out _ _ Z3 (fun hHeld6 => ?_)
        clear hK K
        refine tk 7 ?_; refine tc 9 ?_
        have K8 := ((Blk.new V 117 #[.int .i64 0, .int .i64 0, .int .i64 0, .int .i64 0, .int .i64 0, .int .i64 0, .slice none 0 0, .slice none 0 0, .slice none 0 0, .slice none 0 0, .bool false, .slice none 0 0, .slice none 0 0, .slice none 0 0, .slice none 0 0]).alloc (.cells #[.slice A0 p.left.length c0, .slice A1 p.right.length c1] 22)).drew.below hb3
        try simp only [World.size_alloc] at K8
        have K9 := K8.setAll [.int .i64 p.kind, .int .i64 p.mode, .int .i64 p.low, .int .i64 p.high, .int .i64 p.size, .int .i64 p.limit, .slice A0 p.left.length c0, .slice A1 p.right.length c1, .slice A2 p.lkeys.length c2, .slice A3 p.rkeys.length c3, .bool p.grouped, .slice A4 p.group.length c4, .slice A5 p.aggs.length c5, .slice Av nv cv, .slice none 0 0] rfl
        simp only [setAll, Nat.reduceAdd] at K9
        have B9 := below_setAll (b := V.heap.size) (l := [.int .i64 p.kind, .int .i64 p.mode, .int .i64 p.low, .int .i64 p.high, .int .i64 p.size, .int .i64 p.limit, .slice A0 p.left.length c0, .slice A1 p.right.length c1, .slice A2 p.lkeys.length c2, .slice A3 p.rkeys.length c3, .bool p.grouped, .slice A4 p.group.length c4, .slice A5 p.aggs.length c5, .slice Av nv cv, .slice none 0 0]) (i := 0) hbw3 (g := V.heap.size) (by omega)
        simp only [setAll, Nat.reduceAdd] at B9
        have r0 := K8.cell 0 _ rfl
        have f0 := K8.free 0
        have r1 := K8.cell 1 _ rfl
        have f1 := K8.free 1
        have r2 := K8.cell 2 _ rfl
        have f2 := K8.free 2
        have r3 := K8.cell 3 _ rfl
        have f3 := K8.free 3
        have r4 := K8.cell 4 _ rfl
        have f4 := K8.free 4
        have r5 := K8.cell 5 _ rfl
        have f5 := K8.free 5
        have r6 := K8.cell 6 _ rfl
        have f6 := K8.free 6
        have r7 := K8.cell 7 _ rfl
        have f7 := K8.free 7
        have r8 := K8.cell 8 _ rfl
        have f8 := K8.free 8
        have r9 := K8.cell 9 _ rfl
        have f9 := K8.free 9
        have r10 := K8.cell 10 _ rfl
        have f10 := K8.free 10
        have r11 := K8.cell 11 _ rfl
        have f11 := K8.free 11
        have r12 := K8.cell 12 _ rfl
        have f12 := K8.free 12
        have r13 := K8.cell 13 _ rfl
        have f13 := K8.free 13
        have r14 := K8.cell 14 _ rfl
        have f14 := K8.free 14
        intro K hK
        go_simp
        refine hK.out _ _ (HSS.out _ B9) (fun hHeld9 => ?_)
        clear hK K
        refine td ?_
        go_wp2_with fail
        go_meet
        exact ⟨V.heap.size, _, rfl, by have := HVS.out; omega, Lib.hid K9, Lib.hid (by have := HS1.out.setAll (l := [.int .i64 p.kind, .int .i64 p.mode, .int .i64 p.low, .int .i64 p.high, .int .i64 p.size, .int .i64 p.limit, .slice A0 p.left.length c0, .slice A1 p.right.length c1, .slice A2 p.lkeys.length c2, .slice A3 p.rkeys.length c3, .bool p.grouped, .slice A4 p.group.length c4, .slice A5 p.aggs.length c5, .slice Av nv cv, .slice none 0 0]) (i := 0) (g := V.heap.size) (fun k hk e => by have := HFR.out k hk; omega); simp only [setAll, Nat.reduceAdd] at this; exact this), Lib.hid (fun k hk => by have h1 := HFR.out k hk; have h2 := HLT.out k hk; have h3 := HVS.out; have h4 := hbw3.size; exact ⟨by omega, by omega, by simp; omega⟩), B9⟩
  case rest =>
    obtain ⟨P, va, rfl, hP, HKP, HS, HFR, hbw⟩ := hcut
    have HBV := Lib.hid (below_trans hB hbw)
    have HW1 := Lib.hid (HK1.out.below hbw)
    have HPL := Lib.hid HKP.out.lt
    have HK11 := (HK0.out.below hbw).cell 11 _ rfl
    clear HT1 HT0 HRR HL HSS HK0 n0 n1 m0 m1 l1 l2 r1 r2
    obtain ⟨Av, cv, rfl, -⟩ := id HS.out
    go_wp2_with fail
    go_loopw [5, 17] (fun _ i wr => ∃ (k : Nat) (vo : Value), i = .int .i64 k ∧ k ≤ p.group.length ∧ Hid (Blk wr P 117 #[.int .i64 p.kind, .int .i64 p.mode, .int .i64 p.low, .int .i64 p.high, .int .i64 p.size, .int .i64 p.limit, .slice A0 p.left.length c0, .slice A1 p.right.length c1, .slice A2 p.lkeys.length c2, .slice A3 p.rkeys.length c3, .bool p.grouped, .slice A4 p.group.length c4, .slice A5 p.aggs.length c5, .slice Av t.length cv, vo]) ∧ Hid (wr.ownsRow wc.heap.size 3 1 vo k (intCells (outG t (p.group.take k)))) ∧ Hid (Blk wr (w.heap.size + 1) 117 #[.int .i64 0, .int .i64 0, .int .i64 0, .int .i64 0, .int .i64 0, .int .i64 0, .slice none 0 0, .slice none 0 0, .slice none 0 0, .slice none 0 0, .bool false, .slice none 0 0, .slice none 0 0, .slice none 0 0, .slice none 0 0]) ∧ Hid (Sl wr (.slice Av t.length cv) t.length (intCells t)) ∧ wc.heap.size ≤ wr.heap.size ∧ Below V.heap.size V wr) (fun _ i _ => p.group.length - (intOf i).toNat)
    case atStart => exact ⟨0, _, rfl, by omega, HKP, Lib.hid ⟨rfl, .inl ⟨rfl, rfl⟩⟩, HW1, HS, Nat.le_refl _, hbw⟩
    case round =>
      obtain ⟨k, vo, rfl, hk, HK, HO, HZ, HT, hszr, hbr⟩ := hrel
      obtain ⟨Ao, no, co, rfl⟩ := own_slice HO.out
      have hBr := below_trans hB hbr
      by_cases hlt : k < p.group.length
      · obtain ⟨bg, og, hAg, -, hcg⟩ := int_at HG.out rfl hlt
        have d1 := hcg _ hBr
        have gk : p.group[k]? = some (p.group.getD k 0) := by simp [hlt]
        generalize p.group.getD k 0 = x at d1 gk
        have rx := HGR.out x (List.mem_of_getElem? gk)
        obtain ⟨m, rfl⟩ : ∃ m : Nat, x = m := ⟨x.toNat, by omega⟩
        have hm : m < t.length := by omega
        obtain ⟨b6, o6, hA6, -, hc6⟩ := int_at HT.out rfl hm
        have d2 := hc6 _ (Below.refl _ wr)
        have hst := map_step (f := fun c : Int => t.getD c.toNat 0) gk
        have hmn : ((m : Int)).toNat = m := by omega
        simp only [hmn] at hst
        generalize t.getD m 0 = Y at d2 hst
        have HST := Lib.hid hst
        have y13 := HK.out.cell 13 _ rfl
        have y14 := HK.out.cell 14 _ rfl
        have f14 := HK.out.free 14
        have z14 := (HK.out.alloc (.cells #[.int .i64 Y] 3)).cell 14 _ rfl
        have HPO : Hid (∀ j, (Value.slice Ao no co).ownBlock = some j → wc.heap.size ≤ j) := Lib.hid (own_ge HO.out)
        clear hst gk hcg hc6 rx hmn
        subst hAg hA6
        have m0' : (0 : Int) ≤ (m : Int) := by omega
        have m1' : (m : Int) < (t.length : Int) := by omega
        have HOA := Lib.hid (HO.out.alloc (.cells #[.int .i64 Y] 3))
        have q1 : k + 1 ≤ maxLen := by unfold maxLen; omega
        have q2 : (k + 1) * 8 ≤ 140737488355328 := by omega
        have Q1 := Lib.hid q1
        have Q2 := Lib.hid q2
        have Q3 : Hid (wc.heap.size ≤ (wr.alloc (.cells #[.int .i64 Y] 3)).heap.size) := Lib.hid (Nat.le_trans hszr (by simp))
        clear q1 q2
        have HK2 := Lib.hid ((HK.out.alloc (.cells #[.int .i64 Y] 3)).drew)
        have HOD : Hid ((wr.alloc (.cells #[.int .i64 Y] 3)).drew.ownsRow wc.heap.size 3 1 (.slice Ao no co) k (intCells (outG t (p.group.take k)))) := Lib.hid HOA.out
        have HS1 : Hid (Sl (wr.alloc (.cells #[.int .i64 Y] 3)).drew (.slice (some ⟨wr.heap.size, 0, none⟩) 1 1) 1 [.int .i64 Y]) := Lib.hid (one_int wr Y)
        go_wp2_with fail
        go_region_law (refine step_app (by rfl) _ _ 22 (by rfl) wc.heap.size 3 1 8 Tryz.underlying22 intI (.slice Ao no co) k _ (by rfl) HOD.out _ 1 [.int .i64 Y] (by rfl) HS1.out rfl (one_cell _) Q1.out Q2.out Q3.out ?_; intro v2 w3 hown3 hg3 hat3; obtain ⟨A2, n2, c2, rfl⟩ : ∃ A n c, v2 = .slice A n c := own_slice hown3; have K3 := HK2.out.grown hg3 (fun e => by have := HPO.out P e; have := HPL.out; omega); have x14 := K3.cell 14 _ rfl; have g14 := K3.free 14)
        all_goals
          have hb3 := below_grown (hbr.alloc hbr.size (.cells #[.int .i64 Y] 3)).drew hg3 (fun j hj => Nat.le_trans hbw.size (HPO.out j hj))
          have hb4 := hb3.setCell (p := ⟨P, 14, none⟩) (by show V.heap.size ≤ P; have := HVS.out; omega) (.slice A2 n2 c2)
          have K4 := Lib.hid (K3.set_ 14 (.slice A2 n2 c2))
          have hown4 := own_set hown3 (p := ⟨P, 14, none⟩) (fun j hj e => by have := own_ge hown3 j hj; have := HPL.out; simp only at e; omega) (.slice A2 n2 c2)
          have O4 : Hid ((w3.setCell ⟨P, 14, none⟩ (.slice A2 n2 c2)).ownsRow wc.heap.size 3 1 (.slice A2 n2 c2) (k + 1) (intCells (outG t (p.group.take (k + 1))))) := Lib.hid (by
            rw [cells_step rfl] at hown4
            have e := HST.out
            unfold outG
            rw [e]
            exact hown4)
          have hneZ : w.heap.size + 1 ≠ P := by omega
          have Z4 := Lib.hid (((HZ.out.alloc (.cells #[.int .i64 Y] 3)).drew.grown hg3 (fun e => by have := HPO.out _ e; have := HPL.out; omega)).far (p := ⟨P, 14, none⟩) hneZ (.slice A2 n2 c2))
          have T4 := Lib.hid ((sl_grown (HT.out.below (below_alloc wr (.cells #[.int .i64 Y] 3))).drew hg3 (fun j hj e => by have h1 := HFR.out j hj; have h2 := HPO.out j e; omega)).setCell (p := ⟨P, 14, none⟩) (fun j hj e => by exact (HFR.out j hj).2.1 e) (.slice A2 n2 c2))
          have HSZ3 : Hid (wr.heap.size ≤ w3.heap.size) := Lib.hid (Nat.le_trans (by simp) hg3.size)
          clear x14 g14 K3 hown3 hg3 hat3 hown4 hb3 y13 y14 z14 f14 d1 d2 HOA HK2 HOD HS1
          go_wp2
          go_roundw
          case rel => exact ⟨k + 1, _, by go_num, by omega, K4, O4, Z4, T4, by have := HSZ3.out; simp; omega, hb4⟩
          case measure => simp [intOf]; omega
      · obtain rfl : k = p.group.length := by omega
        rw [List.take_length] at HO
        have SO := Lib.hid (Sl.of_own HO.out)
        have HSO := Lib.hid (own_ge HO.out)
        have hln : (outG t p.group).length = p.group.length := by simp [outG]
        have HLN := Lib.hid hln
        have p0 := HK.out.cell 0 _ rfl
        have p1 := HK.out.cell 1 _ rfl
        have p2 := HK.out.cell 2 _ rfl
        have p3 := HK.out.cell 3 _ rfl
        have p4 := HK.out.cell 4 _ rfl
        have p5 := HK.out.cell 5 _ rfl
        have p6 := HK.out.cell 6 _ rfl
        have p7 := HK.out.cell 7 _ rfl
        have p8 := HK.out.cell 8 _ rfl
        have p9 := HK.out.cell 9 _ rfl
        have p10 := HK.out.cell 10 _ rfl
        have p11 := HK.out.cell 11 _ rfl
        have p12 := HK.out.cell 12 _ rfl
        have p13 := HK.out.cell 13 _ rfl
        have p14 := HK.out.cell 14 _ rfl
        have r0 := HZ.out.cell 0 _ rfl
        have f0 := HZ.out.free 0
        have r1 := HZ.out.cell 1 _ rfl
        have f1 := HZ.out.free 1
        have r2 := HZ.out.cell 2 _ rfl
        have f2 := HZ.out.free 2
        have r3 := HZ.out.cell 3 _ rfl
        have f3 := HZ.out.free 3
        have r4 := HZ.out.cell 4 _ rfl
        have f4 := HZ.out.free 4
        have r5 := HZ.out.cell 5 _ rfl
        have f5 := HZ.out.free 5
        have r6 := HZ.out.cell 6 _ rfl
        have f6 := HZ.out.free 6
        have r7 := HZ.out.cell 7 _ rfl
        have f7 := HZ.out.free 7
        have r8 := HZ.out.cell 8 _ rfl
        have f8 := HZ.out.free 8
        have r9 := HZ.out.cell 9 _ rfl
        have f9 := HZ.out.free 9
        have r10 := HZ.out.cell 10 _ rfl
        have f10 := HZ.out.free 10
        have r11 := HZ.out.cell 11 _ rfl
        have f11 := HZ.out.free 11
        have r12 := HZ.out.cell 12 _ rfl
        have f12 := HZ.out.free 12
        have r13 := HZ.out.cell 13 _ rfl
        have f13 := HZ.out.free 13
        have r14 := HZ.out.cell 14 _ rfl
        have f14 := HZ.out.free 14
        have KZ := HZ.out.setAll [.int .i64 p.kind, .int .i64 p.mode, .int .i64 p.low, .int .i64 p.high, .int .i64 p.size, .int .i64 p.limit, .slice A0 p.left.length c0, .slice A1 p.right.length c1, .slice A2 p.lkeys.length c2, .slice A3 p.rkeys.length c3, .bool p.grouped, .slice A4 p.group.length c4, .slice A5 p.aggs.length c5, .slice Av t.length cv, .slice Ao no co] rfl
        have hbz := below_setAll (l := [.int .i64 p.kind, .int .i64 p.mode, .int .i64 p.low, .int .i64 p.high, .int .i64 p.size, .int .i64 p.limit, .slice A0 p.left.length c0, .slice A1 p.right.length c1, .slice A2 p.lkeys.length c2, .slice A3 p.rkeys.length c3, .bool p.grouped, .slice A4 p.group.length c4, .slice A5 p.aggs.length c5, .slice Av t.length cv, .slice Ao no co]) (i := 0) hBr (g := w.heap.size + 1) (by omega)
        have hVa := Lib.hid (HT.out.setAll (l := [.int .i64 p.kind, .int .i64 p.mode, .int .i64 p.low, .int .i64 p.high, .int .i64 p.size, .int .i64 p.limit, .slice A0 p.left.length c0, .slice A1 p.right.length c1, .slice A2 p.lkeys.length c2, .slice A3 p.rkeys.length c3, .bool p.grouped, .slice A4 p.group.length c4, .slice A5 p.aggs.length c5, .slice Av t.length cv, .slice Ao no co]) (i := 0) (g := w.heap.size + 1) (fun j hj e => by have := (HFR.out j hj).1; omega))
        have hVo := Lib.hid (SO.out.setAll (l := [.int .i64 p.kind, .int .i64 p.mode, .int .i64 p.low, .int .i64 p.high, .int .i64 p.size, .int .i64 p.limit, .slice A0 p.left.length c0, .slice A1 p.right.length c1, .slice A2 p.lkeys.length c2, .slice A3 p.rkeys.length c3, .bool p.grouped, .slice A4 p.group.length c4, .slice A5 p.aggs.length c5, .slice Av t.length cv, .slice Ao no co]) (i := 0) (g := w.heap.size + 1) (fun j hj e => by have := HSO.out j hj; have := HPL.out; omega))
        simp only [setAll, Nat.reduceAdd] at KZ hbz hVa hVo
        have e0 := KZ.cell 0 _ rfl
        have e1 := KZ.cell 1 _ rfl
        have e2 := KZ.cell 2 _ rfl
        have e3 := KZ.cell 3 _ rfl
        have e4 := KZ.cell 4 _ rfl
        have e5 := KZ.cell 5 _ rfl
        have e6 := KZ.cell 6 _ rfl
        have e7 := KZ.cell 7 _ rfl
        have e8 := KZ.cell 8 _ rfl
        have e9 := KZ.cell 9 _ rfl
        have e10 := KZ.cell 10 _ rfl
        have e11 := KZ.cell 11 _ rfl
        have e12 := KZ.cell 12 _ rfl
        have e13 := KZ.cell 13 _ rfl
        have e14 := KZ.cell 14 _ rfl
        clear KZ hln hk hlt
        go_wp2
        refine bodyPost_ret (v := .agg #[.int .i64 p.kind, .int .i64 p.mode, .int .i64 p.low, .int .i64 p.high, .int .i64 p.size, .int .i64 p.limit, .slice A0 p.left.length c0, .slice A1 p.right.length c1, .slice A2 p.lkeys.length c2, .slice A3 p.rkeys.length c3, .bool p.grouped, .slice A4 p.group.length c4, .slice A5 p.aggs.length c5, .slice Av t.length cv, .slice Ao no co]) (by simp [results, Tryz.results67, go_sem, e0, e1, e2, e3, e4, e5, e6, e7, e8, e9, e10, e11, e12, e13, e14]) rfl ?_
        exact ⟨_, _, rfl, hVa.out, by rw [HLN.out]; exact hVo.out, hbz⟩
end Go.Proofs.YtblhidmkalleoaaGreatDoor
