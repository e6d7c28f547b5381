/-
  Batches: turned.
-/
import Derived.Test.YtjhbeecmdgglgaaGreatDoorGrpX37
import Derived.Test.YtjhbeecmdgglgaaGreatDoorBatLaw10
import Derived.Test.YtjhbeecmdgglgaaGreatDoorGrpX15
set_option linter.unusedSimpArgs false
set_option linter.unusedVariables false
namespace Go.Proofs.YtjhbeecmdgglgaaGreatDoor
open Go.RowKit

theorem plan_nums {p : Pl} (h : checkP p = 0) (hk : p.kind ≠ 3) : (p.mode = 1 ∨ p.mode = 2 ∨ p.mode = 3 ∨ p.mode = 4) ∧ (-1099511627776 ≤ p.low ∧ p.low ≤ 1099511627776) ∧ (-1099511627776 ≤ p.high ∧ p.high ≤ 1099511627776) := by
  obtain ⟨h1, h2, -⟩ := check_ok h
  unfold kindsB at h1
  unfold rangesB at h2
  simp only [Bool.and_eq_true] at h1 h2
  have hm := btw_of h1.2.1
  rw [if_neg hk] at hm
  refine ⟨by omega, ?_⟩
  have h3 := h2.1
  by_cases e1 : p.kind = 1
  · rw [if_pos e1] at h3
    simp only [Bool.and_eq_true] at h3
    have a := h3.1
    have b := h3.2.1
    unfold tm.fitsB at a b
    have a := of_decide_eq_true a
    have b := of_decide_eq_true b
    omega
  · rw [if_neg e1] at h3
    by_cases e2 : p.kind = 2
    · rw [if_pos e2] at h3
      simp only [Bool.and_eq_true, beq_iff_eq] at h3
      omega
    · rw [if_neg e2] at h3
      simp only [Bool.and_eq_true, beq_iff_eq] at h3
      omega
theorem turn_ok {w : World} {p : Pl} (h : p.ok w) : (turnPl p).ok w := ⟨h.r, h.l, h.q, h.k, Sl.nil_ w, Sl.nil_ w⟩
theorem turn_fit {p : Pl} (h : p.fit) : (turnPl p).fit := ⟨h.r, h.l, h.q, h.k, nofun, nofun⟩
set_option maxHeartbeats 4000000 in
set_option maxRecDepth 10000 in
theorem turned_any (p : Pl) (w : World) (h : p.ok w) (hz : checkP p = 0) (hk : p.kind ≠ 3) :
    Calls Tryz.prog 19 #[.agg #[.int .i64 p.kind, .int .i64 p.mode, .int .i64 p.low, .int .i64 p.high, .int .i64 p.size, .int .i64 p.limit, p.vl, p.vr, p.vk, p.vq, .bool p.grouped, p.vg, p.va]] w fun e w' => e = .returned (.agg #[.int .i64 p.kind, .int .i64 (turnM p.mode), .int .i64 (-p.high), .int .i64 (-p.low), .int .i64 p.size, .int .i64 p.limit, p.vr, p.vl, p.vq, p.vk, .bool false, .slice none 0 0, .slice none 0 0]) ∧ Below w.heap.size w w' := by
  obtain ⟨hm, hl, hh⟩ := plan_nums hz hk
  obtain ⟨A0, c0, h0, n0, m0, -⟩ := id h.l
  obtain ⟨A1, c1, h1, n1, m1, -⟩ := id h.r
  obtain ⟨A2, c2, h2, n2, m2, -⟩ := id h.k
  obtain ⟨A3, c3, h3, n3, m3, -⟩ := id h.q
  obtain ⟨A4, c4, h4, n4, m4, -⟩ := id h.g
  obtain ⟨A5, c5, h5, n5, m5, -⟩ := id h.a
  rw [h0, h1, h2, h3, h4, h5]
  have hnl : IntKind.i64.wrap (-p.low) = -p.low := by rw [IntKind.wrap_i64]; omega
  have hnh : IntKind.i64.wrap (-p.high) = -p.high := by rw [IntKind.wrap_i64]; omega
  obtain ⟨M, hM⟩ : ∃ M, p.mode = M := ⟨_, rfl⟩
  rw [hM] at hm ⊢
  clear h h0 h1 h2 h3 h4 h5 n0 n1 n2 n3 n4 n5 m0 m1 m2 m3 m4 m5 hz hk hl hh hM
  have HK := Lib.hid (new_first w 25 #[.int .i64 p.kind, .int .i64 M, .int .i64 p.low, .int .i64 p.high, .int .i64 p.size, .int .i64 p.limit, .slice A0 p.left.length c0, .slice A1 p.right.length c1, .slice A2 p.lkeys.length c2, .slice A3 p.rkeys.length c3, .bool p.grouped, .slice A4 p.group.length c4, .slice A5 p.aggs.length c5] (.cells #[.int .i64 0, .int .i64 0, .int .i64 0, .int .i64 0, .int .i64 0, .int .i64 0, .slice none 0 0, .slice none 0 0, .slice none 0 0, .slice none 0 0, .bool false, .slice none 0 0, .slice none 0 0] 25))
  have HZ := Lib.hid (new_second w 25 #[.int .i64 0, .int .i64 0, .int .i64 0, .int .i64 0, .int .i64 0, .int .i64 0, .slice none 0 0, .slice none 0 0, .slice none 0 0, .slice none 0 0, .bool false, .slice none 0 0, .slice none 0 0] (.cells #[.int .i64 p.kind, .int .i64 M, .int .i64 p.low, .int .i64 p.high, .int .i64 p.size, .int .i64 p.limit, .slice A0 p.left.length c0, .slice A1 p.right.length c1, .slice A2 p.lkeys.length c2, .slice A3 p.rkeys.length c3, .bool p.grouped, .slice A4 p.group.length c4, .slice A5 p.aggs.length c5] 25))
  have HB := Lib.hid (below_trans (below_alloc w (.cells #[.int .i64 p.kind, .int .i64 M, .int .i64 p.low, .int .i64 p.high, .int .i64 p.size, .int .i64 p.limit, .slice A0 p.left.length c0, .slice A1 p.right.length c1, .slice A2 p.lkeys.length c2, .slice A3 p.rkeys.length c3, .bool p.grouped, .slice A4 p.group.length c4, .slice A5 p.aggs.length c5] 25)) (below_alloc _ (.cells #[.int .i64 0, .int .i64 0, .int .i64 0, .int .i64 0, .int .i64 0, .int .i64 0, .slice none 0 0, .slice none 0 0, .slice none 0 0, .slice none 0 0, .bool false, .slice none 0 0, .slice none 0 0] 25)))
  go_enter Tryz.func19, Tryz.ntmps19
  go_upto_region 1 with fail
  obtain ⟨W1, hW1⟩ : ∃ V, (w.alloc (.cells #[.int .i64 p.kind, .int .i64 M, .int .i64 p.low, .int .i64 p.high, .int .i64 p.size, .int .i64 p.limit, .slice A0 p.left.length c0, .slice A1 p.right.length c1, .slice A2 p.lkeys.length c2, .slice A3 p.rkeys.length c3, .bool p.grouped, .slice A4 p.group.length c4, .slice A5 p.aggs.length c5] 25)).alloc (.cells #[.int .i64 0, .int .i64 0, .int .i64 0, .int .i64 0, .int .i64 0, .int .i64 0, .slice none 0 0, .slice none 0 0, .slice none 0 0, .slice none 0 0, .bool false, .slice none 0 0, .slice none 0 0] 25) = V := ⟨_, rfl⟩
  rw [hW1] at HK HZ HB ⊢
  clear hW1
  have hne : w.heap.size ≠ w.heap.size + 1 := by omega
  have hg0 := HK.out.lt
  have hg1 := HZ.out.lt
  go_cut [] from 6 to 11 (fun wx => Hid (Blk wx w.heap.size 25 #[.int .i64 p.kind, .int .i64 (turnM M), .int .i64 p.low, .int .i64 p.high, .int .i64 p.size, .int .i64 p.limit, .slice A0 p.left.length c0, .slice A1 p.right.length c1, .slice A2 p.lkeys.length c2, .slice A3 p.rkeys.length c3, .bool p.grouped, .slice A4 p.group.length c4, .slice A5 p.aggs.length c5] ∧ Blk wx (w.heap.size + 1) 25 #[.int .i64 0, .int .i64 0, .int .i64 0, .int .i64 0, .int .i64 0, .int .i64 0, .slice none 0 0, .slice none 0 0, .slice none 0 0, .slice none 0 0, .bool false, .slice none 0 0, .slice none 0 0] ∧ Below w.heap.size w wx))
  case first =>
    have k1 := HK.out.cell 1 _ rfl
    have f1 := HK.out.free 1
    rcases hm with rfl | rfl | rfl | rfl
    all_goals
      (go_wp2_with fail
       go_meet
       exact Lib.hid ⟨(HK.out.set_ 1 _).alloc _, (HZ.out.far (p := ⟨w.heap.size, 1, none⟩) (fun e => hne e.symm) _).alloc _, (HB.out.setCell (p := ⟨w.heap.size, 1, none⟩) (Nat.le_refl _) _).alloc (HB.out.setCell (p := ⟨w.heap.size, 1, none⟩) (Nat.le_refl _) _).size _⟩)
  case' rest =>
    obtain ⟨hK, hZ, hB⟩ := hcut.out
    have HK2 := Lib.hid hK
    have HZ2 := Lib.hid hZ
    have HB2 := Lib.hid hB
    clear HK HZ HB hK hZ hB hcut hg0 hg1
    obtain ⟨W2, hW2⟩ : ∃ V, wc = V := ⟨_, rfl⟩
    rw [hW2] at HK2 HZ2 HB2 ⊢
    clear hW2
    have k2 := HK2.out.cell 2 _ rfl
    have k3 := HK2.out.cell 3 _ rfl
    have f2 := HK2.out.free 2
    have HK3 : Hid (Blk (W2.setCell ⟨w.heap.size, 2, none⟩ (.int .i64 (-p.high))) w.heap.size 25 #[.int .i64 p.kind, .int .i64 (turnM M), .int .i64 (-p.high), .int .i64 p.high, .int .i64 p.size, .int .i64 p.limit, .slice A0 p.left.length c0, .slice A1 p.right.length c1, .slice A2 p.lkeys.length c2, .slice A3 p.rkeys.length c3, .bool p.grouped, .slice A4 p.group.length c4, .slice A5 p.aggs.length c5]) := Lib.hid (HK2.out.set_ 2 (.int .i64 (-p.high)))
    have HZ3 : Hid (Blk (W2.setCell ⟨w.heap.size, 2, none⟩ (.int .i64 (-p.high))) (w.heap.size + 1) 25 #[.int .i64 0, .int .i64 0, .int .i64 0, .int .i64 0, .int .i64 0, .int .i64 0, .slice none 0 0, .slice none 0 0, .slice none 0 0, .slice none 0 0, .bool false, .slice none 0 0, .slice none 0 0]) := Lib.hid (HZ2.out.far (p := ⟨w.heap.size, 2, none⟩) (fun e => hne e.symm) (.int .i64 (-p.high)))
    have HB3 : Hid (Below w.heap.size w (W2.setCell ⟨w.heap.size, 2, none⟩ (.int .i64 (-p.high)))) := Lib.hid (HB2.out.setCell (p := ⟨w.heap.size, 2, none⟩) (Nat.le_refl _) (.int .i64 (-p.high)))
    go_upto_region 4 with fail
    obtain ⟨W3, hW⟩ : ∃ V, (W2.setCell ⟨w.heap.size, 2, none⟩ (.int .i64 (-p.high))) = V := ⟨_, rfl⟩
    rw [hW] at HK3 HZ3 HB3 ⊢
    clear hW HK2 HZ2 HB2 k2 k3 f2
    have k3 := HK3.out.cell 3 _ rfl
    have f3 := HK3.out.free 3
    have HK4 : Hid (Blk (W3.setCell ⟨w.heap.size, 3, none⟩ (.int .i64 (-p.low))) w.heap.size 25 #[.int .i64 p.kind, .int .i64 (turnM M), .int .i64 (-p.high), .int .i64 (-p.low), .int .i64 p.size, .int .i64 p.limit, .slice A0 p.left.length c0, .slice A1 p.right.length c1, .slice A2 p.lkeys.length c2, .slice A3 p.rkeys.length c3, .bool p.grouped, .slice A4 p.group.length c4, .slice A5 p.aggs.length c5]) := Lib.hid (HK3.out.set_ 3 (.int .i64 (-p.low)))
    have HZ4 : Hid (Blk (W3.setCell ⟨w.heap.size, 3, none⟩ (.int .i64 (-p.low))) (w.heap.size + 1) 25 #[.int .i64 0, .int .i64 0, .int .i64 0, .int .i64 0, .int .i64 0, .int .i64 0, .slice none 0 0, .slice none 0 0, .slice none 0 0, .slice none 0 0, .bool false, .slice none 0 0, .slice none 0 0]) := Lib.hid (HZ3.out.far (p := ⟨w.heap.size, 3, none⟩) (fun e => hne e.symm) (.int .i64 (-p.low)))
    have HB4 : Hid (Below w.heap.size w (W3.setCell ⟨w.heap.size, 3, none⟩ (.int .i64 (-p.low)))) := Lib.hid (HB3.out.setCell (p := ⟨w.heap.size, 3, none⟩) (Nat.le_refl _) (.int .i64 (-p.low)))
    go_upto_region 5 with fail
    obtain ⟨W4, hW⟩ : ∃ V, (W3.setCell ⟨w.heap.size, 3, none⟩ (.int .i64 (-p.low))) = V := ⟨_, rfl⟩
    rw [hW] at HK4 HZ4 HB4 ⊢
    clear hW HK3 HZ3 HB3 k3 f3
    have k6 := HK4.out.cell 6 _ rfl
    have k8 := HK4.out.cell 8 _ rfl
    go_quiet (fail)
    go_upto_region 6 with fail
    obtain ⟨W5, hW⟩ : ∃ V, W4.drewN nq = V := ⟨_, rfl⟩
    have HK5 : Hid (Blk (W4.drewN nq) w.heap.size 25 #[.int .i64 p.kind, .int .i64 (turnM M), .int .i64 (-p.high), .int .i64 (-p.low), .int .i64 p.size, .int .i64 p.limit, .slice A0 p.left.length c0, .slice A1 p.right.length c1, .slice A2 p.lkeys.length c2, .slice A3 p.rkeys.length c3, .bool p.grouped, .slice A4 p.group.length c4, .slice A5 p.aggs.length c5]) := Lib.hid (HK4.out.drewN nq)
    have HZ5 : Hid (Blk (W4.drewN nq) (w.heap.size + 1) 25 #[.int .i64 0, .int .i64 0, .int .i64 0, .int .i64 0, .int .i64 0, .int .i64 0, .slice none 0 0, .slice none 0 0, .slice none 0 0, .slice none 0 0, .bool false, .slice none 0 0, .slice none 0 0]) := Lib.hid (HZ4.out.drewN nq)
    have HB5 := Lib.hid (below_drewN HB4.out nq)
    rw [hW] at HK5 HZ5 HB5 ⊢
    clear hW HK4 HZ4 HB4 k6 k8
    have k6 := HK5.out.cell 6 _ rfl
    have k7 := HK5.out.cell 7 _ rfl
    have k8 := HK5.out.cell 8 _ rfl
    have k9 := HK5.out.cell 9 _ rfl
    have f6 := HK5.out.free 6
    have f8 := HK5.out.free 8
    have HK6 : Hid (Blk ((W5.setCell ⟨w.heap.size, 6, none⟩ (.slice A1 p.right.length c1)).setCell ⟨w.heap.size, 8, none⟩ (.slice A3 p.rkeys.length c3)) w.heap.size 25 #[.int .i64 p.kind, .int .i64 (turnM M), .int .i64 (-p.high), .int .i64 (-p.low), .int .i64 p.size, .int .i64 p.limit, .slice A1 p.right.length c1, .slice A1 p.right.length c1, .slice A3 p.rkeys.length c3, .slice A3 p.rkeys.length c3, .bool p.grouped, .slice A4 p.group.length c4, .slice A5 p.aggs.length c5]) := Lib.hid ((HK5.out.set_ 6 (.slice A1 p.right.length c1)).set_ 8 (.slice A3 p.rkeys.length c3))
    have HZ6 : Hid (Blk ((W5.setCell ⟨w.heap.size, 6, none⟩ (.slice A1 p.right.length c1)).setCell ⟨w.heap.size, 8, none⟩ (.slice A3 p.rkeys.length c3)) (w.heap.size + 1) 25 #[.int .i64 0, .int .i64 0, .int .i64 0, .int .i64 0, .int .i64 0, .int .i64 0, .slice none 0 0, .slice none 0 0, .slice none 0 0, .slice none 0 0, .bool false, .slice none 0 0, .slice none 0 0]) := Lib.hid ((HZ5.out.far (p := ⟨w.heap.size, 6, none⟩) (fun e => hne e.symm) (.slice A1 p.right.length c1)).far (p := ⟨w.heap.size, 8, none⟩) (fun e => hne e.symm) (.slice A3 p.rkeys.length c3))
    have HB6 : Hid (Below w.heap.size w ((W5.setCell ⟨w.heap.size, 6, none⟩ (.slice A1 p.right.length c1)).setCell ⟨w.heap.size, 8, none⟩ (.slice A3 p.rkeys.length c3))) := Lib.hid ((HB5.out.setCell (p := ⟨w.heap.size, 6, none⟩) (Nat.le_refl _) (.slice A1 p.right.length c1)).setCell (p := ⟨w.heap.size, 8, none⟩) (Nat.le_refl _) (.slice A3 p.rkeys.length c3))
    go_upto_region 7 with fail
    obtain ⟨W6, hW⟩ : ∃ V, ((W5.setCell ⟨w.heap.size, 6, none⟩ (.slice A1 p.right.length c1)).setCell ⟨w.heap.size, 8, none⟩ (.slice A3 p.rkeys.length c3)) = V := ⟨_, rfl⟩
    rw [hW] at HK6 HZ6 HB6 ⊢
    clear hW HK5 HZ5 HB5 k6 k7 k8 k9 f6 f8
    have k7 := HK6.out.cell 7 _ rfl
    have k9 := HK6.out.cell 9 _ rfl
    have f7 := HK6.out.free 7
    have f9 := HK6.out.free 9
    have HK7 : Hid (Blk ((W6.setCell ⟨w.heap.size, 7, none⟩ (.slice A0 p.left.length c0)).setCell ⟨w.heap.size, 9, none⟩ (.slice A2 p.lkeys.length c2)) w.heap.size 25 #[.int .i64 p.kind, .int .i64 (turnM M), .int .i64 (-p.high), .int .i64 (-p.low), .int .i64 p.size, .int .i64 p.limit, .slice A1 p.right.length c1, .slice A0 p.left.length c0, .slice A3 p.rkeys.length c3, .slice A2 p.lkeys.length c2, .bool p.grouped, .slice A4 p.group.length c4, .slice A5 p.aggs.length c5]) := Lib.hid ((HK6.out.set_ 7 (.slice A0 p.left.length c0)).set_ 9 (.slice A2 p.lkeys.length c2))
    have HZ7 : Hid (Blk ((W6.setCell ⟨w.heap.size, 7, none⟩ (.slice A0 p.left.length c0)).setCell ⟨w.heap.size, 9, none⟩ (.slice A2 p.lkeys.length c2)) (w.heap.size + 1) 25 #[.int .i64 0, .int .i64 0, .int .i64 0, .int .i64 0, .int .i64 0, .int .i64 0, .slice none 0 0, .slice none 0 0, .slice none 0 0, .slice none 0 0, .bool false, .slice none 0 0, .slice none 0 0]) := Lib.hid ((HZ6.out.far (p := ⟨w.heap.size, 7, none⟩) (fun e => hne e.symm) (.slice A0 p.left.length c0)).far (p := ⟨w.heap.size, 9, none⟩) (fun e => hne e.symm) (.slice A2 p.lkeys.length c2))
    have HB7 : Hid (Below w.heap.size w ((W6.setCell ⟨w.heap.size, 7, none⟩ (.slice A0 p.left.length c0)).setCell ⟨w.heap.size, 9, none⟩ (.slice A2 p.lkeys.length c2))) := Lib.hid ((HB6.out.setCell (p := ⟨w.heap.size, 7, none⟩) (Nat.le_refl _) (.slice A0 p.left.length c0)).setCell (p := ⟨w.heap.size, 9, none⟩) (Nat.le_refl _) (.slice A2 p.lkeys.length c2))
    go_upto_region 8 with fail
    obtain ⟨W7, hW⟩ : ∃ V, ((W6.setCell ⟨w.heap.size, 7, none⟩ (.slice A0 p.left.length c0)).setCell ⟨w.heap.size, 9, none⟩ (.slice A2 p.lkeys.length c2)) = V := ⟨_, rfl⟩
    rw [hW] at HK7 HZ7 HB7 ⊢
    clear hW HK6 HZ6 HB6 k7 k9 f7 f9
    have k10 := HK7.out.cell 10 _ rfl
    have k11 := HK7.out.cell 11 _ rfl
    have k12 := HK7.out.cell 12 _ rfl
    have f10 := HK7.out.free 10
    have f11 := HK7.out.free 11
    have f12 := HK7.out.free 12
    have HK8 : Hid (Blk (((W7.setCell ⟨w.heap.size, 10, none⟩ (.bool false)).setCell ⟨w.heap.size, 11, none⟩ (.slice none 0 0)).setCell ⟨w.heap.size, 12, none⟩ (.slice none 0 0)) w.heap.size 25 #[.int .i64 p.kind, .int .i64 (turnM M), .int .i64 (-p.high), .int .i64 (-p.low), .int .i64 p.size, .int .i64 p.limit, .slice A1 p.right.length c1, .slice A0 p.left.length c0, .slice A3 p.rkeys.length c3, .slice A2 p.lkeys.length c2, .bool false, .slice none 0 0, .slice none 0 0]) := Lib.hid (((HK7.out.set_ 10 (.bool false)).set_ 11 (.slice none 0 0)).set_ 12 (.slice none 0 0))
    have HZ8 : Hid (Blk (((W7.setCell ⟨w.heap.size, 10, none⟩ (.bool false)).setCell ⟨w.heap.size, 11, none⟩ (.slice none 0 0)).setCell ⟨w.heap.size, 12, none⟩ (.slice none 0 0)) (w.heap.size + 1) 25 #[.int .i64 0, .int .i64 0, .int .i64 0, .int .i64 0, .int .i64 0, .int .i64 0, .slice none 0 0, .slice none 0 0, .slice none 0 0, .slice none 0 0, .bool false, .slice none 0 0, .slice none 0 0]) := Lib.hid (((HZ7.out.far (p := ⟨w.heap.size, 10, none⟩) (fun e => hne e.symm) (.bool false)).far (p := ⟨w.heap.size, 11, none⟩) (fun e => hne e.symm) (.slice none 0 0)).far (p := ⟨w.heap.size, 12, none⟩) (fun e => hne e.symm) (.slice none 0 0))
    have HB8 : Hid (Below w.heap.size w (((W7.setCell ⟨w.heap.size, 10, none⟩ (.bool false)).setCell ⟨w.heap.size, 11, none⟩ (.slice none 0 0)).setCell ⟨w.heap.size, 12, none⟩ (.slice none 0 0))) := Lib.hid (((HB7.out.setCell (p := ⟨w.heap.size, 10, none⟩) (Nat.le_refl _) (.bool false)).setCell (p := ⟨w.heap.size, 11, none⟩) (Nat.le_refl _) (.slice none 0 0)).setCell (p := ⟨w.heap.size, 12, none⟩) (Nat.le_refl _) (.slice none 0 0))
    go_upto_region 9 with fail
    obtain ⟨W8, hW⟩ : ∃ V, (((W7.setCell ⟨w.heap.size, 10, none⟩ (.bool false)).setCell ⟨w.heap.size, 11, none⟩ (.slice none 0 0)).setCell ⟨w.heap.size, 12, none⟩ (.slice none 0 0)) = V := ⟨_, rfl⟩
    rw [hW] at HK8 HZ8 HB8 ⊢
    clear hW HK7 HZ7 HB7 k10 k11 k12 f10 f11 f12
    obtain ⟨z0, z1, z2, z3, z4, z5, z6, z7, z8, z9, z10, z11, z12⟩ := pl_cells HK8.out
    obtain ⟨y0, y1, y2, y3, y4, y5, y6, y7, y8, y9, y10, y11, y12⟩ := pl_cells HZ8.out
    have fz := fun i => HZ8.out.free i
    have HR0 : Hid (Blk (W8.setCell ⟨w.heap.size + 1, 0, none⟩ (.int .i64 p.kind)) (w.heap.size + 1) 25 #[.int .i64 p.kind, .int .i64 0, .int .i64 0, .int .i64 0, .int .i64 0, .int .i64 0, .slice none 0 0, .slice none 0 0, .slice none 0 0, .slice none 0 0, .bool false, .slice none 0 0, .slice none 0 0]) := Lib.hid (HZ8.out.set_ 0 (.int .i64 p.kind))
    have HF0 : Hid (Below w.heap.size w (W8.setCell ⟨w.heap.size + 1, 0, none⟩ (.int .i64 p.kind))) := Lib.hid (HB8.out.setCell (p := ⟨w.heap.size + 1, 0, none⟩) (Nat.le_succ _) (.int .i64 p.kind))
    have HR1 : Hid (Blk ((W8.setCell ⟨w.heap.size + 1, 0, none⟩ (.int .i64 p.kind)).setCell ⟨w.heap.size + 1, 1, none⟩ (.int .i64 (turnM M))) (w.heap.size + 1) 25 #[.int .i64 p.kind, .int .i64 (turnM M), .int .i64 0, .int .i64 0, .int .i64 0, .int .i64 0, .slice none 0 0, .slice none 0 0, .slice none 0 0, .slice none 0 0, .bool false, .slice none 0 0, .slice none 0 0]) := Lib.hid (HR0.out.set_ 1 (.int .i64 (turnM M)))
    have HF1 : Hid (Below w.heap.size w ((W8.setCell ⟨w.heap.size + 1, 0, none⟩ (.int .i64 p.kind)).setCell ⟨w.heap.size + 1, 1, none⟩ (.int .i64 (turnM M)))) := Lib.hid (HF0.out.setCell (p := ⟨w.heap.size + 1, 1, none⟩) (Nat.le_succ _) (.int .i64 (turnM M)))
    have HR2 : Hid (Blk (((W8.setCell ⟨w.heap.size + 1, 0, none⟩ (.int .i64 p.kind)).setCell ⟨w.heap.size + 1, 1, none⟩ (.int .i64 (turnM M))).setCell ⟨w.heap.size + 1, 2, none⟩ (.int .i64 (-p.high))) (w.heap.size + 1) 25 #[.int .i64 p.kind, .int .i64 (turnM M), .int .i64 (-p.high), .int .i64 0, .int .i64 0, .int .i64 0, .slice none 0 0, .slice none 0 0, .slice none 0 0, .slice none 0 0, .bool false, .slice none 0 0, .slice none 0 0]) := Lib.hid (HR1.out.set_ 2 (.int .i64 (-p.high)))
    have HF2 : Hid (Below w.heap.size w (((W8.setCell ⟨w.heap.size + 1, 0, none⟩ (.int .i64 p.kind)).setCell ⟨w.heap.size + 1, 1, none⟩ (.int .i64 (turnM M))).setCell ⟨w.heap.size + 1, 2, none⟩ (.int .i64 (-p.high)))) := Lib.hid (HF1.out.setCell (p := ⟨w.heap.size + 1, 2, none⟩) (Nat.le_succ _) (.int .i64 (-p.high)))
    have HR3 : Hid (Blk ((((W8.setCell ⟨w.heap.size + 1, 0, none⟩ (.int .i64 p.kind)).setCell ⟨w.heap.size + 1, 1, none⟩ (.int .i64 (turnM M))).setCell ⟨w.heap.size + 1, 2, none⟩ (.int .i64 (-p.high))).setCell ⟨w.heap.size + 1, 3, none⟩ (.int .i64 (-p.low))) (w.heap.size + 1) 25 #[.int .i64 p.kind, .int .i64 (turnM M), .int .i64 (-p.high), .int .i64 (-p.low), .int .i64 0, .int .i64 0, .slice none 0 0, .slice none 0 0, .slice none 0 0, .slice none 0 0, .bool false, .slice none 0 0, .slice none 0 0]) := Lib.hid (HR2.out.set_ 3 (.int .i64 (-p.low)))
    have HF3 : Hid (Below w.heap.size w ((((W8.setCell ⟨w.heap.size + 1, 0, none⟩ (.int .i64 p.kind)).setCell ⟨w.heap.size + 1, 1, none⟩ (.int .i64 (turnM M))).setCell ⟨w.heap.size + 1, 2, none⟩ (.int .i64 (-p.high))).setCell ⟨w.heap.size + 1, 3, none⟩ (.int .i64 (-p.low)))) := Lib.hid (HF2.out.setCell (p := ⟨w.heap.size + 1, 3, none⟩) (Nat.le_succ _) (.int .i64 (-p.low)))
    have HR4 : Hid (Blk (((((W8.setCell ⟨w.heap.size + 1, 0, none⟩ (.int .i64 p.kind)).setCell ⟨w.heap.size + 1, 1, none⟩ (.int .i64 (turnM M))).setCell ⟨w.heap.size + 1, 2, none⟩ (.int .i64 (-p.high))).setCell ⟨w.heap.size + 1, 3, none⟩ (.int .i64 (-p.low))).setCell ⟨w.heap.size + 1, 4, none⟩ (.int .i64 p.size)) (w.heap.size + 1) 25 #[.int .i64 p.kind, .int .i64 (turnM M), .int .i64 (-p.high), .int .i64 (-p.low), .int .i64 p.size, .int .i64 0, .slice none 0 0, .slice none 0 0, .slice none 0 0, .slice none 0 0, .bool false, .slice none 0 0, .slice none 0 0]) := Lib.hid (HR3.out.set_ 4 (.int .i64 p.size))
    have HF4 : Hid (Below w.heap.size w (((((W8.setCell ⟨w.heap.size + 1, 0, none⟩ (.int .i64 p.kind)).setCell ⟨w.heap.size + 1, 1, none⟩ (.int .i64 (turnM M))).setCell ⟨w.heap.size + 1, 2, none⟩ (.int .i64 (-p.high))).setCell ⟨w.heap.size + 1, 3, none⟩ (.int .i64 (-p.low))).setCell ⟨w.heap.size + 1, 4, none⟩ (.int .i64 p.size))) := Lib.hid (HF3.out.setCell (p := ⟨w.heap.size + 1, 4, none⟩) (Nat.le_succ _) (.int .i64 p.size))
    have HR5 : Hid (Blk ((((((W8.setCell ⟨w.heap.size + 1, 0, none⟩ (.int .i64 p.kind)).setCell ⟨w.heap.size + 1, 1, none⟩ (.int .i64 (turnM M))).setCell ⟨w.heap.size + 1, 2, none⟩ (.int .i64 (-p.high))).setCell ⟨w.heap.size + 1, 3, none⟩ (.int .i64 (-p.low))).setCell ⟨w.heap.size + 1, 4, none⟩ (.int .i64 p.size)).setCell ⟨w.heap.size + 1, 5, none⟩ (.int .i64 p.limit)) (w.heap.size + 1) 25 #[.int .i64 p.kind, .int .i64 (turnM M), .int .i64 (-p.high), .int .i64 (-p.low), .int .i64 p.size, .int .i64 p.limit, .slice none 0 0, .slice none 0 0, .slice none 0 0, .slice none 0 0, .bool false, .slice none 0 0, .slice none 0 0]) := Lib.hid (HR4.out.set_ 5 (.int .i64 p.limit))
    have HF5 : Hid (Below w.heap.size w ((((((W8.setCell ⟨w.heap.size + 1, 0, none⟩ (.int .i64 p.kind)).setCell ⟨w.heap.size + 1, 1, none⟩ (.int .i64 (turnM M))).setCell ⟨w.heap.size + 1, 2, none⟩ (.int .i64 (-p.high))).setCell ⟨w.heap.size + 1, 3, none⟩ (.int .i64 (-p.low))).setCell ⟨w.heap.size + 1, 4, none⟩ (.int .i64 p.size)).setCell ⟨w.heap.size + 1, 5, none⟩ (.int .i64 p.limit))) := Lib.hid (HF4.out.setCell (p := ⟨w.heap.size + 1, 5, none⟩) (Nat.le_succ _) (.int .i64 p.limit))
    have HR6 : Hid (Blk (((((((W8.setCell ⟨w.heap.size + 1, 0, none⟩ (.int .i64 p.kind)).setCell ⟨w.heap.size + 1, 1, none⟩ (.int .i64 (turnM M))).setCell ⟨w.heap.size + 1, 2, none⟩ (.int .i64 (-p.high))).setCell ⟨w.heap.size + 1, 3, none⟩ (.int .i64 (-p.low))).setCell ⟨w.heap.size + 1, 4, none⟩ (.int .i64 p.size)).setCell ⟨w.heap.size + 1, 5, none⟩ (.int .i64 p.limit)).setCell ⟨w.heap.size + 1, 6, none⟩ (.slice A1 p.right.length c1)) (w.heap.size + 1) 25 #[.int .i64 p.kind, .int .i64 (turnM M), .int .i64 (-p.high), .int .i64 (-p.low), .int .i64 p.size, .int .i64 p.limit, .slice A1 p.right.length c1, .slice none 0 0, .slice none 0 0, .slice none 0 0, .bool false, .slice none 0 0, .slice none 0 0]) := Lib.hid (HR5.out.set_ 6 (.slice A1 p.right.length c1))
    have HF6 : Hid (Below w.heap.size w (((((((W8.setCell ⟨w.heap.size + 1, 0, none⟩ (.int .i64 p.kind)).setCell ⟨w.heap.size + 1, 1, none⟩ (.int .i64 (turnM M))).setCell ⟨w.heap.size + 1, 2, none⟩ (.int .i64 (-p.high))).setCell ⟨w.heap.size + 1, 3, none⟩ (.int .i64 (-p.low))).setCell ⟨w.heap.size + 1, 4, none⟩ (.int .i64 p.size)).setCell ⟨w.heap.size + 1, 5, none⟩ (.int .i64 p.limit)).setCell ⟨w.heap.size + 1, 6, none⟩ (.slice A1 p.right.length c1))) := Lib.hid (HF5.out.setCell (p := ⟨w.heap.size + 1, 6, none⟩) (Nat.le_succ _) (.slice A1 p.right.length c1))
    have HR7 : Hid (Blk ((((((((W8.setCell ⟨w.heap.size + 1, 0, none⟩ (.int .i64 p.kind)).setCell ⟨w.heap.size + 1, 1, none⟩ (.int .i64 (turnM M))).setCell ⟨w.heap.size + 1, 2, none⟩ (.int .i64 (-p.high))).setCell ⟨w.heap.size + 1, 3, none⟩ (.int .i64 (-p.low))).setCell ⟨w.heap.size + 1, 4, none⟩ (.int .i64 p.size)).setCell ⟨w.heap.size + 1, 5, none⟩ (.int .i64 p.limit)).setCell ⟨w.heap.size + 1, 6, none⟩ (.slice A1 p.right.length c1)).setCell ⟨w.heap.size + 1, 7, none⟩ (.slice A0 p.left.length c0)) (w.heap.size + 1) 25 #[.int .i64 p.kind, .int .i64 (turnM M), .int .i64 (-p.high), .int .i64 (-p.low), .int .i64 p.size, .int .i64 p.limit, .slice A1 p.right.length c1, .slice A0 p.left.length c0, .slice none 0 0, .slice none 0 0, .bool false, .slice none 0 0, .slice none 0 0]) := Lib.hid (HR6.out.set_ 7 (.slice A0 p.left.length c0))
    have HF7 : Hid (Below w.heap.size w ((((((((W8.setCell ⟨w.heap.size + 1, 0, none⟩ (.int .i64 p.kind)).setCell ⟨w.heap.size + 1, 1, none⟩ (.int .i64 (turnM M))).setCell ⟨w.heap.size + 1, 2, none⟩ (.int .i64 (-p.high))).setCell ⟨w.heap.size + 1, 3, none⟩ (.int .i64 (-p.low))).setCell ⟨w.heap.size + 1, 4, none⟩ (.int .i64 p.size)).setCell ⟨w.heap.size + 1, 5, none⟩ (.int .i64 p.limit)).setCell ⟨w.heap.size + 1, 6, none⟩ (.slice A1 p.right.length c1)).setCell ⟨w.heap.size + 1, 7, none⟩ (.slice A0 p.left.length c0))) := Lib.hid (HF6.out.setCell (p := ⟨w.heap.size + 1, 7, none⟩) (Nat.le_succ _) (.slice A0 p.left.length c0))
    have HR8 : Hid (Blk (((((((((W8.setCell ⟨w.heap.size + 1, 0, none⟩ (.int .i64 p.kind)).setCell ⟨w.heap.size + 1, 1, none⟩ (.int .i64 (turnM M))).setCell ⟨w.heap.size + 1, 2, none⟩ (.int .i64 (-p.high))).setCell ⟨w.heap.size + 1, 3, none⟩ (.int .i64 (-p.low))).setCell ⟨w.heap.size + 1, 4, none⟩ (.int .i64 p.size)).setCell ⟨w.heap.size + 1, 5, none⟩ (.int .i64 p.limit)).setCell ⟨w.heap.size + 1, 6, none⟩ (.slice A1 p.right.length c1)).setCell ⟨w.heap.size + 1, 7, none⟩ (.slice A0 p.left.length c0)).setCell ⟨w.heap.size + 1, 8, none⟩ (.slice A3 p.rkeys.length c3)) (w.heap.size + 1) 25 #[.int .i64 p.kind, .int .i64 (turnM M), .int .i64 (-p.high), .int .i64 (-p.low), .int .i64 p.size, .int .i64 p.limit, .slice A1 p.right.length c1, .slice A0 p.left.length c0, .slice A3 p.rkeys.length c3, .slice none 0 0, .bool false, .slice none 0 0, .slice none 0 0]) := Lib.hid (HR7.out.set_ 8 (.slice A3 p.rkeys.length c3))
    have HF8 : Hid (Below w.heap.size w (((((((((W8.setCell ⟨w.heap.size + 1, 0, none⟩ (.int .i64 p.kind)).setCell ⟨w.heap.size + 1, 1, none⟩ (.int .i64 (turnM M))).setCell ⟨w.heap.size + 1, 2, none⟩ (.int .i64 (-p.high))).setCell ⟨w.heap.size + 1, 3, none⟩ (.int .i64 (-p.low))).setCell ⟨w.heap.size + 1, 4, none⟩ (.int .i64 p.size)).setCell ⟨w.heap.size + 1, 5, none⟩ (.int .i64 p.limit)).setCell ⟨w.heap.size + 1, 6, none⟩ (.slice A1 p.right.length c1)).setCell ⟨w.heap.size + 1, 7, none⟩ (.slice A0 p.left.length c0)).setCell ⟨w.heap.size + 1, 8, none⟩ (.slice A3 p.rkeys.length c3))) := Lib.hid (HF7.out.setCell (p := ⟨w.heap.size + 1, 8, none⟩) (Nat.le_succ _) (.slice A3 p.rkeys.length c3))
    have HR9 : Hid (Blk ((((((((((W8.setCell ⟨w.heap.size + 1, 0, none⟩ (.int .i64 p.kind)).setCell ⟨w.heap.size + 1, 1, none⟩ (.int .i64 (turnM M))).setCell ⟨w.heap.size + 1, 2, none⟩ (.int .i64 (-p.high))).setCell ⟨w.heap.size + 1, 3, none⟩ (.int .i64 (-p.low))).setCell ⟨w.heap.size + 1, 4, none⟩ (.int .i64 p.size)).setCell ⟨w.heap.size + 1, 5, none⟩ (.int .i64 p.limit)).setCell ⟨w.heap.size + 1, 6, none⟩ (.slice A1 p.right.length c1)).setCell ⟨w.heap.size + 1, 7, none⟩ (.slice A0 p.left.length c0)).setCell ⟨w.heap.size + 1, 8, none⟩ (.slice A3 p.rkeys.length c3)).setCell ⟨w.heap.size + 1, 9, none⟩ (.slice A2 p.lkeys.length c2)) (w.heap.size + 1) 25 #[.int .i64 p.kind, .int .i64 (turnM M), .int .i64 (-p.high), .int .i64 (-p.low), .int .i64 p.size, .int .i64 p.limit, .slice A1 p.right.length c1, .slice A0 p.left.length c0, .slice A3 p.rkeys.length c3, .slice A2 p.lkeys.length c2, .bool false, .slice none 0 0, .slice none 0 0]) := Lib.hid (HR8.out.set_ 9 (.slice A2 p.lkeys.length c2))
    have HF9 : Hid (Below w.heap.size w ((((((((((W8.setCell ⟨w.heap.size + 1, 0, none⟩ (.int .i64 p.kind)).setCell ⟨w.heap.size + 1, 1, none⟩ (.int .i64 (turnM M))).setCell ⟨w.heap.size + 1, 2, none⟩ (.int .i64 (-p.high))).setCell ⟨w.heap.size + 1, 3, none⟩ (.int .i64 (-p.low))).setCell ⟨w.heap.size + 1, 4, none⟩ (.int .i64 p.size)).setCell ⟨w.heap.size + 1, 5, none⟩ (.int .i64 p.limit)).setCell ⟨w.heap.size + 1, 6, none⟩ (.slice A1 p.right.length c1)).setCell ⟨w.heap.size + 1, 7, none⟩ (.slice A0 p.left.length c0)).setCell ⟨w.heap.size + 1, 8, none⟩ (.slice A3 p.rkeys.length c3)).setCell ⟨w.heap.size + 1, 9, none⟩ (.slice A2 p.lkeys.length c2))) := Lib.hid (HF8.out.setCell (p := ⟨w.heap.size + 1, 9, none⟩) (Nat.le_succ _) (.slice A2 p.lkeys.length c2))
    have HR10 : Hid (Blk (((((((((((W8.setCell ⟨w.heap.size + 1, 0, none⟩ (.int .i64 p.kind)).setCell ⟨w.heap.size + 1, 1, none⟩ (.int .i64 (turnM M))).setCell ⟨w.heap.size + 1, 2, none⟩ (.int .i64 (-p.high))).setCell ⟨w.heap.size + 1, 3, none⟩ (.int .i64 (-p.low))).setCell ⟨w.heap.size + 1, 4, none⟩ (.int .i64 p.size)).setCell ⟨w.heap.size + 1, 5, none⟩ (.int .i64 p.limit)).setCell ⟨w.heap.size + 1, 6, none⟩ (.slice A1 p.right.length c1)).setCell ⟨w.heap.size + 1, 7, none⟩ (.slice A0 p.left.length c0)).setCell ⟨w.heap.size + 1, 8, none⟩ (.slice A3 p.rkeys.length c3)).setCell ⟨w.heap.size + 1, 9, none⟩ (.slice A2 p.lkeys.length c2)).setCell ⟨w.heap.size + 1, 10, none⟩ (.bool false)) (w.heap.size + 1) 25 #[.int .i64 p.kind, .int .i64 (turnM M), .int .i64 (-p.high), .int .i64 (-p.low), .int .i64 p.size, .int .i64 p.limit, .slice A1 p.right.length c1, .slice A0 p.left.length c0, .slice A3 p.rkeys.length c3, .slice A2 p.lkeys.length c2, .bool false, .slice none 0 0, .slice none 0 0]) := Lib.hid (HR9.out.set_ 10 (.bool false))
    have HF10 : Hid (Below w.heap.size w (((((((((((W8.setCell ⟨w.heap.size + 1, 0, none⟩ (.int .i64 p.kind)).setCell ⟨w.heap.size + 1, 1, none⟩ (.int .i64 (turnM M))).setCell ⟨w.heap.size + 1, 2, none⟩ (.int .i64 (-p.high))).setCell ⟨w.heap.size + 1, 3, none⟩ (.int .i64 (-p.low))).setCell ⟨w.heap.size + 1, 4, none⟩ (.int .i64 p.size)).setCell ⟨w.heap.size + 1, 5, none⟩ (.int .i64 p.limit)).setCell ⟨w.heap.size + 1, 6, none⟩ (.slice A1 p.right.length c1)).setCell ⟨w.heap.size + 1, 7, none⟩ (.slice A0 p.left.length c0)).setCell ⟨w.heap.size + 1, 8, none⟩ (.slice A3 p.rkeys.length c3)).setCell ⟨w.heap.size + 1, 9, none⟩ (.slice A2 p.lkeys.length c2)).setCell ⟨w.heap.size + 1, 10, none⟩ (.bool false))) := Lib.hid (HF9.out.setCell (p := ⟨w.heap.size + 1, 10, none⟩) (Nat.le_succ _) (.bool false))
    have HR11 : Hid (Blk ((((((((((((W8.setCell ⟨w.heap.size + 1, 0, none⟩ (.int .i64 p.kind)).setCell ⟨w.heap.size + 1, 1, none⟩ (.int .i64 (turnM M))).setCell ⟨w.heap.size + 1, 2, none⟩ (.int .i64 (-p.high))).setCell ⟨w.heap.size + 1, 3, none⟩ (.int .i64 (-p.low))).setCell ⟨w.heap.size + 1, 4, none⟩ (.int .i64 p.size)).setCell ⟨w.heap.size + 1, 5, none⟩ (.int .i64 p.limit)).setCell ⟨w.heap.size + 1, 6, none⟩ (.slice A1 p.right.length c1)).setCell ⟨w.heap.size + 1, 7, none⟩ (.slice A0 p.left.length c0)).setCell ⟨w.heap.size + 1, 8, none⟩ (.slice A3 p.rkeys.length c3)).setCell ⟨w.heap.size + 1, 9, none⟩ (.slice A2 p.lkeys.length c2)).setCell ⟨w.heap.size + 1, 10, none⟩ (.bool false)).setCell ⟨w.heap.size + 1, 11, none⟩ (.slice none 0 0)) (w.heap.size + 1) 25 #[.int .i64 p.kind, .int .i64 (turnM M), .int .i64 (-p.high), .int .i64 (-p.low), .int .i64 p.size, .int .i64 p.limit, .slice A1 p.right.length c1, .slice A0 p.left.length c0, .slice A3 p.rkeys.length c3, .slice A2 p.lkeys.length c2, .bool false, .slice none 0 0, .slice none 0 0]) := Lib.hid (HR10.out.set_ 11 (.slice none 0 0))
    have HF11 : Hid (Below w.heap.size w ((((((((((((W8.setCell ⟨w.heap.size + 1, 0, none⟩ (.int .i64 p.kind)).setCell ⟨w.heap.size + 1, 1, none⟩ (.int .i64 (turnM M))).setCell ⟨w.heap.size + 1, 2, none⟩ (.int .i64 (-p.high))).setCell ⟨w.heap.size + 1, 3, none⟩ (.int .i64 (-p.low))).setCell ⟨w.heap.size + 1, 4, none⟩ (.int .i64 p.size)).setCell ⟨w.heap.size + 1, 5, none⟩ (.int .i64 p.limit)).setCell ⟨w.heap.size + 1, 6, none⟩ (.slice A1 p.right.length c1)).setCell ⟨w.heap.size + 1, 7, none⟩ (.slice A0 p.left.length c0)).setCell ⟨w.heap.size + 1, 8, none⟩ (.slice A3 p.rkeys.length c3)).setCell ⟨w.heap.size + 1, 9, none⟩ (.slice A2 p.lkeys.length c2)).setCell ⟨w.heap.size + 1, 10, none⟩ (.bool false)).setCell ⟨w.heap.size + 1, 11, none⟩ (.slice none 0 0))) := Lib.hid (HF10.out.setCell (p := ⟨w.heap.size + 1, 11, none⟩) (Nat.le_succ _) (.slice none 0 0))
    have HR12 : Hid (Blk (((((((((((((W8.setCell ⟨w.heap.size + 1, 0, none⟩ (.int .i64 p.kind)).setCell ⟨w.heap.size + 1, 1, none⟩ (.int .i64 (turnM M))).setCell ⟨w.heap.size + 1, 2, none⟩ (.int .i64 (-p.high))).setCell ⟨w.heap.size + 1, 3, none⟩ (.int .i64 (-p.low))).setCell ⟨w.heap.size + 1, 4, none⟩ (.int .i64 p.size)).setCell ⟨w.heap.size + 1, 5, none⟩ (.int .i64 p.limit)).setCell ⟨w.heap.size + 1, 6, none⟩ (.slice A1 p.right.length c1)).setCell ⟨w.heap.size + 1, 7, none⟩ (.slice A0 p.left.length c0)).setCell ⟨w.heap.size + 1, 8, none⟩ (.slice A3 p.rkeys.length c3)).setCell ⟨w.heap.size + 1, 9, none⟩ (.slice A2 p.lkeys.length c2)).setCell ⟨w.heap.size + 1, 10, none⟩ (.bool false)).setCell ⟨w.heap.size + 1, 11, none⟩ (.slice none 0 0)).setCell ⟨w.heap.size + 1, 12, none⟩ (.slice none 0 0)) (w.heap.size + 1) 25 #[.int .i64 p.kind, .int .i64 (turnM M), .int .i64 (-p.high), .int .i64 (-p.low), .int .i64 p.size, .int .i64 p.limit, .slice A1 p.right.length c1, .slice A0 p.left.length c0, .slice A3 p.rkeys.length c3, .slice A2 p.lkeys.length c2, .bool false, .slice none 0 0, .slice none 0 0]) := Lib.hid (HR11.out.set_ 12 (.slice none 0 0))
    have HF12 : Hid (Below w.heap.size w (((((((((((((W8.setCell ⟨w.heap.size + 1, 0, none⟩ (.int .i64 p.kind)).setCell ⟨w.heap.size + 1, 1, none⟩ (.int .i64 (turnM M))).setCell ⟨w.heap.size + 1, 2, none⟩ (.int .i64 (-p.high))).setCell ⟨w.heap.size + 1, 3, none⟩ (.int .i64 (-p.low))).setCell ⟨w.heap.size + 1, 4, none⟩ (.int .i64 p.size)).setCell ⟨w.heap.size + 1, 5, none⟩ (.int .i64 p.limit)).setCell ⟨w.heap.size + 1, 6, none⟩ (.slice A1 p.right.length c1)).setCell ⟨w.heap.size + 1, 7, none⟩ (.slice A0 p.left.length c0)).setCell ⟨w.heap.size + 1, 8, none⟩ (.slice A3 p.rkeys.length c3)).setCell ⟨w.heap.size + 1, 9, none⟩ (.slice A2 p.lkeys.length c2)).setCell ⟨w.heap.size + 1, 10, none⟩ (.bool false)).setCell ⟨w.heap.size + 1, 11, none⟩ (.slice none 0 0)).setCell ⟨w.heap.size + 1, 12, none⟩ (.slice none 0 0))) := Lib.hid (HF11.out.setCell (p := ⟨w.heap.size + 1, 12, none⟩) (Nat.le_succ _) (.slice none 0 0))
    clear HR0 HR1 HR2 HR3 HR4 HR5 HR6 HR7 HR8 HR9 HR10 HR11 HF0 HF1 HF2 HF3 HF4 HF5 HF6 HF7 HF8 HF9 HF10 HF11
    go_wp2_with fail
    clear z0 z1 z2 z3 z4 z5 z6 z7 z8 z9 z10 z11 z12 y0 y1 y2 y3 y4 y5 y6 y7 y8 y9 y10 y11 y12 fz
    obtain ⟨WZ, hWZ⟩ : ∃ V, (((((((((((((W8.setCell ⟨w.heap.size + 1, 0, none⟩ (.int .i64 p.kind)).setCell ⟨w.heap.size + 1, 1, none⟩ (.int .i64 (turnM M))).setCell ⟨w.heap.size + 1, 2, none⟩ (.int .i64 (-p.high))).setCell ⟨w.heap.size + 1, 3, none⟩ (.int .i64 (-p.low))).setCell ⟨w.heap.size + 1, 4, none⟩ (.int .i64 p.size)).setCell ⟨w.heap.size + 1, 5, none⟩ (.int .i64 p.limit)).setCell ⟨w.heap.size + 1, 6, none⟩ (.slice A1 p.right.length c1)).setCell ⟨w.heap.size + 1, 7, none⟩ (.slice A0 p.left.length c0)).setCell ⟨w.heap.size + 1, 8, none⟩ (.slice A3 p.rkeys.length c3)).setCell ⟨w.heap.size + 1, 9, none⟩ (.slice A2 p.lkeys.length c2)).setCell ⟨w.heap.size + 1, 10, none⟩ (.bool false)).setCell ⟨w.heap.size + 1, 11, none⟩ (.slice none 0 0)).setCell ⟨w.heap.size + 1, 12, none⟩ (.slice none 0 0)) = V := ⟨_, rfl⟩
    rw [hWZ] at HR12 HF12 ⊢
    clear hWZ
    obtain ⟨r0, r1, r2, r3, r4, r5, r6, r7, r8, r9, r10, r11, r12⟩ := pl_cells HR12.out
    refine bodyPost_ret (v := .agg #[.int .i64 p.kind, .int .i64 (turnM M), .int .i64 (-p.high), .int .i64 (-p.low), .int .i64 p.size, .int .i64 p.limit, .slice A1 p.right.length c1, .slice A0 p.left.length c0, .slice A3 p.rkeys.length c3, .slice A2 p.lkeys.length c2, .bool false, .slice none 0 0, .slice none 0 0]) (by simp [results, Tryz.results19, go_sem, r0, r1, r2, r3, r4, r5, r6, r7, r8, r9, r10, r11, r12]) rfl ?_
    exact ⟨rfl, HF12.out⟩
end Go.Proofs.YtjhbeecmdgglgaaGreatDoor
