/-
  Batches: swapped.
-/
import Derived.Test.YtjhbeecmdgglgaaGreatDoorGrpX33
import Derived.Test.YtjhbeecmdgglgaaGreatDoorGrpX43
import Derived.Test.YtjhbeecmdgglgaaGreatDoorBatLaw9
set_option linter.unusedSimpArgs false
set_option linter.unusedVariables false
namespace Go.Proofs.YtjhbeecmdgglgaaGreatDoor
open Go.RowKit Go.Maps

theorem chn_set : ∀ {l : List Chn} {i : Nat} (y : Chn), i < l.length → ((chnCells l).set (i * 2) (.int .i64 y.k)).set (i * 2 + 1) y.v = chnCells (l.set i y)
  | [], _, _, h => by simp at h
  | c :: l, 0, y, _ => rfl
  | c :: l, i + 1, y, h => by
    have ih := chn_set (l := l) (i := i) y (by simpa using h)
    show ((c.cells ++ chnCells l).set ((i + 1) * 2) _).set ((i + 1) * 2 + 1) _ = c.cells ++ chnCells (l.set i y)
    rw [← ih]
    have e : c.cells = [.int .i64 c.k, c.v] := rfl
    rw [e, show (i + 1) * 2 = i * 2 + 1 + 1 by omega]
    rfl
theorem swapI_mem {α : Type} {l : List α} {i k : Nat} {x : α} (h : x ∈ swapI l i k) : x ∈ l := (swapI_perm l i k).mem_iff.1 h
theorem chn_cell {w : World} {base g cap : Nat} {e : TypeId} {l : List Chn} (h : w.ownsRow base e 2 (.slice (some ⟨g, 0, none⟩) l.length cap) l.length (chnCells l)) {i : Nat} {x : Chn} (hi : l[i]? = some x) :
    w.cell? ⟨g, i * 2, none⟩ = some (.int .i64 x.k) ∧ w.cell? ⟨g, i * 2 + 1, none⟩ = some x.v := by
  have hlt : i < l.length := (List.getElem?_eq_some_iff.1 hi).1
  have h1 := h.cellAt (i * 2) (show i * 2 < l.length * 2 by omega)
  have h2 := h.cellAt (i * 2 + 1) (show i * 2 + 1 < l.length * 2 by omega)
  have e1 := flat_at (f := Chn.cells) (size := 2) Chn.cells_len l i 0 (by omega)
  have e2 := flat_at (f := Chn.cells) (size := 2) Chn.cells_len l i 1 (by omega)
  rw [hi] at e1 e2
  exact ⟨h1.trans e1, h2.trans e2⟩
set_option maxHeartbeats 4000000 in
set_option maxRecDepth 10000 in
theorem swapped_any (v : Value) (l : List Chn) (a b : Int) (w : World) (h : Chs w v l) (hl : l.length ≤ 1000) (ha : -9223372036854775808 ≤ a ∧ a ≤ 9223372036854775807) (hb : -9223372036854775808 ≤ b ∧ b ≤ 9223372036854775807) :
    Calls Tryz.prog 24 #[v, .int .i64 a, .int .i64 b] w fun e w' => ∃ v' l' i k, e = .returned v' ∧ Chs w' v' l' ∧ l' = swapI l i k ∧ Below w.heap.size w w' := by
  have HH := Lib.hid h
  obtain ⟨A, c, rfl, h1, h2, -⟩ := id h.sl
  clear h2
  have HO := Lib.hid (own_emptyT w w.heap.size 53 2 (Nat.le_refl _))
  have hB := below_alloc w (.cells #[] 53)
  have HS := Lib.hid (HH.out.below hB)
  have HONE := Lib.hid (chns_oneC HH.out.rows)
  have HL := Lib.hid hl
  clear h
  go_enter Tryz.func24, Tryz.ntmps24
  go_wp2_with (at_builtin; refine wpList_app rfl (.tmp 12) (.tmp 13) 26 rfl w.heap.size 53 2 32 Tryz.underlying26 stpI _ 0 _ rfl HO.out _ l.length (chnCells l) rfl HS.out.sl (catS_len l) HONE.out ?_ ?_ ?_ ?_)
  · unfold maxLen; omega
  · omega
  · exact hB.size
  · intro v2 w3 hown3 hg3 hat3
    have hb3 := below_grown hB hg3 (own_ge HO.out)
    have HO3 : Hid (w3.ownsRow w.heap.size 53 2 v2 l.length (chnCells l)) := Lib.hid (by have := hown3; simpa using this)
    clear hown3 hg3 hat3
    by_cases hz : l.length = 0
    · obtain ⟨A2, n2, c2, hv2⟩ := own_slice HO3.out
      subst hv2
      obtain ⟨A3, c3, e3, -⟩ := Sl.of_own HO3.out
      injection e3 with e3 e4 e5
      subst e4
      rw [hz] at HO3 ⊢
      go_wp2
      go_ret
      obtain rfl : l = [] := List.eq_nil_of_length_eq_zero hz
      exact ⟨_, [], 0, 0, rfl, ⟨Sl.of_own HO3.out, nofun⟩, rfl, hb3⟩
    · obtain ⟨g, c0, rfl, hgb, hgl⟩ := HO3.out.form (by omega)
      have hq : ((l.length : Int) == 0) = false := beq_false_of_ne (by omega)
      have HCA := Lib.hid (choose_any a l.length w3 ha (by omega) (by omega))
      have HCB := Lib.hid (fun W => choose_any b l.length W hb (by omega) (by omega))
      go_wp2_with fail
      refine Calls.mono (by with_reducible exact HCA.out) ?_
      rintro e w4 ⟨i, rfl, hi, hb4⟩
      have hi := hi (by omega)
      obtain ⟨i, rfl⟩ := Int.eq_ofNat_of_zero_le hi.1
      go_wp2_with fail
      refine Calls.mono (by with_reducible exact HCB.out w4) ?_
      rintro e w5 ⟨k, rfl, hk, hb5⟩
      have hk := hk (by omega)
      obtain ⟨k, rfl⟩ := Int.eq_ofNat_of_zero_le hk.1
      have hb45 := below_trans hb4 hb5
      have HO5 := Lib.hid (own_below HO3.out hb45)
      have hbw5 := below_trans hb3 hb45
      have hil : i < l.length := by omega
      have hkl : k < l.length := by omega
      obtain ⟨x, hx⟩ : ∃ x, l[i]? = some x := ⟨_, List.getElem?_eq_getElem hil⟩
      obtain ⟨y, hy⟩ : ∃ y, l[k]? = some y := ⟨_, List.getElem?_eq_getElem hkl⟩
      have HX := Lib.hid hx
      have HY := Lib.hid hy
      obtain ⟨Ax, cx, hvx, -⟩ := id (HH.out.rows x (List.mem_of_getElem? hx))
      obtain ⟨Ay, cy, hvy, -⟩ := id (HH.out.rows y (List.mem_of_getElem? hy))
      obtain ⟨x1, x2⟩ := chn_cell HO5.out hx
      obtain ⟨y1, y2⟩ := chn_cell HO5.out hy
      rw [hvx] at x2
      rw [hvy] at y2
      have HVX := Lib.hid hvx
      have HVY := Lib.hid hvy
      have HSZ := Lib.hid (show g < w5.heap.size from Nat.lt_of_lt_of_le hgl hb45.size)
      clear hx hy hb4 hb5 hvx hvy HCA HCB hb45
      go_upto_region 5 with fail
      go_cut [10, 11] from 27 to 34 (fun u v wx => ∃ b1 b2 : Nat, u = .pointer (some ⟨b1, 0, none⟩) ∧ v = .pointer (some ⟨b2, 0, none⟩) ∧ Hid (Blk wx b1 53 #[.int .i64 x.k, .slice Ax x.r.length cx] ∧ Blk wx b2 53 #[.int .i64 y.k, .slice Ay y.r.length cy] ∧ Below w5.heap.size w5 wx ∧ w5.heap.size ≤ b1 ∧ w5.heap.size ≤ b2))
      case first =>
        have hba := below_trans (below_alloc w5 (.cells #[.int .i64 x.k, .slice Ax x.r.length cx] 53)) (below_alloc _ (.cells #[.int .i64 y.k, .slice Ay y.r.length cy] 53))
        have hbb := below_trans (below_alloc w5 (.cells #[.int .i64 y.k, .slice Ay y.r.length cy] 53)) (below_alloc _ (.cells #[.int .i64 x.k, .slice Ax x.r.length cx] 53))
        have HA := Lib.hid (And.intro (new_first w5 53 #[.int .i64 x.k, .slice Ax x.r.length cx] (.cells #[.int .i64 y.k, .slice Ay y.r.length cy] 53)) (And.intro (new_second w5 53 #[.int .i64 y.k, .slice Ay y.r.length cy] (.cells #[.int .i64 x.k, .slice Ax x.r.length cx] 53)) hba))
        have HB := Lib.hid (And.intro (new_first w5 53 #[.int .i64 y.k, .slice Ay y.r.length cy] (.cells #[.int .i64 x.k, .slice Ax x.r.length cx] 53)) (And.intro (new_second w5 53 #[.int .i64 x.k, .slice Ax x.r.length cx] (.cells #[.int .i64 y.k, .slice Ay y.r.length cy] 53)) hbb))
        have hgz := HSZ.out
        clear hba hbb
        go_region
        all_goals
          (go_wp2_with fail
           go_meet
           first
           | exact ⟨w5.heap.size, w5.heap.size + 1, rfl, rfl, Lib.hid ⟨HA.out.1, HA.out.2.1, HA.out.2.2.drew, Nat.le_refl _, Nat.le_succ _⟩⟩
           | exact ⟨w5.heap.size + 1, w5.heap.size, rfl, rfl, Lib.hid ⟨HB.out.2.1, HB.out.1, HB.out.2.2.drew, Nat.le_succ _, Nat.le_refl _⟩⟩)
      case' rest =>
        obtain ⟨b1, b2, rfl, rfl, HC⟩ := hcut
        obtain ⟨hK1, hK2, hb6, hg1, hg2⟩ := HC.out
        have hgz := HSZ.out
        have HO6 := Lib.hid (own_below HO5.out hb6)
        have hbw6 := below_trans hbw5 hb6
        clear x1 x2 y1 y2
        obtain ⟨x1, x2⟩ := chn_cell HO6.out HX.out
        have f1 := HO6.out.frozenAt (i * 2)
        have f2 := HO6.out.frozenAt (i * 2 + 1)
        have k0 := hK2.cell 0 _ rfl
        have k1 := hK2.cell 1 _ rfl
        obtain ⟨s1, t1⟩ := HO6.out.stored (i * 2) (.int .i64 y.k)
        obtain ⟨s2, t2⟩ := s1.stored (i * 2 + 1) y.v
        rw [chn_set y hil, show l.length = (l.set i y).length from (List.length_set ..).symm, HVY.out] at s2
        rw [HVY.out] at t2
        have HS2 := Lib.hid s2
        have HT2 := Lib.hid (grown_trans t1 t2)
        have HK1 := Lib.hid ((hK1.far (p := ⟨g, i * 2, none⟩) (show b1 ≠ g by omega) (.int .i64 y.k)).far (p := ⟨g, i * 2 + 1, none⟩) (show b1 ≠ g by omega) (.slice Ay y.r.length cy))
        have HY2 : Hid ((l.set i y)[k]? = some y) := Lib.hid (by
          by_cases e : i = k
          · subst e; rw [List.getElem?_set_self hil]
          · rw [List.getElem?_set_ne e]; exact HY.out)
        clear s1 s2 t1 t2 hK1 hK2 HC
        go_upto_region 7 with fail
        obtain ⟨wy, hwy⟩ : ∃ V, ((wc.setCell ⟨g, i * 2, none⟩ (.int .i64 y.k)).setCell ⟨g, i * 2 + 1, none⟩ (.slice Ay y.r.length cy)) = V := ⟨_, rfl⟩
        rw [hwy] at HS2 HT2 HK1 ⊢
        clear hwy x1 x2 f1 f2 k0 k1
        obtain ⟨x1, x2⟩ := chn_cell HS2.out HY2.out
        have f1 := HS2.out.frozenAt (k * 2)
        have f2 := HS2.out.frozenAt (k * 2 + 1)
        have k0 := HK1.out.cell 0 _ rfl
        have k1 := HK1.out.cell 1 _ rfl
        obtain ⟨s1, t1⟩ := HS2.out.stored (k * 2) (.int .i64 x.k)
        obtain ⟨s2, t2⟩ := s1.stored (k * 2 + 1) x.v
        rw [chn_set x (by rw [List.length_set]; exact hkl), show (l.set i y).length = ((l.set i y).set k x).length from (List.length_set ..).symm, HVX.out] at s2
        rw [HVX.out] at t2
        have HS3 := Lib.hid s2
        have HT3 := Lib.hid (grown_trans HT2.out (grown_trans t1 t2))
        clear s1 s2 t1 t2
        have HBW := Lib.hid hbw6
        have HGB := Lib.hid hgb
        go_wp2
        go_ret
        have hbz := HBW.out.grown HT3.out HBW.out.size (fun j hj => by injection hj with hj; have := HGB.out; omega)
        have es : swapI l i k = (l.set i y).set k x := swapI_at HX.out HY.out
        refine ⟨_, swapI l i k, i, k, rfl, ⟨?_, fun d hd => (HH.out.rows d (swapI_mem hd)).below hbz⟩, rfl, hbz⟩
        rw [es]
        have := Sl.of_own HS3.out
        simpa using this
end Go.Proofs.YtjhbeecmdgglgaaGreatDoor
