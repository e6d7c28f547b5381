/-
  Plans: the reference's OutOf; sameInts.
-/
import Derived.Test.YtelmlagolmabpaaDoorPlan13
import Derived.Test.YtelmlagolmabpaaDoorPlan10
set_option linter.unusedSimpArgs false
set_option linter.unusedVariables false
namespace Go.Proofs.YtelmlagolmabpaaDoor
open Go.RowKit Go.Maps

set_option maxHeartbeats 8000000 in
set_option maxRecDepth 10000 in
theorem outOf_any (p : Pl) (w : World) (h : p.ok w) (hz : checkP p = 0) :
    Calls Tryd.prog 19 #[.agg #[.int .i64 p.kind, .int .i64 p.mode, .int .i64 p.low, .int .i64 p.high, .int .i64 p.size, .int .i64 p.limit, p.vl, p.vr, p.vk, p.vq, .bool p.grouped, p.vg, p.va]] w fun e w' => ∃ v, e = .returned v ∧ Sl w' v (outP p).length (intCells (outP p)) ∧ Below w.heap.size w w' := by
  have HE : Hid (outP p = if p.grouped then outG (p.left ++ p.right) p.group ++ outA (p.left ++ p.right) p.aggs else p.left ++ p.right) := Lib.hid rfl
  have hok := check_ok hz
  obtain ⟨l1, l2, r1, r2, -, -, -, -, g1, a1⟩ := counts_short hok.2.2.1
  have HAG := Lib.hid (fun hg => kinds_agg hok.1 hg)
  have HGR := Lib.hid (form_group hok.2.2.2.2)
  have HAR := Lib.hid (form_aggs hok.2.2.2.2)
  have HTY := Lib.hid (fun w' (hb : Below w.heap.size w w') => types_any p w' (h.below hb) (by omega) (by omega))
  have HG := Lib.hid h.g
  have HA := Lib.hid h.a
  clear h hok hz
  generalize outP p = O at HE ⊢
  obtain ⟨kind, mode, low, high, size, limit, vl, vr, vk, vq, grouped, vg, va, left, right, lkeys, rkeys, group, aggs⟩ := p
  simp only at HE HAG HGR HAR HTY HG HA l1 l2 r1 r2 g1 a1 ⊢
  obtain ⟨A4, c4, rfl, n4, m4, -⟩ := id HG.out
  obtain ⟨A5, c5, rfl, n5, m5, -⟩ := id HA.out
  unfold maxLen at m4 m5
  have hB := below_alloc w (.cells #[.int .i64 kind, .int .i64 mode, .int .i64 low, .int .i64 high, .int .i64 size, .int .i64 limit, vl, vr, vk, vq, .bool grouped, .slice A4 group.length c4, .slice A5 aggs.length c5] 25)
  have K1 := Blk.new w 25 #[.int .i64 kind, .int .i64 mode, .int .i64 low, .int .i64 high, .int .i64 size, .int .i64 limit, vl, vr, vk, vq, .bool grouped, .slice A4 group.length c4, .slice A5 aggs.length c5]
  go_enter Tryd.func19, Tryd.ntmps19
  go_wp2_with fail
  refine (HTY.out _ hB).mono ?_
  rintro e w2 ⟨v1, rfl, hs1, -, hb2⟩
  have B2 := below_trans hB hb2
  have K3 := K1.below hb2
  clear K1 hB hb2 HTY
  have hz : (left ++ right).length ≤ 8 := by rw [List.length_append]; omega
  generalize left ++ right = t at hs1 hz HE HGR HAR
  have HS := Lib.hid hs1
  obtain ⟨A6, c6, rfl, n6, m6, -⟩ := hs1
  unfold maxLen at m6
  have y10 := K3.cell 10 _ rfl
  have y11 := K3.cell 11 _ rfl
  cases grouped
  · have HE3 : Hid (O = t) := Lib.hid HE.out
    go_wp2
    go_ret
    exact ⟨_, rfl, by rw [HE3.out]; exact HS.out, B2⟩
  · have HE3 : Hid (O = outG t group ++ outA t aggs) := Lib.hid HE.out
    have HAG2 := Lib.hid (HAG.out rfl)
    clear HE HAG
    go_wp2_with fail
    have HB2 := Lib.hid B2
    clear y10 y11
    go_loopw [4, 5] (fun out i wr => ∃ (k : Nat) (u : Value), u = out ∧ k ≤ group.length ∧ i = .int .i64 k ∧ wr.ownsRow w2.heap.size 3 1 u k (intCells (outG t (group.take k))) ∧ Below w2.heap.size w2 wr) (fun _ i _ => group.length - (intOf i).toNat)
    case atStart => exact ⟨0, _, rfl, by omega, rfl, ⟨rfl, .inl ⟨rfl, rfl⟩⟩, Below.refl _ _⟩
    case round =>
      obtain ⟨k, u, rfl, hk, rfl, hown, hbw⟩ := hrel
      have hBw := B2.trans (hbw.mono B2.size)
      have y11 := (K3.below hbw).cell 11 _ rfl
      by_cases hlt : k < group.length
      · obtain ⟨bg, og, hAg, -, hcg⟩ := int_at HG.out rfl hlt
        have d1 := hcg _ hBw
        have gk : group[k]? = some (group.getD k 0) := by simp [hlt]
        generalize group.getD k 0 = x at d1 gk
        have rx := HGR.out x (List.mem_of_getElem? gk)
        obtain ⟨m, rfl⟩ : ∃ m : Nat, x = m := ⟨x.toNat, by omega⟩
        have hm : m < t.length := by omega
        obtain ⟨b6, o6, hA6, -, hc6⟩ := int_at HS.out rfl hm
        have d2 := hc6 _ hbw
        have hst := map_step (f := fun c : Int => t.getD c.toNat 0) gk
        have hmn : ((m : Int)).toNat = m := by omega
        simp only [hmn] at hst
        generalize t.getD m 0 = Y at d2 hst
        have HST := Lib.hid hst
        clear hst gk hcg hc6 rx hmn
        subst hAg hA6
        have m0' : (0 : Int) ≤ (m : Int) := by omega
        have m1' : (m : Int) < (t.length : Int) := by omega
        go_wp2_with (at_builtin; refine wpList_app rfl (.tmp 20) (.tmp 29) 22 rfl w2.heap.size 3 1 8 Tryd.underlying22 intI _ k _ rfl (hown.alloc _) _ 1 [.int .i64 Y] rfl (one_int _ _) rfl (one_cell _) ?_ ?_ ?_ ?_)
        · unfold maxLen; omega
        · omega
        · have := hbw.size; simp; omega
        · intro v2 w3 hown3 hg3 hat3
          have hbw3 := below_grown (hbw.alloc hbw.size (.cells #[.int .i64 Y] 3)) hg3 (own_ge hown)
          have O3 : Hid (w3.ownsRow w2.heap.size 3 1 v2 (k + 1) (intCells (outG t (group.take (k + 1))))) := by
            rw [cells_step rfl] at hown3
            have e := HST.out
            unfold outG
            rw [e]
            exact hown3
          clear hown3 hg3 hat3 hown
          go_wp2
          go_roundw
          case rel => exact ⟨k + 1, _, rfl, by omega, by go_num, O3.out, hbw3⟩
          case measure => simp [intOf]; omega
      · obtain rfl : k = group.length := by omega
        have HO := Lib.hid hown
        have y12 := (K3.below hbw).cell 12 _ rfl
        clear hown
        rw [List.take_length] at HO
        go_wp2_with fail
        go_loopw [4, 6] (fun out i wr => ∃ (k : Nat) (u : Value), u = out ∧ k ≤ aggs.length ∧ i = .int .i64 k ∧ wr.ownsRow w2.heap.size 3 1 u (group.length + k) (intCells (outG t group ++ outA t (aggs.take k))) ∧ Below w2.heap.size w2 wr) (fun _ i _ => aggs.length - (intOf i).toNat)
        case atStart => exact ⟨0, _, rfl, by omega, rfl, by simpa [outA] using HO.out, hbw⟩
        case round =>
          clear hbw hBw y12 y11 HO
          obtain ⟨k, u, rfl, hk, rfl, hown, hbw⟩ := hrel
          have hBw := B2.trans (hbw.mono B2.size)
          have y12 := (K3.below hbw).cell 12 _ rfl
          by_cases hlt : k < aggs.length
          · have hx := List.getElem?_eq_getElem (l := aggs) hlt
            generalize aggs[k] = x at hx
            obtain ⟨g, off, rfl, -, hc⟩ := agg_at HA.out rfl hx
            obtain ⟨d1, d2⟩ := hc _ hBw
            have hxm := List.mem_of_getElem? hx
            have r1' := HAG2.out x hxm
            have r2' := HAR.out x hxm
            have hst := map_step (f := aggT t) hx
            clear hx hc hxm
            obtain ⟨f, c⟩ := x
            simp only at d1 d2 r1' r2' hst
            by_cases hf : f ≤ 2
            · have hval : aggT t (f, c) = 2 := if_neg (by simp only; omega)
              rw [hval] at hst
              have HST := Lib.hid hst
              clear hst hval r1' r2'
              go_wp2_with (at_builtin; refine wpList_app rfl (.tmp 45) (.tmp 46) 22 rfl w2.heap.size 3 1 8 Tryd.underlying22 intI _ (group.length + k) _ rfl (hown.alloc _) _ 1 [.int .i64 2] rfl (one_int _ _) rfl (one_cell _) ?_ ?_ ?_ ?_)
              · unfold maxLen; omega
              · omega
              · have := hbw.size; simp; omega
              · intro v2 w3 hown3 hg3 hat3
                have hbw3 := below_grown (hbw.alloc hbw.size (.cells #[.int .i64 2] 3)) hg3 (own_ge hown)
                have O3 : Hid (w3.ownsRow w2.heap.size 3 1 v2 (group.length + (k + 1)) (intCells (outG t group ++ outA t (aggs.take (k + 1))))) := by
                  rw [cells_step rfl, List.append_assoc] at hown3
                  have e := HST.out
                  unfold outA at hown3 ⊢
                  rw [e]
                  exact hown3
                clear hown3 hg3 hat3 hown
                go_wp2
                go_roundw
                case rel => exact ⟨k + 1, _, rfl, by omega, by go_num, O3.out, hbw3⟩
                case measure => simp [intOf]; omega
            · have hf34 : f = 3 ∨ f = 4 := by omega
              have rc := r2' (by omega)
              obtain ⟨m, rfl⟩ : ∃ m : Nat, c = m := ⟨c.toNat, by omega⟩
              have hm : m < t.length := by omega
              obtain ⟨b6, o6, hA6, -, hc6⟩ := int_at HS.out rfl hm
              have d3 := hc6 _ hbw
              have hmn : ((m : Int)).toNat = m := by omega
              have hval : aggT t (f, (m : Int)) = t.getD m 0 := by unfold aggT; rw [if_pos hf34, hmn]
              rw [hval] at hst
              generalize t.getD m 0 = Y at d3 hst
              have HST := Lib.hid hst
              clear hst hc6 hmn hval rc r1' r2' hf34
              subst hA6
              have m0' : (0 : Int) ≤ (m : Int) := by omega
              have m1' : (m : Int) < (t.length : Int) := by omega
              go_wp2_with (at_builtin; refine wpList_app rfl (.tmp 48) (.tmp 58) 22 rfl w2.heap.size 3 1 8 Tryd.underlying22 intI _ (group.length + k) _ rfl (hown.alloc _) _ 1 [.int .i64 Y] rfl (one_int _ _) rfl (one_cell _) ?_ ?_ ?_ ?_)
              · unfold maxLen; omega
              · omega
              · have := hbw.size; simp; omega
              · intro v2 w3 hown3 hg3 hat3
                have hbw3 := below_grown (hbw.alloc hbw.size (.cells #[.int .i64 Y] 3)) hg3 (own_ge hown)
                have O3 : Hid (w3.ownsRow w2.heap.size 3 1 v2 (group.length + (k + 1)) (intCells (outG t group ++ outA t (aggs.take (k + 1))))) := by
                  rw [cells_step rfl, List.append_assoc] at hown3
                  have e := HST.out
                  unfold outA at hown3 ⊢
                  rw [e]
                  exact hown3
                clear hown3 hg3 hat3 hown
                go_wp2
                go_roundw
                case rel => exact ⟨k + 1, _, rfl, by omega, by go_num, O3.out, hbw3⟩
                case measure => simp [intOf]; omega
          · obtain rfl : k = aggs.length := by omega
            have HO := Lib.hid hown
            clear hown
            rw [List.take_length] at HO
            go_wp2
            go_ret
            refine ⟨_, rfl, ?_, hBw⟩
            rw [HE3.out]
            have e : (outG t group ++ outA t aggs).length = group.length + aggs.length := by simp [outG, outA]
            rw [e]
            exact Sl.of_own HO.out

/-! ### sameInts, of lists that are the same -/
set_option maxHeartbeats 4000000 in
set_option maxRecDepth 10000 in
theorem sameInts_any (va vb : Value) (l : List Int) (w : World) (ha : Sl w va l.length (intCells l)) (hb : Sl w vb l.length (intCells l)) :
    Calls Tryd.prog 18 #[va, vb] w fun e w' => e = .returned (.bool true) ∧ Below w.heap.size w w' := by
  have HA := Lib.hid ha
  have HB := Lib.hid hb
  obtain ⟨A, c, rfl, h1, h2, -⟩ := ha
  obtain ⟨A2, c2, rfl, h3, h4, -⟩ := hb
  unfold maxLen at h2 h4
  have hbn : ((l.length : Int) == (l.length : Int)) = true := by simp
  go_enter Tryd.func18, Tryd.ntmps18
  go_wp2_with fail
  go_loopw [5] (fun i wr => ∃ k : Nat, k ≤ l.length ∧ i = .int .i64 k ∧ Below w.heap.size w wr) (fun i _ => l.length - (intOf i).toNat)
  case atStart => exact ⟨0, by omega, rfl, Below.refl _ _⟩
  case round =>
    obtain ⟨k, hk, rfl, hbw⟩ := hrel
    by_cases hlt : k < l.length
    · obtain ⟨b, off, rfl, -, hc⟩ := int_at HA.out rfl hlt
      obtain ⟨b', off', rfl, -, hc'⟩ := int_at HB.out rfl hlt
      have d1 := hc _ hbw
      have d2 := hc' _ hbw
      generalize l.getD k 0 = x at d1 d2
      clear hc hc'
      have hq : (x == x) = true := by simp
      have hq' := bne_of hq
      simp only [Bool.not_true] at hq'
      have k0 : (0 : Int) ≤ (k : Int) := by omega
      have k1 : (k : Int) < (l.length : Int) := by omega
      go_wp2_with fail
      go_quiet (fail)
      go_wp2
      go_roundw
      case rel => exact ⟨k + 1, by omega, by go_num, below_drewN hbw _⟩
      case measure => simp [intOf]; omega
    · obtain rfl : k = l.length := by omega
      go_wp2
      go_ret
      exact ⟨rfl, hbw⟩

end Go.Proofs.YtelmlagolmabpaaDoor
