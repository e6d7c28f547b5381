/-
  Plans: Out, and the reference's OutOf.
-/
import Derived.Test.YtelmlagolmabpaaDoorPlan7
set_option linter.unusedSimpArgs false
set_option linter.unusedVariables false
namespace Go.Proofs.YtelmlagolmabpaaDoor
open Go.RowKit Go.Maps

def outG (t g : List Int) : List Int := g.map fun c => t.getD c.toNat 0
def aggT (t : List Int) (a : Int × Int) : Int := if a.1 = 3 ∨ a.1 = 4 then t.getD a.2.toNat 0 else 2
def outA (t : List Int) (l : List (Int × Int)) : List Int := l.map (aggT t)
def outP (p : Pl) : List Int := if p.grouped then outG (p.left ++ p.right) p.group ++ outA (p.left ++ p.right) p.aggs else p.left ++ p.right
def outL (p : Pl) : List Int := if checkP p = 0 then outP p else []
theorem check_ok {p : Pl} (h : checkP p = 0) : kindsB p = true ∧ rangesB p = true ∧ countsB p = true ∧ typesB p = true ∧ formB p = true := by
  unfold checkP at h
  cases h1 : kindsB p <;> cases h2 : rangesB p <;> cases h3 : countsB p <;> cases h4 : typesB p <;> cases h5 : formB p <;> simp_all
theorem kinds_agg {p : Pl} (h : kindsB p = true) (hg : p.grouped = true) : ∀ a ∈ p.aggs, 1 ≤ a.1 ∧ a.1 ≤ 4 := by
  unfold kindsB at h
  rw [hg] at h
  simp only [Bool.not_true, Bool.false_or, Bool.and_eq_true, allB, List.all_eq_true] at h
  exact fun a ha => btw_of (h.2.2 a ha)
theorem form_group {p : Pl} (h : formB p = true) : ∀ x ∈ p.group, 0 ≤ x ∧ x < (p.left ++ p.right).length := by
  unfold formB at h
  simp only [Bool.and_eq_true] at h
  exact unl_range h.2.2.2.2.1
theorem form_aggs {p : Pl} (h : formB p = true) : ∀ x ∈ p.aggs, x.1 ≠ 1 → 0 ≤ x.2 ∧ x.2 < (p.left ++ p.right).length := by
  unfold formB at h
  simp only [Bool.and_eq_true, allB, List.all_eq_true] at h
  intro x hx hne
  have := h.2.2.2.2.2.2 x hx
  unfold aggOk at this
  rw [if_neg hne, Bool.and_eq_true] at this
  have := btw_of this.1
  omega
theorem map_step {α β : Type} {f : α → β} {l : List α} {k : Nat} {x : α} (h : l[k]? = some x) : (l.take (k + 1)).map f = (l.take k).map f ++ [f x] := by
  rw [List.take_add_one, h]
  simp
theorem one_int (W : World) (x : Int) : Sl (W.alloc (.cells #[.int .i64 x] 3)) (.slice (some ⟨W.heap.size, 0, none⟩) 1 1) 1 [.int .i64 x] := Sl.block (Blk.new W 3 #[.int .i64 x]) 1 1 (Nat.le_refl _) (by decide)
theorem one_int1 (W : World) (o : Obj) (x : Int) : Sl ((W.alloc o).alloc (.cells #[.int .i64 x] 3)) (.slice (some ⟨W.heap.size + 1, 0, none⟩) 1 1) 1 [.int .i64 x] := by
  have := one_int (W.alloc o) x
  rwa [World.size_alloc] at this
theorem one_cell (x : Int) : ∀ u ∈ [Value.int .i64 x], u.oneCell' = true := by intro u hu; simp at hu; subst hu; rfl
theorem cells_step {t : List Int} {x y : Int} (h : y = x) : intCells t ++ [Value.int .i64 x] = intCells (t ++ [y]) := by rw [intCells_app, h]; rfl

set_option maxHeartbeats 8000000 in
set_option maxRecDepth 10000 in
theorem out_any (p : Pl) (w : World) (h : p.ok w) (hf : p.fit) :
    Calls Tryd.prog 14 #[.agg #[.int .i64 p.kind, .int .i64 p.mode, .int .i64 p.low, .int .i64 p.high, .int .i64 p.size, .int .i64 p.limit, p.vl, p.vr, p.vk, p.vq, .bool p.grouped, p.vg, p.va]] w fun e w' => ∃ v, e = .returned (.tuple #[v, .int .i64 (checkP p)]) ∧ Sl w' v (outL p).length (intCells (outL p)) ∧ Below w.heap.size w w' := by
  have HC := Lib.hid (fun w' (hb : Below w.heap.size w w') => check_any p w' (h.below hb) hf)
  have HE : Hid (outL p = if checkP p = 0 then (if p.grouped then outG (p.left ++ p.right) p.group ++ outA (p.left ++ p.right) p.aggs else p.left ++ p.right) else []) := Lib.hid rfl
  have HOK := Lib.hid (fun hz : checkP p = 0 => let r := check_ok hz; And.intro (counts_short r.2.2.1) (And.intro (fun hg => kinds_agg r.1 hg) (And.intro (form_group r.2.2.2.2) (form_aggs r.2.2.2.2))))
  have HL := Lib.hid h.l
  have HR := Lib.hid h.r
  have HG := Lib.hid h.g
  have HA := Lib.hid h.a
  clear h hf
  generalize outL p = O at HE ⊢
  generalize checkP p = q at HC HE HOK ⊢
  obtain ⟨kind, mode, low, high, size, limit, vl, vr, vk, vq, grouped, vg, va, left, right, lkeys, rkeys, group, aggs⟩ := p
  simp only at HC HE HOK HL HR HG HA ⊢
  obtain ⟨A0, c0, rfl, n0, m0, -⟩ := id HL.out
  obtain ⟨A1, c1, rfl, n1, m1, -⟩ := id HR.out
  obtain ⟨A4, c4, rfl, n4, m4, -⟩ := id HG.out
  obtain ⟨A5, c5, rfl, n5, m5, -⟩ := id HA.out
  unfold maxLen at m0 m1 m4 m5
  have hB := below_alloc w (.cells #[.int .i64 kind, .int .i64 mode, .int .i64 low, .int .i64 high, .int .i64 size, .int .i64 limit, .slice A0 left.length c0, .slice A1 right.length c1, vk, vq, .bool grouped, .slice A4 group.length c4, .slice A5 aggs.length c5] 25)
  have K1 := Blk.new w 25 #[.int .i64 kind, .int .i64 mode, .int .i64 low, .int .i64 high, .int .i64 size, .int .i64 limit, .slice A0 left.length c0, .slice A1 right.length c1, vk, vq, .bool grouped, .slice A4 group.length c4, .slice A5 aggs.length c5]
  by_cases hq : q = 0
  · subst hq
    obtain ⟨⟨l1, l2, r1, r2, -, -, -, -, g1, a1⟩, hag, hgr, har⟩ := HOK.out rfl
    simp only at l1 l2 r1 r2 g1 a1 hag hgr har
    have HAG := Lib.hid hag
    have HGR := Lib.hid hgr
    have HAR := Lib.hid har
    have HE2 := Lib.hid (HE.out.trans (if_pos rfl))
    clear hag hgr har HE HOK
    go_enter Tryd.func14, Tryd.ntmps14
    go_wp2_with fail
    refine (HC.out _ hB).mono ?_
    rintro e w1 ⟨rfl, hb1⟩
    have B1 := below_trans hB hb1
    have K2 := K1.below hb1
    clear K1 hB hb1 HC
    have hB := B1.alloc B1.size (.cells #[.slice A0 left.length c0, .slice A1 right.length c1] 22)
    have HT := Lib.hid (two_sl w1 (.slice A0 left.length c0) (.slice A1 right.length c1))
    have y6 := K2.cell 6 _ rfl
    have y7 := K2.cell 7 _ rfl
    go_wp2_with fail
    refine (concat_any _ _ _ left right _ HT.out (HL.out.below hB) (HR.out.below hB) (by omega) (by omega)).mono ?_
    rintro e w2 ⟨v1, rfl, hs1, -, hb2⟩
    have B2 := below_trans hB hb2
    have K3 := (K2.alloc (.cells #[.slice A0 left.length c0, .slice A1 right.length c1] 22)).below hb2
    clear K2 hB hb2 HT y6 y7
    have hz : (left ++ right).length ≤ 8 := by rw [List.length_append]; omega
    generalize left ++ right = t at hs1 hz HE2 HGR HAR
    have HS := Lib.hid hs1
    obtain ⟨A6, c6, rfl, n6, m6, -⟩ := hs1
    unfold maxLen at m6
    have y10 := K3.cell 10 _ rfl
    have y11 := K3.cell 11 _ rfl
    cases grouped
    · have HE3 : Hid (O = t) := Lib.hid HE2.out
      go_wp2
      go_ret2
      exact ⟨_, rfl, by rw [HE3.out]; exact HS.out, B2⟩
    · have HE3 : Hid (O = outG t group ++ outA t aggs) := Lib.hid HE2.out
      have HAG2 := Lib.hid (HAG.out rfl)
      clear HE2 HAG
      go_wp2_with fail
      have HB2 := Lib.hid B2
      go_loopw [6, 8, 30] (fun out _ i wr => ∃ (k : Nat) (u : Value), u = out ∧ k ≤ group.length ∧ i = .int .i64 k ∧ wr.ownsRow w2.heap.size 3 1 u k (intCells (outG t (group.take k))) ∧ Below w2.heap.size w2 wr) (fun _ _ i _ => group.length - (intOf i).toNat)
      case atStart => exact ⟨0, _, rfl, by omega, rfl, ⟨rfl, .inl ⟨rfl, rfl⟩⟩, Below.refl _ _⟩
      case round =>
        obtain ⟨k, u, rfl, hk, rfl, hown, hbw⟩ := hrel
        have hBw := B2.trans (hbw.mono B2.size)
        by_cases hlt : k < group.length
        · obtain ⟨bg, og, hAg, -, hcg⟩ := int_at HG.out rfl hlt
          have d1 := hcg _ hBw
          have gk : group[k]? = some (group.getD k 0) := by simp [hlt]
          generalize group.getD k 0 = x at d1 gk
          have rx := HGR.out x (List.mem_of_getElem? gk)
          obtain ⟨m, rfl⟩ : ∃ m : Nat, x = m := ⟨x.toNat, by omega⟩
          have hm : m < t.length := by omega
          obtain ⟨b6, o6, hA6, -, hc6⟩ := int_at HS.out rfl hm
          have d2 := hc6 _ hbw
          have hst := map_step (f := fun c : Int => t.getD c.toNat 0) gk
          have hmn : ((m : Int)).toNat = m := by omega
          simp only [hmn] at hst
          generalize t.getD m 0 = Y at d2 hst
          have HST := Lib.hid hst
          clear hst gk hcg hc6 rx hmn
          subst hAg hA6
          have m0' : (0 : Int) ≤ (m : Int) := by omega
          have m1' : (m : Int) < (t.length : Int) := by omega
          go_wp2_with (at_builtin; refine wpList_app rfl (.tmp 34) (.tmp 39) 22 rfl w2.heap.size 3 1 8 Tryd.underlying22 intI _ k _ rfl (hown.alloc _) _ 1 [.int .i64 Y] rfl (one_int _ _) rfl (one_cell _) ?_ ?_ ?_ ?_)
          · unfold maxLen; omega
          · omega
          · have := hbw.size; simp; omega
          · intro v2 w3 hown3 hg3 hat3
            have hbw3 := below_grown (hbw.alloc hbw.size (.cells #[.int .i64 Y] 3)) hg3 (own_ge hown)
            have O3 : Hid (w3.ownsRow w2.heap.size 3 1 v2 (k + 1) (intCells (outG t (group.take (k + 1))))) := by
              rw [cells_step rfl] at hown3
              have e := HST.out
              unfold outG
              rw [e]
              exact hown3
            clear hown3 hg3 hat3 hown
            go_wp2
            go_roundw
            case rel => exact ⟨k + 1, _, rfl, by omega, by go_num, O3.out, hbw3⟩
            case measure => simp [intOf]; omega
        · obtain rfl : k = group.length := by omega
          have HO := Lib.hid hown
          have y12 := (K3.below hbw).cell 12 _ rfl
          clear hown
          rw [List.take_length] at HO
          go_wp2_with fail
          go_loopw [6, 10, 11, 45] (fun out _ _ i wr => ∃ (k : Nat) (u : Value), u = out ∧ k ≤ aggs.length ∧ i = .int .i64 k ∧ wr.ownsRow w2.heap.size 3 1 u (group.length + k) (intCells (outG t group ++ outA t (aggs.take k))) ∧ Below w2.heap.size w2 wr) (fun _ _ _ i _ => aggs.length - (intOf i).toNat)
          case atStart => exact ⟨0, _, rfl, by omega, rfl, by simpa [outA] using HO.out, hbw⟩
          case round =>
            clear hbw hBw y12 y10 y11 HO
            obtain ⟨k, u, rfl, hk, rfl, hown, hbw⟩ := hrel
            have hBw := B2.trans (hbw.mono B2.size)
            by_cases hlt : k < aggs.length
            · have hx := List.getElem?_eq_getElem (l := aggs) hlt
              generalize aggs[k] = x at hx
              obtain ⟨g, off, rfl, -, hc⟩ := agg_at HA.out rfl hx
              obtain ⟨d1, d2⟩ := hc _ hBw
              have hxm := List.mem_of_getElem? hx
              have r1' := HAG2.out x hxm
              have r2' := HAR.out x hxm
              have hst := map_step (f := aggT t) hx
              clear hx hc hxm
              obtain ⟨f, c⟩ := x
              simp only at d1 d2 r1' r2' hst
              have hbw2 := hbw.alloc hbw.size (.cells #[.int .i64 f, .int .i64 c] 72)
              have hown2 := hown.alloc (.cells #[.int .i64 f, .int .i64 c] 72)
              clear hown
              by_cases hf : f = 3 ∨ f = 4
              · have rc := r2' (by omega)
                obtain ⟨m, rfl⟩ : ∃ m : Nat, c = m := ⟨c.toNat, by omega⟩
                have hm : m < t.length := by omega
                obtain ⟨b6, o6, hA6, -, hc6⟩ := int_at HS.out rfl hm
                have d3 := hc6 _ hbw2
                have hmn : ((m : Int)).toNat = m := by omega
                have hval : aggT t (f, (m : Int)) = t.getD m 0 := by unfold aggT; rw [if_pos hf, hmn]
                rw [hval] at hst
                generalize t.getD m 0 = Y at d3 hst
                have HST := Lib.hid hst
                clear hst hc6 hmn hval rc r1' r2'
                subst hA6
                have m0' : (0 : Int) ≤ (m : Int) := by omega
                have m1' : (m : Int) < (t.length : Int) := by omega
                rcases (show ((f == 3) = true) ∨ ((f == 3) = false ∧ (f == 4) = true) by rcases hf with h | h <;> simp [h]) with hb | ⟨hb, hb'⟩
                all_goals
                  clear hf
                  go_wp2_with (at_builtin; refine wpList_app rfl (.tmp 62) (.tmp 64) 22 rfl w2.heap.size 3 1 8 Tryd.underlying22 intI _ (group.length + k) _ rfl (hown2.alloc _) _ 1 [.int .i64 Y] rfl (one_int1 _ _ _) rfl (one_cell _) ?_ ?_ ?_ ?_)
                  · unfold maxLen; omega
                  · omega
                  · have := hbw2.size; simp at this ⊢; omega
                  · intro v2 w3 hown3 hg3 hat3
                    have hbw3 := below_grown (hbw2.alloc hbw2.size (.cells #[.int .i64 Y] 3)) hg3 (own_ge hown2)
                    have O3 : Hid (w3.ownsRow w2.heap.size 3 1 v2 (group.length + (k + 1)) (intCells (outG t group ++ outA t (aggs.take (k + 1))))) := by
                      rw [cells_step rfl, List.append_assoc] at hown3
                      have e := HST.out
                      unfold outA at hown3 ⊢
                      rw [e]
                      exact hown3
                    clear hown3 hg3 hat3 hown2
                    go_wp2
                    go_roundw
                    case rel => exact ⟨k + 1, _, rfl, by omega, by go_num, O3.out, hbw3⟩
                    case measure => simp [intOf]; omega
              · have hval : aggT t (f, c) = 2 := if_neg hf
                rw [hval] at hst
                have HST := Lib.hid hst
                have hb : (f == 3) = false := beqF (fun h => hf (.inl h))
                have hb' : (f == 4) = false := beqF (fun h => hf (.inr h))
                clear hst hval r1' r2' hf
                go_wp2_with (at_builtin; refine wpList_app rfl (.tmp 62) (.tmp 64) 22 rfl w2.heap.size 3 1 8 Tryd.underlying22 intI _ (group.length + k) _ rfl (hown2.alloc _) _ 1 [.int .i64 2] rfl (one_int1 _ _ _) rfl (one_cell _) ?_ ?_ ?_ ?_)
                · unfold maxLen; omega
                · omega
                · have := hbw2.size; simp at this ⊢; omega
                · intro v2 w3 hown3 hg3 hat3
                  have hbw3 := below_grown (hbw2.alloc hbw2.size (.cells #[.int .i64 2] 3)) hg3 (own_ge hown2)
                  have O3 : Hid (w3.ownsRow w2.heap.size 3 1 v2 (group.length + (k + 1)) (intCells (outG t group ++ outA t (aggs.take (k + 1))))) := by
                    rw [cells_step rfl, List.append_assoc] at hown3
                    have e := HST.out
                    unfold outA at hown3 ⊢
                    rw [e]
                    exact hown3
                  clear hown3 hg3 hat3 hown2
                  go_wp2
                  go_roundw
                  case rel => exact ⟨k + 1, _, rfl, by omega, by go_num, O3.out, hbw3⟩
                  case measure => simp [intOf]; omega
            · obtain rfl : k = aggs.length := by omega
              have HO := Lib.hid hown
              clear hown
              rw [List.take_length] at HO
              go_wp2
              go_ret2
              refine ⟨_, rfl, ?_, hBw⟩
              rw [HE3.out]
              have e : (outG t group ++ outA t aggs).length = group.length + aggs.length := by simp [outG, outA]
              rw [e]
              exact Sl.of_own HO.out
  · have HE2 := Lib.hid (HE.out.trans (if_neg hq))
    have hb := beqF hq
    have hb' := bne_of hb
    simp only [Bool.not_false] at hb'
    clear HE HOK hq
    go_enter Tryd.func14, Tryd.ntmps14
    go_wp2_with fail
    refine (HC.out _ hB).mono ?_
    rintro e w1 ⟨rfl, hb1⟩
    go_wp2
    go_ret2
    exact ⟨_, rfl, by rw [HE2.out]; exact Sl.nil_ _, below_trans hB hb1⟩

end Go.Proofs.YtelmlagolmabpaaDoor
