/-
  Plans: typesFine, form.
-/
import Derived.Test.YtelmlagolmabpaaDoorPlan4
namespace Go.Proofs.YtelmlagolmabpaaDoor
open Go.RowKit Go.Maps

/-- The numbers in a plan's lists are of 64 bits. -/
def I64 (l : List Int) : Prop := ∀ x ∈ l, -9223372036854775808 ≤ x ∧ x ≤ 9223372036854775807
structure Pl.fit (p : Pl) : Prop where
  l : I64 p.left
  r : I64 p.right
  k : I64 p.lkeys
  q : I64 p.rkeys
  g : I64 p.group
  a : ∀ x ∈ p.aggs, (-9223372036854775808 ≤ x.1 ∧ x.1 ≤ 9223372036854775807) ∧ (-9223372036854775808 ≤ x.2 ∧ x.2 ≤ 9223372036854775807)
/-- The lists' lengths that counts lets by. -/
structure Pl.short (p : Pl) : Prop where
  l1 : 1 ≤ p.left.length
  l2 : p.left.length ≤ 4
  r1 : 1 ≤ p.right.length
  r2 : p.right.length ≤ 4
  k1 : 1 ≤ p.lkeys.length
  k2 : p.lkeys.length ≤ 4
  q1 : 1 ≤ p.rkeys.length
  q2 : p.rkeys.length ≤ 4
  g : p.group.length ≤ 8
  a : p.aggs.length ≤ 4

def typesB (p : Pl) : Bool := allB (fun n => btw n 1 3) (p.left ++ p.right)

theorem two_sl (W : World) (u v : Value) : Sl (W.alloc (.cells #[u, v] 22)) (.slice (some ⟨W.heap.size, 0, none⟩) 2 2) 2 [u, v] := Sl.block (Blk.new W 22 #[u, v]) 2 2 (Nat.le_refl _) (by decide)
theorem two_sl1 (w : World) (o : Obj) (u v : Value) : Sl ((w.alloc o).alloc (.cells #[u, v] 22)) (.slice (some ⟨w.heap.size + 1, 0, none⟩) 2 2) 2 [u, v] := by
  have := two_sl (w.alloc o) u v
  rwa [World.size_alloc] at this

set_option maxHeartbeats 2000000 in
set_option maxRecDepth 10000 in
theorem typesFine_any (p : Pl) (w : World) (h : p.ok w) (hs : p.short) :
    Calls Tryd.prog 61 #[.agg #[.int .i64 p.kind, .int .i64 p.mode, .int .i64 p.low, .int .i64 p.high, .int .i64 p.size, .int .i64 p.limit, p.vl, p.vr, p.vk, p.vq, .bool p.grouped, p.vg, p.va]] w fun e w' => e = .returned (.bool (typesB p)) ∧ Below w.heap.size w w' := by
  have HL := Lib.hid h.l
  have HR := Lib.hid h.r
  have hB := below_trans (below_alloc w (.cells #[.int .i64 p.kind, .int .i64 p.mode, .int .i64 p.low, .int .i64 p.high, .int .i64 p.size, .int .i64 p.limit, p.vl, p.vr, p.vk, p.vq, .bool p.grouped, p.vg, p.va] 25)) (below_alloc _ (.cells #[p.vl, p.vr] 22))
  have HT := Lib.hid (two_sl1 w (.cells #[.int .i64 p.kind, .int .i64 p.mode, .int .i64 p.low, .int .i64 p.high, .int .i64 p.size, .int .i64 p.limit, p.vl, p.vr, p.vk, p.vq, .bool p.grouped, p.vg, p.va] 25) p.vl p.vr)
  have E : Hid (typesB p = allB (fun n => btw n 1 3) (p.left ++ p.right)) := Lib.hid rfl
  obtain ⟨l1, l2, r1, r2, -⟩ := hs
  clear h
  generalize typesB p = R at E ⊢
  obtain ⟨kind, mode, low, high, size, limit, vl, vr, vk, vq, grouped, vg, va, left, right, lkeys, rkeys, group, aggs⟩ := p
  simp only at HL HR hB HT E l1 l2 r1 r2 ⊢
  obtain ⟨A0, c0, rfl, -⟩ := id HL.out
  obtain ⟨A1, c1, rfl, -⟩ := id HR.out
  go_enter Tryd.func61, Tryd.ntmps61
  go_wp2_with fail
  refine (concat_any _ _ _ left right _ HT.out (HL.out.below hB) (HR.out.below hB) (by omega) (by omega)).mono ?_
  rintro e w1 ⟨v1, rfl, hs1, -, hb1⟩
  have HS1 := Lib.hid hs1
  have hB1 := below_trans hB hb1
  clear hs1 hb1
  go_wp2_with fail
  refine (allTypes_any v1 (left ++ right) _ HS1.out).mono ?_
  rintro e w2 ⟨rfl, rfl⟩
  go_wp2
  go_ret
  exact ⟨ret_bool E.out.symm, hB1⟩

/-! ### form -/
def aggOk (t : List Int) (a : Int × Int) : Bool := if a.1 = 1 then a.2 == 0 else btw a.2 0 ((t.length : Int) - 1) && (a.1 != 2 || t.getD a.2.toNat 0 == 2)

set_option maxHeartbeats 2000000 in
set_option maxRecDepth 10000 in
theorem formOne_any (a : Int × Int) (t : List Int) (vt : Value) (bt : Nat) (w : World) (K : Blk w bt 22 #[vt]) (ht : Sl w vt t.length (intCells t)) (hl : t.length ≤ 1000) :
    Calls Tryd.prog 93 #[.agg #[.int .i64 a.1, .int .i64 a.2], .pointer (some ⟨bt, 0, none⟩)] w fun e w' => e = .returned (.bool (aggOk t a)) ∧ Below w.heap.size w w' := by
  obtain ⟨f, c⟩ := a
  have HH := Lib.hid ht
  obtain ⟨A, cc, rfl, q1, q2, -⟩ := ht
  unfold maxLen at q2
  have z := (K.alloc (.cells #[.int .i64 f, .int .i64 c] 72)).cell 0 _ rfl
  simp only
  by_cases h1 : f = 1
  · have hb := beqT h1
    have E : Hid (aggOk t (f, c) = (c == 0)) := Lib.hid (if_pos h1)
    clear h1
    go_enter Tryd.func93, Tryd.ntmps93
    go_wp2
    go_ret
    exact ⟨ret_bool E.out.symm, below_alloc _ _⟩
  · have hb := beqF h1
    have E : Hid (aggOk t (f, c) = (btw c 0 ((t.length : Int) - 1) && (f != 2 || t.getD c.toNat 0 == 2))) := Lib.hid (if_neg h1)
    clear h1
    cases h2 : btw c 0 ((t.length : Int) - 1)
    · have R := Lib.hid (E.out.trans (by rw [h2]))
      go_enter Tryd.func93, Tryd.ntmps93
      go_wp2_with (go_at_call 87; refine (between_any _ _ _ _).mono ?_; rintro e w' ⟨rfl, rfl⟩)
      go_ret
      exact ⟨ret_bool (by rw [R.out]; rfl), below_alloc _ _⟩
    · obtain ⟨b1, b2⟩ := btw_of h2
      obtain ⟨m, rfl⟩ : ∃ m : Nat, c = m := ⟨c.toNat, by omega⟩
      have hm : m < t.length := by omega
      obtain ⟨g, off, rfl, -, hc⟩ := int_at HH.out rfl hm
      have c1 := hc _ (below_alloc w (.cells #[.int .i64 f, .int .i64 (m : Int)] 72))
      have hmn : ((m : Int)).toNat = m := by omega
      rw [hmn] at E
      generalize t.getD m 0 = y at c1 E
      clear hc hmn
      cases h3 : (f == 2)
      · have g3 := bne_of h3
        simp only [Bool.not_false] at g3
        have R := Lib.hid (E.out.trans (by rw [h2, g3]))
        go_enter Tryd.func93, Tryd.ntmps93
        go_wp2_with (go_at_call 87; refine (between_any _ _ _ _).mono ?_; rintro e w' ⟨rfl, rfl⟩)
        go_ret
        exact ⟨ret_bool (by rw [R.out]; rfl), below_alloc _ _⟩
      · have g3 := bne_of h3
        simp only [Bool.not_true] at g3
        have R := Lib.hid (E.out.trans (by rw [h2, g3]))
        go_enter Tryd.func93, Tryd.ntmps93
        go_wp2_with (go_at_call 87; refine (between_any _ _ _ _).mono ?_; rintro e w' ⟨rfl, rfl⟩)
        go_ret
        exact ⟨ret_bool (by rw [R.out]; simp), below_alloc _ _⟩

set_option maxHeartbeats 1000000 in
set_option maxRecDepth 10000 in
theorem allForm_any (v : Value) (l : List (Int × Int)) (t : List Int) (vt : Value) (bt : Nat) (w : World) (h : Sl w v l.length (aggCells l)) (K : Blk w bt 22 #[vt]) (ht : Sl w vt t.length (intCells t)) (hl : t.length ≤ 1000) :
    Calls Tryd.prog 88 #[v, .func (.func 93) #[] #[.pointer (some ⟨bt, 0, none⟩)]] w fun e w' => e = .returned (.bool (allB (aggOk t) l)) ∧ Below w.heap.size w w' := by
  have HH := Lib.hid h
  have HT := Lib.hid ht
  have HK := Lib.hid K
  obtain ⟨A, c, rfl, h1, h2, -⟩ := h
  unfold maxLen at h2
  clear ht K
  go_enter Tryd.func88, Tryd.ntmps88
  go_wp2
  go_loopw [6, 9] (fun _ i wr => ∃ k : Nat, k ≤ l.length ∧ i = .int .i64 k ∧ Hid (∀ x ∈ l.take k, aggOk t x = true) ∧ Below w.heap.size w wr) (fun _ i _ => l.length - (intOf i).toNat)
  case atStart => exact ⟨0, by omega, rfl, by simp [Hid], Below.refl _ _⟩
  case round =>
    obtain ⟨k, hk, rfl, H, hbw⟩ := hrel
    by_cases hlt : k < l.length
    · have hx := List.getElem?_eq_getElem (l := l) hlt
      generalize l[k] = x at hx
      obtain ⟨g, off, rfl, -, hc⟩ := agg_at HH.out rfl hx
      obtain ⟨c1, c2⟩ := hc _ hbw
      have HX := Lib.hid hx
      have hbw2 := hbw.alloc hbw.size (.cells #[.int .i64 x.1, .int .i64 x.2] 72)
      clear hx hc
      cases hq : aggOk t x
      · have e1 := Lib.hid (all_no (f := aggOk t) HX.out hq)
        have HQ := Lib.hid hq
        clear hq
        go_wp2_with (go_at_call 93; refine (formOne_any x t vt bt _ (HK.out.below hbw2) (HT.out.below hbw2) hl).mono ?_; rw [HQ.out]; rintro e w1 ⟨rfl, hb1⟩)
        go_ret
        exact ⟨ret_bool e1.out.symm, below_trans hbw2 hb1⟩
      · have e1 := Lib.hid (all_step (f := aggOk t) H.out HX.out hq)
        have HQ := Lib.hid hq
        clear hq
        go_wp2_with (go_at_call 93; refine (formOne_any x t vt bt _ (HK.out.below hbw2) (HT.out.below hbw2) hl).mono ?_; rw [HQ.out]; rintro e w1 ⟨rfl, hb1⟩)
        go_roundw
        case rel => exact ⟨k + 1, by omega, by go_num, e1.out, below_trans hbw2 hb1⟩
        case measure => simp [intOf]; omega
    · obtain rfl : k = l.length := by omega
      have e1 := Lib.hid (all_yes (f := aggOk t) H.out)
      go_wp2
      go_ret
      exact ⟨ret_bool e1.out.symm, hbw⟩

end Go.Proofs.YtelmlagolmabpaaDoor
