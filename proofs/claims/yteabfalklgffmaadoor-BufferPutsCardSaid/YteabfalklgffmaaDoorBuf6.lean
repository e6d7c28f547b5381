/-
  Where an entry stands: the binary search.
-/
import Derived.Test.YteabfalklgffmaaDoorBuf2
import Derived.Test.YteabfalklgffmaaDoorBufLaw3
set_option linter.unusedSimpArgs false
set_option linter.unusedVariables false
namespace Go.Proofs.YteabfalklgffmaaDoor
open Go.RowKit

theorem up_less {l : List En} {e : En} (h : Up l) {i j : Nat} {x y : En} (hi : l[i]? = some x) (hj : l[j]? = some y) (hle : i ≤ j) (hy : cmpE y e < 0) : cmpE x e < 0 := by
  by_cases he : i = j
  · subst he
    rw [hi] at hj
    injection hj with hj
    rw [hj]; exact hy
  · obtain ⟨h1, e1⟩ := List.getElem?_eq_some_iff.1 hi
    obtain ⟨h2, e2⟩ := List.getElem?_eq_some_iff.1 hj
    have := List.pairwise_iff_getElem.1 h i j h1 h2 (by omega)
    rw [e1, e2] at this
    exact cmpE_trans this hy
theorem ens_len (l : List Ent) : (ens l).length = l.length := by unfold ens; rw [List.length_map]
theorem ens_at {l : List Ent} {k : Nat} {x : Ent} (h : l[k]? = some x) : (ens l)[k]? = some x.e := by unfold ens; rw [List.getElem?_map, h]; rfl

set_option maxHeartbeats 4000000 in
set_option maxRecDepth 10000 in
theorem bsearch_any (v : Value) (l : List Ent) (x : Ent) (w : World) (h : Ents w v l) (hl : l.length ≤ 1000000) (hU : Up (ens l)) :
    Calls Tryd.prog 22 #[v, x.agg, .func (.func 23) #[] #[]] w fun e w' => ∃ i is, e = .returned (.tuple #[.int .i64 (i : Nat), .bool is]) ∧ PosE (ens l) x.e i ∧ is = isE (ens l) x.e ∧ Below w.heap.size w w' := by
  have HV := Lib.hid h
  have HU := Lib.hid hU
  obtain ⟨A, c, rfl, h1, h2, -⟩ := id h.sl
  unfold maxLen at h2
  have HOR := Lib.hid (fun (a : Ent) (w' : World) => order_ent a x w')
  have HX := Lib.hid (Blk.new w 28 #[.string (str x.e.key), .int .i64 x.e.t, .int .i64 x.e.s, x.v, .bool x.e.met])
  have hB := below_alloc w (.cells #[.string (str x.e.key), .int .i64 x.e.t, .int .i64 x.e.s, x.v, .bool x.e.met] 28)
  clear h hU
  unfold Ent.agg at HOR ⊢
  go_enter Tryd.func22, Tryd.ntmps22
  go_wp2_with fail
  go_loopw [9, 10, 11] (fun lo hi _ wr => ∃ a b : Nat, lo = .int .i64 a ∧ hi = .int .i64 b ∧ a ≤ b ∧ b ≤ l.length ∧ Hid (∀ j y, j < a → (ens l)[j]? = some y → cmpE y x.e < 0) ∧ Hid (∀ j y, b ≤ j → (ens l)[j]? = some y → 0 ≤ cmpE y x.e) ∧ Blk wr w.heap.size 28 #[.string (str x.e.key), .int .i64 x.e.t, .int .i64 x.e.s, x.v, .bool x.e.met] ∧ Below w.heap.size w wr) (fun lo hi _ _ => (intOf hi).toNat - (intOf lo).toNat)
  case atStart => exact ⟨0, l.length, rfl, rfl, by omega, by omega, Lib.hid (fun j y h => absurd h (by omega)), Lib.hid (fun j y h hp => by have := (List.getElem?_eq_some_iff.1 hp).1; rw [ens_len] at this; omega), HX.out, hB⟩
  case round =>
    obtain ⟨a, b, rfl, rfl, hab, hbl, HL, HM, hK, hbw⟩ := hrel
    by_cases hlt : a < b
    · obtain ⟨m, hm⟩ : ∃ m, (a + b) / 2 = m := ⟨_, rfl⟩
      have hma : a ≤ m := by omega
      have hmb : m < b := by omega
      have hml : m < l.length := by omega
      have hx := List.getElem?_eq_getElem (l := l) hml
      generalize l[m] = y at hx
      obtain ⟨g, off, rfl, -, hc⟩ := ent_at HV.out.sl rfl hx
      have HC := Lib.hid hc
      have HY := Lib.hid (ens_at hx)
      have HO := Lib.hid (fun w' => HOR.out y w')
      clear hc hx
      have hq : ((a : Int) + (b : Int)) / 2 = (m : Int) := by omega
      have m0 : (0 : Int) ≤ (m : Int) := by omega
      have m1 : (m : Int) < (l.length : Int) := by omega
      obtain ⟨d0, d1, d2, d3, d4⟩ := HC.out _ hbw
      have x0 := hK.cell 0 _ rfl
      have x1 := hK.cell 1 _ rfl
      have x2 := hK.cell 2 _ rfl
      have x3 := hK.cell 3 _ rfl
      have x4 := hK.cell 4 _ rfl
      have HK := Lib.hid hK
      clear hm hK
      go_wp2_with fail
      go_region_held3 (fun w' => w'.cell? ⟨g, off + m * 5, none⟩ = some (.string (str y.e.key)) ∧ w'.cell? ⟨g, off + m * 5 + 1, none⟩ = some (.int .i64 y.e.t) ∧ w'.cell? ⟨g, off + m * 5 + 2, none⟩ = some (.int .i64 y.e.s) ∧ w'.cell? ⟨g, off + m * 5 + 3, none⟩ = some y.v ∧ w'.cell? ⟨g, off + m * 5 + 4, none⟩ = some (.bool y.e.met) ∧
          w'.cell? ⟨w.heap.size, 0, none⟩ = some (.string (str x.e.key)) ∧ w'.cell? ⟨w.heap.size, 1, none⟩ = some (.int .i64 x.e.t) ∧ w'.cell? ⟨w.heap.size, 2, none⟩ = some (.int .i64 x.e.s) ∧ w'.cell? ⟨w.heap.size, 3, none⟩ = some x.v ∧ w'.cell? ⟨w.heap.size, 4, none⟩ = some (.bool x.e.met))
        (first | go_keep | exact ⟨d0, d1, d2, d3, d4, x0, x1, x2, x3, x4⟩ | exact z)
        ((go_at_call 23
          refine (HO.out _).mono ?_
          rintro e w2 ⟨rfl, hb2⟩
          have hbw2 := below_trans hbw.drew hb2
          have K2 := HK.out.drew.below hb2
          obtain ⟨e0, e1, e2, e3, e4⟩ := HC.out _ hbw2
          have z := And.intro e0 (And.intro e1 (And.intro e2 (And.intro e3 (And.intro e4 (And.intro (K2.cell 0 _ rfl) (And.intro (K2.cell 1 _ rfl) (And.intro (K2.cell 2 _ rfl) (And.intro (K2.cell 3 _ rfl) (K2.cell 4 _ rfl)))))))))))
      all_goals
        clear z d0 d1 d2 d3 d4 x0 x1 x2 x3 x4 e0 e1 e2 e3 e4
        by_cases hz : cmpE y.e x.e < 0
        · have HL2 : Hid (∀ j u, j < m + 1 → (ens l)[j]? = some u → cmpE u x.e < 0) := Lib.hid fun j u hj hu => up_less HU.out hu HY.out (by omega) hz
          go_wp2
          go_roundw
          case rel => exact ⟨m + 1, b, by go_num, rfl, by omega, hbl, HL2.out, HM.out, K2, hbw2⟩
          case measure => simp [intOf]; omega
        · have HM2 : Hid (∀ j u, m ≤ j → (ens l)[j]? = some u → 0 ≤ cmpE u x.e) := Lib.hid fun j u hj hu => Int.not_lt.1 fun h0 => hz (up_less HU.out HY.out hu hj h0)
          go_wp2
          go_roundw
          case rel => exact ⟨a, m, rfl, rfl, hma, by omega, HL.out, HM2.out, K2, hbw2⟩
          case measure => simp [intOf]; omega
    · obtain rfl : a = b := by omega
      have HP : Hid (PosE (ens l) x.e a) := Lib.hid ⟨by rw [ens_len]; exact hbl, HL.out, fun j u h1 h2 => Int.not_lt.2 (HM.out j u h1 h2)⟩
      clear HL HM
      have x0 := hK.cell 0 _ rfl
      have x1 := hK.cell 1 _ rfl
      have x2 := hK.cell 2 _ rfl
      have x3 := hK.cell 3 _ rfl
      have x4 := hK.cell 4 _ rfl
      have HK := Lib.hid hK
      clear hK
      by_cases hal : a < l.length
      · have hx := List.getElem?_eq_getElem (l := l) hal
        generalize l[a] = y at hx
        obtain ⟨g, off, rfl, -, hc⟩ := ent_at HV.out.sl rfl hx
        have HC := Lib.hid hc
        have HI : Hid (isE (ens l) x.e = decide (cmpE y.e x.e = 0)) := Lib.hid (by rw [isE_at HU.out HP.out, ens_at hx])
        have HO := Lib.hid (fun w' => HOR.out y w')
        clear hc hx
        have m0 : (0 : Int) ≤ (a : Int) := by omega
        have m1 : (a : Int) < (l.length : Int) := by omega
        have hd : decide ((a : Int) < (l.length : Int)) = true := decide_eq_true m1
        obtain ⟨d0, d1, d2, d3, d4⟩ := HC.out _ hbw
        go_wp2_with fail
        go_region_held3 (fun w' => w'.cell? ⟨g, off + a * 5, none⟩ = some (.string (str y.e.key)) ∧ w'.cell? ⟨g, off + a * 5 + 1, none⟩ = some (.int .i64 y.e.t) ∧ w'.cell? ⟨g, off + a * 5 + 2, none⟩ = some (.int .i64 y.e.s) ∧ w'.cell? ⟨g, off + a * 5 + 3, none⟩ = some y.v ∧ w'.cell? ⟨g, off + a * 5 + 4, none⟩ = some (.bool y.e.met) ∧
            w'.cell? ⟨w.heap.size, 0, none⟩ = some (.string (str x.e.key)) ∧ w'.cell? ⟨w.heap.size, 1, none⟩ = some (.int .i64 x.e.t) ∧ w'.cell? ⟨w.heap.size, 2, none⟩ = some (.int .i64 x.e.s) ∧ w'.cell? ⟨w.heap.size, 3, none⟩ = some x.v ∧ w'.cell? ⟨w.heap.size, 4, none⟩ = some (.bool x.e.met))
          (first | go_keep | exact ⟨d0, d1, d2, d3, d4, x0, x1, x2, x3, x4⟩ | exact z)
          ((go_at_call 23
            refine (HO.out _).mono ?_
            rintro e w2 ⟨rfl, hb2⟩
            have hbw2 := below_trans hbw.drew hb2
            have K2 := HK.out.drew.below hb2
            obtain ⟨e0, e1, e2, e3, e4⟩ := HC.out _ hbw2
            have z := And.intro e0 (And.intro e1 (And.intro e2 (And.intro e3 (And.intro e4 (And.intro (K2.cell 0 _ rfl) (And.intro (K2.cell 1 _ rfl) (And.intro (K2.cell 2 _ rfl) (And.intro (K2.cell 3 _ rfl) (K2.cell 4 _ rfl)))))))))))
        all_goals
          go_wp2
          go_ret2
          exact ⟨a, _, rfl, HP.out, by rw [HI.out]; rfl, hbw2⟩
      · have HI : Hid (isE (ens l) x.e = false) := Lib.hid (by rw [isE_at HU.out HP.out, List.getElem?_eq_none (by rw [ens_len]; omega)])
        have hd : decide ((a : Int) < (l.length : Int)) = false := decide_eq_false (by omega)
        go_wp2_with fail
        go_quiet (fail)
        go_wp2
        go_ret2
        exact ⟨a, _, rfl, HP.out, by rw [HI.out], ⟨hbw.os, hbw.tape, hbw.output, hbw.size, hbw.block⟩⟩

end Go.Proofs.YteabfalklgffmaaDoor
