/-
  Plans: the reference's wrongMany, once, Types.
-/
import Derived.Test.YtelmlagolmabpaaDoorPlan6
set_option linter.unusedSimpArgs false
set_option linter.unusedVariables false
namespace Go.Proofs.YtelmlagolmabpaaDoor
open Go.RowKit Go.Maps

set_option maxHeartbeats 4000000 in
set_option maxRecDepth 10000 in
theorem wrongMany_any (p : Pl) (w : World) (h : p.ok w) :
    Calls Tryd.prog 52 #[.agg #[.int .i64 p.kind, .int .i64 p.mode, .int .i64 p.low, .int .i64 p.high, .int .i64 p.size, .int .i64 p.limit, p.vl, p.vr, p.vk, p.vq, .bool p.grouped, p.vg, p.va]] w fun e w' => e = .returned (.bool (!countsB p)) ∧ Below w.heap.size w w' := by
  have E : Hid (countsB p = (allB id [btw p.left.length 1 4, btw p.right.length 1 4, btw p.lkeys.length 1 4, btw p.rkeys.length 1 4] && (if p.grouped then btw p.aggs.length 1 4 && decide ((p.group.length : Int) ≤ 8 - p.aggs.length) else (p.group.length : Int) + p.aggs.length == 0))) := Lib.hid rfl
  generalize countsB p = R at E ⊢
  have hB := below_alloc w (.cells #[.int .i64 p.kind, .int .i64 p.mode, .int .i64 p.low, .int .i64 p.high, .int .i64 p.size, .int .i64 p.limit, p.vl, p.vr, p.vk, p.vq, .bool p.grouped, p.vg, p.va] 25)
  obtain ⟨kind, mode, low, high, size, limit, vl, vr, vk, vq, grouped, vg, va, left, right, lkeys, rkeys, group, aggs⟩ := p
  obtain ⟨sl, sr, sk, sq, sg, sa⟩ := h
  simp only at sl sr sk sq sg sa hB E ⊢
  obtain ⟨A0, c0, rfl, n0, m0, -⟩ := sl
  obtain ⟨A1, c1, rfl, n1, m1, -⟩ := sr
  obtain ⟨A2, c2, rfl, n2, m2, -⟩ := sk
  obtain ⟨A3, c3, rfl, n3, m3, -⟩ := sq
  obtain ⟨A4, c4, rfl, n4, m4, -⟩ := sg
  obtain ⟨A5, c5, rfl, n5, m5, -⟩ := sa
  unfold maxLen at m0 m1 m2 m3 m4 m5
  by_cases hall : btw left.length 1 4 = true ∧ btw right.length 1 4 = true ∧ btw lkeys.length 1 4 = true ∧ btw rkeys.length 1 4 = true
  · obtain ⟨h1, h2, h3, h4⟩ := hall
    have e := E.out
    simp only [h1, h2, h3, h4, allB, List.all_cons, List.all_nil, id, Bool.true_and, Bool.and_true] at e
    have E2 := Lib.hid e
    clear e E
    cases grouped
    · have e := E2.out
      simp only [Bool.false_eq_true, if_false] at e
      by_cases ha : 0 < aggs.length
      · have EE : Hid (R = false) := Lib.hid (by rw [e]; simp <;> omega)
        clear e E2
        go_enter Tryd.func52, Tryd.ntmps52
        go_wp2_with (go_at_call 49; refine (within_any _ _ _ _).mono ?_; rintro e w' ⟨rfl, rfl⟩)
        go_ret
        exact ⟨ret_bool (by rw [EE.out]; rfl), hB⟩
      · by_cases hg : 0 < group.length
        · have EE : Hid (R = false) := Lib.hid (by rw [e]; simp <;> omega)
          clear e E2
          go_enter Tryd.func52, Tryd.ntmps52
          go_wp2_with (go_at_call 49; refine (within_any _ _ _ _).mono ?_; rintro e w' ⟨rfl, rfl⟩)
          go_ret
          exact ⟨ret_bool (by rw [EE.out]; simp <;> omega), hB⟩
        · have EE : Hid (R = true) := Lib.hid (by rw [e]; simp <;> omega)
          clear e E2
          go_enter Tryd.func52, Tryd.ntmps52
          go_wp2_with (go_at_call 49; refine (within_any _ _ _ _).mono ?_; rintro e w' ⟨rfl, rfl⟩)
          go_ret
          exact ⟨ret_bool (by rw [EE.out]; simp <;> omega), hB⟩
    · have e := E2.out
      simp only [if_true] at e
      cases ha : btw aggs.length 1 4
      · have EE : Hid (R = false) := Lib.hid (by rw [e, ha]; rfl)
        clear e E2
        go_enter Tryd.func52, Tryd.ntmps52
        go_wp2_with (go_at_call 49; refine (within_any _ _ _ _).mono ?_; rintro e w' ⟨rfl, rfl⟩)
        go_ret
        exact ⟨ret_bool (by rw [EE.out]; rfl), hB⟩
      · by_cases hg : (group.length : Int) ≤ 8 - aggs.length
        · have EE : Hid (R = true) := Lib.hid (by rw [e, ha]; simpa using hg)
          clear e E2
          have hg' : ¬ (8 - (aggs.length : Int) < (group.length : Int)) := by omega
          go_enter Tryd.func52, Tryd.ntmps52
          go_wp2_with (go_at_call 49; refine (within_any _ _ _ _).mono ?_; rintro e w' ⟨rfl, rfl⟩)
          go_ret
          exact ⟨ret_bool (by rw [EE.out]; simp <;> omega), hB⟩
        · have EE : Hid (R = false) := Lib.hid (by rw [e, ha]; simp <;> omega)
          clear e E2
          have hg' : (8 - (aggs.length : Int) < (group.length : Int)) := by omega
          go_enter Tryd.func52, Tryd.ntmps52
          go_wp2_with (go_at_call 49; refine (within_any _ _ _ _).mono ?_; rintro e w' ⟨rfl, rfl⟩)
          go_ret
          exact ⟨ret_bool (by rw [EE.out]; simp <;> omega), hB⟩
  · have EE : Hid (R = false) := Lib.hid (by
      rw [E.out]
      rw [Bool.and_eq_false_iff]
      left
      simp only [allB, List.all_cons, List.all_nil, id, Bool.and_true]
      cases h1 : btw left.length 1 4
      · rfl
      · cases h2 : btw right.length 1 4
        · rfl
        · cases h3 : btw lkeys.length 1 4
          · rfl
          · cases h4 : btw rkeys.length 1 4
            · rfl
            · exact absurd ⟨h1, h2, h3, h4⟩ hall)
    clear E
    cases h1 : btw left.length 1 4
    · clear hall
      go_enter Tryd.func52, Tryd.ntmps52
      go_wp2_with (go_at_call 49; refine (within_any _ _ _ _).mono ?_; rintro e w' ⟨rfl, rfl⟩)
      go_ret
      exact ⟨ret_bool (by rw [EE.out]; rfl), hB⟩
    · cases h2 : btw right.length 1 4
      · clear hall
        go_enter Tryd.func52, Tryd.ntmps52
        go_wp2_with (go_at_call 49; refine (within_any _ _ _ _).mono ?_; rintro e w' ⟨rfl, rfl⟩)
        go_ret
        exact ⟨ret_bool (by rw [EE.out]; rfl), hB⟩
      · cases h3 : btw lkeys.length 1 4
        · clear hall
          go_enter Tryd.func52, Tryd.ntmps52
          go_wp2_with (go_at_call 49; refine (within_any _ _ _ _).mono ?_; rintro e w' ⟨rfl, rfl⟩)
          go_ret
          exact ⟨ret_bool (by rw [EE.out]; rfl), hB⟩
        · cases h4 : btw rkeys.length 1 4
          · clear hall
            go_enter Tryd.func52, Tryd.ntmps52
            go_wp2_with (go_at_call 49; refine (within_any _ _ _ _).mono ?_; rintro e w' ⟨rfl, rfl⟩)
            go_ret
            exact ⟨ret_bool (by rw [EE.out]; rfl), hB⟩
          · exact absurd ⟨h1, h2, h3, h4⟩ hall

/-! ### once -/
def onceB (l : List Int) : Bool := (List.range l.length).all fun i => (List.range i).all fun k => l.getD i 0 != l.getD k 0
theorem once_no {l : List Int} {i k : Nat} (hi : i < l.length) (hk : k < i) (h : l.getD i 0 = l.getD k 0) : onceB l = false := by
  unfold onceB
  rw [List.all_eq_false]
  refine ⟨i, List.mem_range.2 hi, ?_⟩
  rw [Bool.not_eq_true, List.all_eq_false]
  exact ⟨k, List.mem_range.2 hk, by rw [h]; simp⟩
theorem once_yes {l : List Int} (h : ∀ i k, i < l.length → k < i → l.getD i 0 ≠ l.getD k 0) : onceB l = true := by
  unfold onceB
  rw [List.all_eq_true]
  intro i hi
  rw [List.all_eq_true]
  intro k hk
  simpa using h i k (List.mem_range.1 hi) (List.mem_range.1 hk)

set_option maxHeartbeats 4000000 in
set_option maxRecDepth 10000 in
theorem once_any (v : Value) (l : List Int) (w : World) (h : Sl w v l.length (intCells l)) :
    Calls Tryd.prog 86 #[v] w fun e w' => e = .returned (.bool (onceB l)) ∧ Below w.heap.size w w' := by
  have HH := Lib.hid h
  obtain ⟨A, c, rfl, h1, h2, -⟩ := h
  unfold maxLen at h2
  go_enter Tryd.func86, Tryd.ntmps86
  go_wp2
  go_loopw [3, 4] (fun i _ wr => ∃ k : Nat, k ≤ l.length ∧ i = .int .i64 k ∧ Hid (∀ i j, i < k → j < i → l.getD i 0 ≠ l.getD j 0) ∧ Below w.heap.size w wr) (fun i _ _ => l.length - (intOf i).toNat)
  case atStart => exact ⟨0, by omega, rfl, fun i j h => absurd h (by omega), Below.refl _ _⟩
  case round =>
    obtain ⟨i, hi, rfl, H, hbw⟩ := hrel
    by_cases hlt : i < l.length
    · obtain ⟨b, off, rfl, -, hc⟩ := int_at HH.out rfl hlt
      have HCI := Lib.hid hc
      clear hc
      go_wp2
      go_loopw [4] (fun j wr => ∃ k : Nat, k ≤ i ∧ j = .int .i64 k ∧ Hid (∀ j, j < k → l.getD i 0 ≠ l.getD j 0) ∧ Below w.heap.size w wr) (fun j _ => i - (intOf j).toNat)
      case atStart => exact ⟨0, by omega, rfl, fun j h => absurd h (by omega), hbw⟩
      case round =>
        obtain ⟨k, hk, rfl, H2, hbw2⟩ := hrel
        by_cases hlk : k < i
        · have hkl : k < l.length := by omega
          obtain ⟨b', off', hA, -, hc'⟩ := int_at HH.out rfl hkl
          injection hA with hA
          injection hA with e1 e2
          subst e1 e2
          have d1 := HCI.out _ hbw2
          have d2 := hc' _ hbw2
          obtain ⟨x, hx⟩ : ∃ x, l.getD i 0 = x := ⟨_, rfl⟩
          rw [hx] at d1
          have HX := Lib.hid hx
          obtain ⟨y, hy⟩ : ∃ y, l.getD k 0 = y := ⟨_, rfl⟩
          rw [hy] at d2
          have HY := Lib.hid hy
          have i0 : (0 : Int) ≤ (i : Int) := by omega
          have i1 : (i : Int) < (l.length : Int) := by omega
          have k0 : (0 : Int) ≤ (k : Int) := by omega
          have k1 : (k : Int) < (l.length : Int) := by omega
          clear hy hx hc'
          cases hq : (x == y)
          · have hn : Hid (∀ j, j < k + 1 → l.getD i 0 ≠ l.getD j 0) := Lib.hid (by
              intro j hj
              rcases Nat.lt_or_ge j k with h | h
              · exact H2.out j h
              · obtain rfl : j = k := by omega
                rw [HX.out, HY.out]
                simpa using hq)
            go_wp2_with fail
            go_quiet (fail)
            go_wp2
            go_roundw
            case rel => exact ⟨k + 1, by omega, by go_num, hn, below_drewN hbw2 _⟩
            case measure => simp [intOf]; omega
          · have e1 := Lib.hid (once_no hlt hlk (by rw [HX.out, HY.out]; simpa using hq))
            go_wp2_with fail
            go_quiet (fail)
            go_wp2
            go_ret
            exact ⟨ret_bool e1.out.symm, below_drewN hbw2 _⟩
        · obtain rfl : k = i := by omega
          have hn : Hid (∀ i j, i < k + 1 → j < i → l.getD i 0 ≠ l.getD j 0) := Lib.hid (by
            intro a j ha hj
            rcases Nat.lt_or_ge a k with h | h
            · exact H.out a j h hj
            · obtain rfl : a = k := by omega
              exact H2.out j hj)
          go_wp2
          go_roundw
          case rel => exact ⟨k + 1, by omega, by go_num, hn, hbw2⟩
          case measure => simp [intOf]; omega
    · obtain rfl : i = l.length := by omega
      have e1 := Lib.hid (once_yes H.out)
      go_wp2
      go_ret
      exact ⟨ret_bool e1.out.symm, hbw⟩

end Go.Proofs.YtelmlagolmabpaaDoor
