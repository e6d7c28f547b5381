/-
  Plans: slices.Concat of two lists; typesFine; unlike.
-/
import Derived.Test.YtelmlagolmabpaaDoorPlan2
import Derived.Lib.Walk
import Derived.Lib.SliceRun
import Derived.Lib.AppendZerosOnto
import Derived.Maps.OwnOps
import Derived.Maps.Views
namespace Go.Proofs.YtelmlagolmabpaaDoor
open Go.RowKit Go.Maps

theorem intI : EInfo Tryd.prog 3 1 8 := by
  have h : (Tryd.prog.info? 3).map (fun i => (i.zero, i.size, i.bytes)) = some (some (.int .i64 0), 1, 8) := by kernel_rfl
  obtain ⟨i, hi, h1, h2, h3⟩ := info_parts h
  exact ⟨i, _, hi, h1, h2, h3, rfl, by omega⟩

set_option maxHeartbeats 4000000 in
set_option maxRecDepth 100000 in
theorem grow_nil (n : Nat) (w : World) (h1 : 1 ≤ n) (hn : n ≤ 1000) :
    Calls Tryd.prog 85 #[.slice none 0 0, .int .i64 n] w fun e w' => ∃ g G, e = .returned (.slice (some ⟨g, 0, none⟩) 0 G) ∧ w'.ownsRow w.heap.size 3 1 (.slice (some ⟨g, 0, none⟩) 0 G) 0 [] ∧ Below w.heap.size w w' := by
  have hinfo : (Tryd.prog.info? 3).map (fun i => (i.zero, i.size, i.bytes)) = some (some (.int .i64 0), 1, 8) := by kernel_rfl
  obtain ⟨i0, hi0, hz0, hs0, hb0⟩ := info_parts hinfo
  have hold : (Builtin.firstCells i0.size 0 (.slice none 0 0)).run Tryd.prog w.drew = .ok ([] : List Value).toArray w.drew := by
    exact run_firstCells_none w.drew i0.size 0 0 0
  have hrz : ∀ ty, (Builtin.append_ #[22, 3] ty #[.slice none 0 0, .int .i64 (n : Int)]).run Tryd.prog w =
      .ok (.slice (some ⟨w.heap.size, 0, none⟩) (0 + n) (grownCap w (0 + n) 0 3)) (w.drew.alloc (.cells (([] : List Value).toArray ++ Builtin.zeroCells (Value.int .i64 0).cells n ++ Builtin.zeroCells (Value.int .i64 0).cells (grownCap w (0 + n) 0 3 - (0 + n))) 3)) := fun ty => by
    exact Lib.run_append_grow_zeros w 22 3 ty 3 i0 (.int .i64 0) .i64 .i64 Tryd.underlying22 Tryd.underlying3 hi0 hz0 none 0 0 [] hold n (by omega) (by omega) (by omega) (by omega)
      (by rw [hb0]; omega)
      (growslice_fits (by omega) (by rw [hb0]; omega))
  have hGn : 0 + n ≤ grownCap w (0 + n) 0 3 := grownCap_ge w _ _ _
  have hG63 := grownCap_le_maxLen w (0 + n) 0 3 (by unfold maxLen; omega)
  rw [Nat.zero_add] at hrz hGn hG63
  generalize grownCap w n 0 3 = G at hrz hGn hG63
  have HG := Lib.hid hG63
  have hsz : (([] : List Value).toArray ++ Builtin.zeroCells (Value.int .i64 0).cells n ++ Builtin.zeroCells (Value.int .i64 0).cells (G - n)).size = G := by
    simp [Builtin.zeroCells, Value.cells]; omega
  generalize ([] : List Value).toArray ++ Builtin.zeroCells (Value.int .i64 0).cells n ++ Builtin.zeroCells (Value.int .i64 0).cells (G - n) = cur at hrz hsz
  have HZ := Lib.hid hsz
  clear hsz hold hinfo hi0 hz0 hs0 hb0
  unfold maxLen at hG63
  go_enter Tryd.func85, Tryd.ntmps85
  go_wp2_with (at_builtin; refine Lib.wpList_append_run _ rfl _ _ _ _ rfl _ _ rfl rfl _ _ (hrz _) ?_)
  all_goals
    go_ret
    refine ⟨_, G, rfl, ⟨rfl, .inr ⟨_, G, cur, rfl, Nat.le_refl _, ?_, Nat.zero_le _, HG.out, by rw [HZ.out]; omega, by simp⟩⟩, ?_⟩
    · exact heap_alloc_new w.drew _
    · exact (Below.refl _ _).drew.alloc (Nat.le_refl _) _

/-! ### slices.Concat of two -/
def catTo (a b : List Int) : Nat → List Int
  | 0 => []
  | 1 => a
  | _ => a ++ b
theorem intCells_app (a b : List Int) : intCells (a ++ b) = intCells a ++ intCells b := List.map_append
theorem intCells_len (a : List Int) : (intCells a).length = a.length := List.length_map _
theorem intCells_one (a : List Int) : ∀ u ∈ intCells a, u.oneCell' = true := by
  intro u hu
  obtain ⟨b, -, rfl⟩ := List.mem_map.1 hu
  rfl

set_option maxHeartbeats 4000000 in
set_option maxRecDepth 10000 in
theorem concat_any (v va vb : Value) (a b : List Int) (w : World) (hv : Sl w v 2 [va, vb]) (ha : Sl w va a.length (intCells a)) (hb : Sl w vb b.length (intCells b)) (h1 : 1 ≤ a.length + b.length) (h2 : a.length + b.length ≤ 1000) :
    Calls Tryd.prog 48 #[v] w fun e w' => ∃ v', e = .returned v' ∧ Sl w' v' (a ++ b).length (intCells (a ++ b)) ∧ (∀ k, v'.ownBlock = some k → w.heap.size ≤ k) ∧ Below w.heap.size w w' := by
  have HA := Lib.hid ha
  have HB := Lib.hid hb
  obtain ⟨A, c, rfl, q1, q2, -, q3⟩ := hv
  obtain ⟨g, off, rfl, hc⟩ := q3 (by simp)
  have z0 : w.cell? ⟨g, off, none⟩ = some va := hc 0 va rfl
  have z1 : w.cell? ⟨g, off + 1, none⟩ = some vb := hc 1 vb rfl
  obtain ⟨A0, c0, rfl, n0, m0, -⟩ := ha
  obtain ⟨A1, c1, rfl, n1, m1, -⟩ := hb
  have ZB := Lib.hid (fun (W : World) (h : Below w.heap.size w W) => And.intro (cell_below h z0) (cell_below h z1))
  unfold maxLen at m0 m1 q2
  clear hc
  go_enter Tryd.func48, Tryd.ntmps48
  go_wp2
  go_loop [3, 5, 11] (fun s _ i => ∃ k : Nat, k ≤ 2 ∧ i = .int .i64 k ∧ s = .int .i64 ((catTo a b k).length : Nat)) (fun _ _ i => 2 - (intOf i).toNat)
  case atStart => exact ⟨0, by omega, rfl, rfl⟩
  case round =>
    obtain ⟨k, hk, rfl, rfl⟩ := hrel
    have hk3 : k = 0 ∨ k = 1 ∨ k = 2 := by omega
    rcases hk3 with rfl | rfl | rfl
    · have e : ((catTo a b 0).length : Int) = 0 := rfl
      rw [e]
      clear e
      go_wp2
      go_round
      case rel => exact ⟨1, by omega, by go_num, by simp [catTo]⟩
      case measure => simp [intOf]
    · have e : (catTo a b 1).length = a.length := rfl
      rw [e]
      go_wp2
      go_round
      case rel => exact ⟨2, by omega, by go_num, by simp [catTo]⟩
      case measure => simp [intOf]
    · have e : (catTo a b 2).length = a.length + b.length := by simp [catTo]
      rw [e]
      clear e
      generalize hn : a.length + b.length = n at h1 h2
      have HN := Lib.hid hn
      clear hn
      go_wp2_with fail
      refine (grow_nil n _ h1 h2).mono ?_
      rintro e w1 ⟨g1, G, rfl, hown1, hb1⟩
      have HO := Lib.hid hown1
      clear hown1 z0 z1
      go_wp2_with fail
      go_loopw [6, 8, 27] (fun t _ i wr => ∃ (k : Nat) (u : Value), u = t ∧ k ≤ 2 ∧ i = .int .i64 k ∧ wr.ownsRow w.heap.size 3 1 u (catTo a b k).length (intCells (catTo a b k)) ∧ Below w.heap.size w wr) (fun _ _ i _ => 2 - (intOf i).toNat)
      case atStart => exact ⟨0, _, rfl, by omega, rfl, HO.out, hb1⟩
      case round =>
        obtain ⟨k, u, rfl, hk, rfl, hown, hbw⟩ := hrel
        obtain ⟨z0, z1⟩ := ZB.out _ hbw
        obtain ⟨Au, cu, hu, -⟩ := Sl.of_own hown
        have hk3 : k = 0 ∨ k = 1 ∨ k = 2 := by omega
        rcases hk3 with rfl | rfl | rfl
        · subst hu
          go_wp2_with (at_builtin; refine wpList_app rfl (.tmp 31) (.tmp 32) 22 rfl w.heap.size 3 1 8 Tryd.underlying22 intI _ (catTo a b 0).length _ rfl hown _ a.length (intCells a) rfl (HA.out.below hbw) (by rw [intCells_len]; omega) (intCells_one a) ?_ ?_ ?_ ?_)
          · have := HN.out; unfold maxLen; simp [catTo]; omega
          · have := HN.out; simp [catTo]; omega
          · exact hbw.size
          · intro v2 w3 hown3 hg3 hat3
            have hbw3 := below_grown hbw hg3 (own_ge hown)
            have O3 : Hid (w3.ownsRow w.heap.size 3 1 v2 (catTo a b 1).length (intCells (catTo a b 1))) := by
              have e : (catTo a b 0).length + a.length = (catTo a b 1).length := by simp [catTo]
              rw [e] at hown3
              exact hown3
            clear hown3 hg3 hat3 hown
            go_wp2
            go_roundw
            case rel => exact ⟨1, _, rfl, by omega, by go_num, O3.out, hbw3⟩
            case measure => simp [intOf]
        · subst hu
          go_wp2_with (at_builtin; refine wpList_app rfl (.tmp 31) (.tmp 32) 22 rfl w.heap.size 3 1 8 Tryd.underlying22 intI _ (catTo a b 1).length _ rfl hown _ b.length (intCells b) rfl (HB.out.below hbw) (by rw [intCells_len]; omega) (intCells_one b) ?_ ?_ ?_ ?_)
          · have := HN.out; unfold maxLen; simp [catTo]; omega
          · have := HN.out; simp [catTo]; omega
          · exact hbw.size
          · intro v2 w3 hown3 hg3 hat3
            have hbw3 := below_grown hbw hg3 (own_ge hown)
            have O3 : Hid (w3.ownsRow w.heap.size 3 1 v2 (catTo a b 2).length (intCells (catTo a b 2))) := by
              have e : (catTo a b 1).length + b.length = (catTo a b 2).length := by simp [catTo]
              rw [e, ← intCells_app] at hown3
              exact hown3
            clear hown3 hg3 hat3 hown
            go_wp2
            go_roundw
            case rel => exact ⟨2, _, rfl, by omega, by go_num, O3.out, hbw3⟩
            case measure => simp [intOf]
        · have HO2 := Lib.hid hown
          clear hown hu
          go_wp2
          go_ret
          exact ⟨_, rfl, Sl.of_own HO2.out, own_ge HO2.out, hbw⟩

/-! ### typesFine -/
set_option maxHeartbeats 400000 in
set_option maxRecDepth 10000 in
theorem typeOne_any (n : Int) (w : World) : Calls Tryd.prog 91 #[.int .i64 n] w fun e w' => e = .returned (.bool (btw n 1 3)) ∧ w = w' := by
  go_enter Tryd.func91, Tryd.ntmps91
  go_wp2_with (go_at_call 87; refine (between_any _ _ _ _).mono ?_; rintro e w' ⟨rfl, rfl⟩)
  go_ret
  exact ⟨rfl, rfl⟩
set_option maxHeartbeats 1000000 in
set_option maxRecDepth 10000 in
theorem allTypes_any (v : Value) (l : List Int) (w : World) (h : Sl w v l.length (intCells l)) :
    Calls Tryd.prog 90 #[v, .func (.func 91) #[] #[]] w fun e w' => e = .returned (.bool (allB (fun n => btw n 1 3) l)) ∧ w = w' := by
  have HH := Lib.hid h
  obtain ⟨A, c, rfl, h1, h2, -⟩ := h
  unfold maxLen at h2
  go_enter Tryd.func90, Tryd.ntmps90
  go_wp2
  go_loop [6, 9] (fun _ i => ∃ k : Nat, k ≤ l.length ∧ i = .int .i64 k ∧ Hid (∀ x ∈ l.take k, btw x 1 3 = true)) (fun _ i => l.length - (intOf i).toNat)
  case atStart => exact ⟨0, by omega, rfl, by simp [Hid]⟩
  case round =>
    obtain ⟨k, hk, rfl, H⟩ := hrel
    by_cases hlt : k < l.length
    · obtain ⟨b, off, rfl, -, hc⟩ := int_at HH.out rfl hlt
      have c1 := hc w (Below.refl _ _)
      have hg : l[k]? = some (l.getD k 0) := by simp [hlt]
      generalize l.getD k 0 = n at c1 hg
      have HX := Lib.hid hg
      clear hg hc
      cases hq : btw n 1 3
      · have e1 := Lib.hid (all_no (f := fun n => btw n 1 3) HX.out hq)
        go_wp2_with (go_at_call 91; refine (typeOne_any n _).mono ?_; rintro e w1 ⟨rfl, rfl⟩)
        go_ret
        exact ⟨ret_bool e1.out.symm, rfl⟩
      · have e1 := Lib.hid (all_step (f := fun n => btw n 1 3) H.out HX.out hq)
        go_wp2_with (go_at_call 91; refine (typeOne_any n _).mono ?_; rintro e w1 ⟨rfl, rfl⟩)
        go_round
        case rel => exact ⟨k + 1, by omega, by go_num, e1.out⟩
        case measure => simp [intOf]; omega
    · obtain rfl : k = l.length := by omega
      have e1 := Lib.hid (all_yes (f := fun n : Int => btw n 1 3) H.out)
      go_wp2
      go_ret
      exact ⟨ret_bool e1.out.symm, rfl⟩

end Go.Proofs.YtelmlagolmabpaaDoor
