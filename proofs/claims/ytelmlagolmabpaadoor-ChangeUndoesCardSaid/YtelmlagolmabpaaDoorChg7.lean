/-
  The reference's Own; SameViews.
-/
import Derived.Test.YtelmlagolmabpaaDoorChg6
set_option linter.unusedSimpArgs false
set_option linter.unusedVariables false
namespace Go.Proofs.YtelmlagolmabpaaDoor
open Go.RowKit

/-- Two views of the same rows and numbers. -/
theorem av_len {a b : List Cnt} (h : av a = av b) : a.length = b.length := by
  have := congrArg List.length h
  simpa [av] using this
theorem av_at {a b : List Cnt} (h : av a = av b) {k : Nat} {x y : Cnt} (ha : a[k]? = some x) (hb : b[k]? = some y) : x.r = y.r ∧ x.n = y.n := by
  have h1 : (av a)[k]? = some (x.r, x.n) := by unfold av; rw [List.getElem?_map, ha]; rfl
  have h2 : (av b)[k]? = some (y.r, y.n) := by unfold av; rw [List.getElem?_map, hb]; rfl
  rw [h, h2] at h1
  have := Option.some.inj h1
  exact ⟨(congrArg Prod.fst this).symm, (congrArg Prod.snd this).symm⟩

set_option maxHeartbeats 4000000 in
set_option maxRecDepth 10000 in
theorem sameViews_any (va vb : Value) (a b : List Cnt) (w : World) (ha : View w va a) (hb : View w vb b) (hab : av a = av b) :
    Calls Tryd.prog 35 #[va, vb] w fun e w' => e = .returned (.bool true) ∧ Below w.heap.size w w' := by
  have HA := Lib.hid ha
  have HB := Lib.hid hb
  have HAB := Lib.hid hab
  have hlen := av_len hab
  obtain ⟨A, c, rfl, h1, h2, -⟩ := ha.sl
  obtain ⟨A2, c2, rfl, h3, h4, -⟩ := hb.sl
  clear ha hb hab
  unfold maxLen at h2 h4
  have b2 : ((a.length : Int) == (b.length : Int)) = true := by simp [hlen]
  have b2' := bne_of b2
  simp only [Bool.not_true] at b2'
  have HLEN := Lib.hid hlen
  clear hlen
  go_enter Tryd.func35, Tryd.ntmps35
  go_wp2_with fail
  go_loopw [5] (fun i wr => ∃ k : Nat, k ≤ a.length ∧ i = .int .i64 k ∧ Below w.heap.size w wr) (fun i _ => a.length - (intOf i).toNat)
  case atStart => exact ⟨0, by omega, rfl, Below.refl _ _⟩
  case round =>
    obtain ⟨k, hk, rfl, hbw⟩ := hrel
    by_cases hlt : k < a.length
    · have hltb : k < b.length := by have := HLEN.out; omega
      have hx := List.getElem?_eq_getElem (l := a) hlt
      generalize a[k] = x at hx
      have hy := List.getElem?_eq_getElem (l := b) hltb
      generalize b[k] = y at hy
      obtain ⟨e1, e2⟩ := av_at HAB.out hx hy
      obtain ⟨g, off, rfl, -, hc⟩ := cnt_at HA.out.sl rfl hx
      obtain ⟨g', off', rfl, -, hc'⟩ := cnt_at HB.out.sl rfl hy
      have HC := Lib.hid hc
      have HC' := Lib.hid hc'
      obtain ⟨d1, d2⟩ := hc _ hbw
      obtain ⟨d3, d4⟩ := hc' _ hbw
      have HRX := Lib.hid (HA.out.rows x (List.mem_of_getElem? hx))
      have HRY := Lib.hid (HB.out.rows y (List.mem_of_getElem? hy))
      clear hx hy hc hc'
      obtain ⟨xv, xr, xn⟩ := x
      obtain ⟨yv, yr, yn⟩ := y
      simp only at d1 d2 d3 d4 HRX HRY e1 e2 HC HC'
      subst e1 e2
      obtain ⟨Ax, cx, rfl, -⟩ := id HRX.out
      obtain ⟨Ay, cy, rfl, -⟩ := id HRY.out
      have k0 : (0 : Int) ≤ (k : Int) := by omega
      have k1 : (k : Int) < (a.length : Int) := by omega
      have k2 : (k : Int) < (b.length : Int) := by have := HLEN.out; omega
      have hn : (xn != xn) = false := by simp
      go_wp2_with fail
      go_region_held3 (fun w' => w'.cell? ⟨g, off + k * 2, none⟩ = some (.slice Ax xr.length cx) ∧ w'.cell? ⟨g, off + k * 2 + 1, none⟩ = some (.int .i64 xn) ∧ w'.cell? ⟨g', off' + k * 2, none⟩ = some (.slice Ay xr.length cy) ∧ w'.cell? ⟨g', off' + k * 2 + 1, none⟩ = some (.int .i64 xn))
        (first | go_keep | exact ⟨d1, d2, d3, d4⟩ | exact z2)
        ((go_at_call 79
          refine (same_any _ _ xr xr _ ((HRX.out.below hbw).drew) ((HRY.out.below hbw).drew)).mono ?_
          rw [(sameR_iff xr xr).2 rfl]
          rintro e w2 ⟨rfl, hb2⟩
          have hbw2 := below_trans hbw.drew hb2
          have z2 := And.intro (HC.out _ hbw2).1 (And.intro (HC.out _ hbw2).2 (HC'.out _ hbw2))))
      all_goals
        go_wp2
        go_roundw
        case rel => exact ⟨k + 1, by omega, by go_num, hbw2⟩
        case measure => simp [intOf]; omega
    · obtain rfl : k = a.length := by omega
      go_wp2
      go_ret
      exact ⟨rfl, hbw⟩

end Go.Proofs.YtelmlagolmabpaaDoor
