/-
  The reference's rises, SameEntries and SameBuffers.
-/
import Derived.Test.YteabfalklgffmaaDoorBufM7
import Derived.Test.YteabfalklgffmaaDoorBufM6
set_option linter.unusedSimpArgs false
set_option linter.unusedVariables false
namespace Go.Proofs.YteabfalklgffmaaDoor
open Go.RowKit

theorem up_bad {l : List En} {k : Nat} {x y : En} (hx : l[k]? = some x) (hy : l[k + 1]? = some y) (h : ¬ cmpE x y < 0) : upB l = false := by
  cases hb : upB l with
  | false => rfl
  | true =>
    have hU := upB_iff.1 hb
    obtain ⟨h1, e1⟩ := List.getElem?_eq_some_iff.1 hx
    obtain ⟨h2, e2⟩ := List.getElem?_eq_some_iff.1 hy
    have := List.pairwise_iff_getElem.1 hU k (k + 1) h1 h2 (by omega)
    rw [e1, e2] at this
    exact absurd this h
theorem up_all {l : List En} (h : ∀ j, j + 1 < l.length → upAt l j = true) : upB l = true := by
  unfold upB
  rw [List.all_eq_true]
  intro k hk
  by_cases h1 : k + 1 < l.length
  · exact h k h1
  · unfold upAt
    rw [List.getElem?_eq_none (l := l) (i := k + 1) (by omega)]
    cases l[k]? <;> rfl

set_option maxHeartbeats 4000000 in
set_option maxRecDepth 10000 in
theorem rises_any (v : Value) (l : List Ent) (w : World) (h : Ents w v l) :
    Calls Tryd.prog 27 #[v] w fun e w' => e = .returned (.bool (upB (ens l))) ∧ Below w.heap.size w w' := by
  have HV := Lib.hid h
  obtain ⟨A, c, rfl, h1, h2, -⟩ := id h.sl
  unfold maxLen at h2
  have HPL := Lib.hid (fun (a b : Ent) (w' : World) => place_ent a b w')
  clear h
  unfold Ent.agg at HPL
  go_enter Tryd.func27, Tryd.ntmps27
  go_wp2_with fail
  go_loopw [3] (fun i wr => ∃ k : Nat, (k + 1 ≤ l.length ∨ k = 0) ∧ i = .int .i64 ((k : Int) + 1) ∧ Hid (∀ j, j < k → upAt (ens l) j = true) ∧ Below w.heap.size w wr) (fun i _ => l.length + 1 - (intOf i).toNat)
  case atStart => exact ⟨0, .inr rfl, rfl, Lib.hid (fun j hj => by omega), Below.refl _ _⟩
  case round =>
    obtain ⟨k, hk, rfl, HA, hbw⟩ := hrel
    by_cases hlt : k + 1 < l.length
    · have hx := List.getElem?_eq_getElem (l := l) (i := k) (by omega)
      have hy := List.getElem?_eq_getElem (l := l) hlt
      generalize l[k] = x at hx
      generalize l[k + 1] = y at hy
      obtain ⟨g, off, rfl, -, hc⟩ := ent_at HV.out.sl rfl hx
      obtain ⟨g', off', hA', -, hc'⟩ := ent_at HV.out.sl rfl hy
      injection hA' with hA'
      injection hA' with q1 q2
      subst q1 q2
      have HC := Lib.hid hc
      have HC' := Lib.hid hc'
      have HX := Lib.hid (ens_at hx)
      have HY := Lib.hid (ens_at hy)
      have HO := Lib.hid (fun w' => HPL.out x y w')
      clear hc hc' hx hy
      have hwk : IntKind.i64.wrap ((k : Int) + 1 + 1) = (k : Int) + 1 + 1 := by rw [IntKind.wrap_i64]; omega
      have hwm : IntKind.i64.wrap ((k : Int) + 1 - 1) = (k : Int) := by rw [IntKind.wrap_i64]; omega
      have hw0 : IntKind.i64.wrap (k : Int) = (k : Int) := by rw [IntKind.wrap_i64]; omega
      have m0 : (0 : Int) ≤ (k : Int) := by omega
      have m4 : (0 : Int) ≤ (k : Int) + 1 := by omega
      have m1 : (k : Int) < (l.length : Int) := by omega
      have m2 : (k : Int) + 1 < (l.length : Int) := by omega
      have m3 : ((k : Int) + 1).toNat = k + 1 := by omega
      obtain ⟨d0, d1, d2, d3, d4⟩ := HC.out _ hbw
      obtain ⟨x0, x1, x2, x3, x4⟩ := HC'.out _ hbw
      go_wp2_with fail
      go_region_held3 (fun w' => w'.cell? ⟨g, off + k * 5, none⟩ = some (.string (str x.e.key)) ∧ w'.cell? ⟨g, off + k * 5 + 1, none⟩ = some (.int .i64 x.e.t) ∧ w'.cell? ⟨g, off + k * 5 + 2, none⟩ = some (.int .i64 x.e.s) ∧ w'.cell? ⟨g, off + k * 5 + 3, none⟩ = some x.v ∧ w'.cell? ⟨g, off + k * 5 + 4, none⟩ = some (.bool x.e.met) ∧ w'.cell? ⟨g, off + (k + 1) * 5, none⟩ = some (.string (str y.e.key)) ∧ w'.cell? ⟨g, off + (k + 1) * 5 + 1, none⟩ = some (.int .i64 y.e.t) ∧ w'.cell? ⟨g, off + (k + 1) * 5 + 2, none⟩ = some (.int .i64 y.e.s) ∧ w'.cell? ⟨g, off + (k + 1) * 5 + 3, none⟩ = some y.v ∧ w'.cell? ⟨g, off + (k + 1) * 5 + 4, none⟩ = some (.bool y.e.met))
        (first | go_keep | exact ⟨d0, d1, d2, d3, d4, x0, x1, x2, x3, x4⟩ | exact z)
        ((go_at_call 37
          refine (HO.out _).mono ?_
          rintro e w2 ⟨rfl, hb2⟩
          have hbw2 := below_trans hbw.drew hb2
          obtain ⟨e0, e1, e2, e3, e4⟩ := HC.out _ hbw2
          obtain ⟨f0, f1, f2, f3, f4⟩ := HC'.out _ hbw2
          have z := And.intro e0 (And.intro e1 (And.intro e2 (And.intro e3 (And.intro e4 (And.intro f0 (And.intro f1 (And.intro f2 (And.intro f3 (f4)))))))))))
      all_goals
        clear z d0 d1 d2 d3 d4 x0 x1 x2 x3 x4 e0 e1 e2 e3 e4 f0 f1 f2 f3 f4
        by_cases hz : cmpE x.e y.e < 0
        · have hz' : ¬ 0 ≤ cmpE x.e y.e := by omega
          have HA2 : Hid (∀ j, j < k + 1 → upAt (ens l) j = true) := Lib.hid fun j hj => by
            by_cases e : j = k
            · subst e
              unfold upAt
              rw [HX.out, HY.out]
              exact decide_eq_true hz
            · exact HA.out j (by omega)
          go_wp2
          go_roundw
          case rel => exact ⟨k + 1, by omega, by go_num, HA2.out, hbw2⟩
          case measure => simp [intOf]; omega
        · have hz' : 0 ≤ cmpE x.e y.e := by omega
          have EE := Lib.hid (up_bad HX.out HY.out hz)
          go_wp2
          go_ret
          exact ⟨by rw [EE.out]; rfl, hbw2⟩
    · have EE := Lib.hid (up_all (l := ens l) fun j hj => HA.out j (by rw [ens_len] at hj; omega))
      have hn : ¬ (k : Int) + 1 < (l.length : Int) := by omega
      go_wp2
      go_ret
      exact ⟨by rw [EE.out]; rfl, hbw⟩

theorem ens_sames {a b : List Ent} (h : ens a = ens b) : a.length = b.length := by
  have := congrArg List.length h
  rwa [ens_len, ens_len] at this
theorem ens_both {a b : List Ent} (h : ens a = ens b) {k : Nat} {x y : Ent} (ha : a[k]? = some x) (hb : b[k]? = some y) : x.e = y.e := by
  have h1 := ens_at ha
  rw [h, ens_at hb] at h1
  injection h1 with h1
  exact h1.symm

set_option maxHeartbeats 8000000 in
set_option maxRecDepth 10000 in
theorem sameEntries_any (va vb : Value) (a b : List Ent) (w : World) (ha : Ents w va a) (hb : Ents w vb b) (hab : ens a = ens b) :
    Calls Tryd.prog 16 #[va, vb] w fun e w' => e = .returned (.bool true) ∧ Below w.heap.size w w' := by
  have HA := Lib.hid ha
  have HB := Lib.hid hb
  have HAB := Lib.hid hab
  have hlen := ens_sames hab
  obtain ⟨A, c, rfl, h1, h2, -⟩ := id ha.sl
  obtain ⟨A2, c2, rfl, h3, h4, -⟩ := id hb.sl
  have HPL := Lib.hid (fun (a b : Ent) (w' : World) => place_ent a b w')
  unfold Ent.agg at HPL
  clear ha hb hab
  unfold maxLen at h2 h4
  have b2 : ((a.length : Int) == (b.length : Int)) = true := by simp [hlen]
  have b2' : ((a.length : Int) != (b.length : Int)) = false := by simp [hlen]
  have HLEN := Lib.hid hlen
  clear hlen
  go_enter Tryd.func16, Tryd.ntmps16
  go_wp2_with fail
  go_loopw [5] (fun i wr => ∃ k : Nat, k ≤ a.length ∧ i = .int .i64 k ∧ Below w.heap.size w wr) (fun i _ => a.length - (intOf i).toNat)
  case atStart => exact ⟨0, by omega, rfl, Below.refl _ _⟩
  case round =>
    obtain ⟨k, hk, rfl, hbw⟩ := hrel
    by_cases hlt : k < a.length
    · have hltb : k < b.length := by have := HLEN.out; omega
      have hx := List.getElem?_eq_getElem (l := a) hlt
      generalize a[k] = x at hx
      have hy := List.getElem?_eq_getElem (l := b) hltb
      generalize b[k] = y at hy
      have he := ens_both HAB.out hx hy
      obtain ⟨g, off, rfl, -, hc⟩ := ent_at HA.out.sl rfl hx
      obtain ⟨g', off', rfl, -, hc'⟩ := ent_at HB.out.sl rfl hy
      have HRX := Lib.hid (HA.out.rows x (List.mem_of_getElem? hx))
      have HRY := Lib.hid (HB.out.rows y (List.mem_of_getElem? hy))
      have HO := Lib.hid (fun w' => HPL.out x y w')
      have HZ := Lib.hid (show cmpE x.e y.e = 0 from by rw [he]; exact cmpE_zero.2 ⟨rfl, rfl, rfl⟩)
      rw [HZ.out] at HO
      obtain ⟨xv, xe⟩ := x
      obtain ⟨yv, ye⟩ := y
      simp only at hc hc' HRX HRY HO he
      subst he
      have HC := Lib.hid hc
      have HC' := Lib.hid hc'
      clear hc hc' hx hy HZ
      obtain ⟨Ax, cx, rfl, -⟩ := id HRX.out
      obtain ⟨Ay, cy, rfl, -⟩ := id HRY.out
      have k0 : (0 : Int) ≤ (k : Int) := by omega
      have k1 : (k : Int) < (a.length : Int) := by omega
      have k2 : (k : Int) < (b.length : Int) := by have := HLEN.out; omega
      have hmm : (xe.met != xe.met) = false := by simp
      obtain ⟨d0, d1, d2, d3, d4⟩ := HC.out _ hbw
      obtain ⟨x0, x1, x2, x3, x4⟩ := HC'.out _ hbw
      go_wp2_with fail
      go_region_held3 (fun w' => w'.cell? ⟨g, off + k * 5, none⟩ = some (.string (str xe.key)) ∧ w'.cell? ⟨g, off + k * 5 + 1, none⟩ = some (.int .i64 xe.t) ∧ w'.cell? ⟨g, off + k * 5 + 2, none⟩ = some (.int .i64 xe.s) ∧ w'.cell? ⟨g, off + k * 5 + 3, none⟩ = some (.slice Ax xe.r.length cx) ∧ w'.cell? ⟨g, off + k * 5 + 4, none⟩ = some (.bool xe.met) ∧ w'.cell? ⟨g', off' + k * 5, none⟩ = some (.string (str xe.key)) ∧ w'.cell? ⟨g', off' + k * 5 + 1, none⟩ = some (.int .i64 xe.t) ∧ w'.cell? ⟨g', off' + k * 5 + 2, none⟩ = some (.int .i64 xe.s) ∧ w'.cell? ⟨g', off' + k * 5 + 3, none⟩ = some (.slice Ay xe.r.length cy) ∧ w'.cell? ⟨g', off' + k * 5 + 4, none⟩ = some (.bool xe.met))
        (first | go_keep | exact ⟨d0, d1, d2, d3, d4, x0, x1, x2, x3, x4⟩ | exact z | exact z2)
        (first
          | (go_at_call 37
             refine (HO.out _).mono ?_
             rintro e w2 ⟨rfl, hb2⟩
             have hbw2 := below_trans hbw.drew hb2
             obtain ⟨e0, e1, e2, e3, e4⟩ := HC.out _ hbw2
             obtain ⟨f0, f1, f2, f3, f4⟩ := HC'.out _ hbw2
             have z := And.intro e0 (And.intro e1 (And.intro e2 (And.intro e3 (And.intro e4 (And.intro f0 (And.intro f1 (And.intro f2 (And.intro f3 (f4))))))))))
          | (go_at_call 38
             refine (same_any _ _ xe.r xe.r _ (HRX.out.below hbw2) (HRY.out.below hbw2)).mono ?_
             rw [(sameR_iff xe.r xe.r).2 rfl]
             rintro e w3 ⟨rfl, hb3⟩
             have hbw3 := below_trans hbw2 hb3
             obtain ⟨e0, e1, e2, e3, e4⟩ := HC.out _ hbw3
             obtain ⟨f0, f1, f2, f3, f4⟩ := HC'.out _ hbw3
             have z2 := And.intro e0 (And.intro e1 (And.intro e2 (And.intro e3 (And.intro e4 (And.intro f0 (And.intro f1 (And.intro f2 (And.intro f3 (f4)))))))))))
      all_goals
        go_wp2
        go_roundw
        case rel => exact ⟨k + 1, by omega, by go_num, hbw3⟩
        case measure => simp [intOf]; omega
    · obtain rfl : k = a.length := by omega
      go_wp2
      go_ret
      exact ⟨rfl, hbw⟩

end Go.Proofs.YteabfalklgffmaaDoor
