/-
  The reference's SameBuffers.
-/
import Derived.Test.YteabfalklgffmaaDoorBuf9
set_option linter.unusedSimpArgs false
set_option linter.unusedVariables false
namespace Go.Proofs.YteabfalklgffmaaDoor
open Go.RowKit

def Buf.agg' (b : Buf) : Value := .agg #[.int .i64 b.limit, b.vm, b.vr]
theorem bu_runs {a b : Buf} (h : a.bu = b.bu) : a.limit = b.limit ∧ ens a.mem = ens b.mem ∧ a.runs.length = b.runs.length ∧ ∀ (k : Nat) p q, a.runs[k]? = some p → b.runs[k]? = some q → ens p.2 = ens q.2 := by
  unfold Buf.bu at h
  injection h with h1 h2 h3
  refine ⟨h1, h2, ?_, fun k p q hp hq => ?_⟩
  · have := congrArg List.length h3
    simpa using this
  · have e1 : (a.runs.map fun p => ens p.2)[k]? = some (ens p.2) := by rw [List.getElem?_map, hp]; rfl
    have e2 : (b.runs.map fun p => ens p.2)[k]? = some (ens q.2) := by rw [List.getElem?_map, hq]; rfl
    rw [h3, e2] at e1
    injection e1 with e1
    exact e1.symm

set_option maxHeartbeats 8000000 in
set_option maxRecDepth 10000 in
theorem sameBuffers_any (a b : Buf) (w : World) (ha : a.ok w) (hb : b.ok w) (hab : a.bu = b.bu) :
    Calls Tryd.prog 11 #[a.agg', b.agg'] w fun e w' => e = .returned (.bool true) ∧ Below w.heap.size w w' := by
  obtain ⟨hl, hm, hn, hr⟩ := bu_runs hab
  have HA := Lib.hid ha
  have HB := Lib.hid hb
  have HM := Lib.hid hm
  have HR := Lib.hid hr
  have HN := Lib.hid hn
  clear ha hb hab hm hr
  unfold Buf.agg'
  obtain ⟨la, vma, ma, vra, ra⟩ := a
  obtain ⟨lb, vmb, mb, vrb, rb⟩ := b
  simp only at hl hn HM HR HN ⊢
  subst hl
  obtain ⟨A1, c1, e1, ha1, ha2, -⟩ := id HA.out.sl
  obtain ⟨A2, c2, e2, hb1, hb2, -⟩ := id HB.out.sl
  simp only at e1 e2 ha1 ha2 hb1 hb2
  subst e1 e2
  obtain ⟨A3, c3, e3, -⟩ := id HA.out.mem.sl
  obtain ⟨A4, c4, e4, -⟩ := id HB.out.mem.sl
  simp only at e3 e4
  subst e3 e4
  unfold maxLen at ha2 hb2
  have B0 := new_first w 25 #[.int .i64 la, .slice A3 ma.length c3, .slice A1 ra.length c1] (.cells #[.int .i64 la, .slice A4 mb.length c4, .slice A2 rb.length c2] 25)
  have B1 := new_second w 25 #[.int .i64 la, .slice A4 mb.length c4, .slice A2 rb.length c2] (.cells #[.int .i64 la, .slice A3 ma.length c3, .slice A1 ra.length c1] 25)
  have HK0 := Lib.hid B0
  have HK1 := Lib.hid B1
  have hB := below_trans (below_alloc w (.cells #[.int .i64 la, .slice A3 ma.length c3, .slice A1 ra.length c1] 25)) (below_alloc _ (.cells #[.int .i64 la, .slice A4 mb.length c4, .slice A2 rb.length c2] 25))
  have hll : (la != la) = false := by simp
  have hnn : ((ra.length : Int) != (rb.length : Int)) = false := by simp [hn]
  clear hn
  go_enter Tryd.func11, Tryd.ntmps11
  go_wp2_with fail
  refine (sameEntries_any _ _ ma mb _ (HA.out.mem.below hB) (HB.out.mem.below hB) HM.out).mono ?_
  rintro e w1 ⟨rfl, hb1'⟩
  have hbw := below_trans hB hb1'
  have HK2 := Lib.hid (HK0.out.below hb1')
  have HK3 := Lib.hid (HK1.out.below hb1')
  have y0 := HK2.out.cell 2 _ rfl
  have y1 := HK3.out.cell 2 _ rfl
  clear B0 B1 HK0 HK1 hb1'
  go_wp2_with fail
  go_loopw [5] (fun i wr => ∃ k : Nat, k ≤ ra.length ∧ i = .int .i64 k ∧ Hid (Blk wr w.heap.size 25 #[.int .i64 la, .slice A3 ma.length c3, .slice A1 ra.length c1]) ∧ Hid (Blk wr (w.heap.size + 1) 25 #[.int .i64 la, .slice A4 mb.length c4, .slice A2 rb.length c2]) ∧ Below w.heap.size w wr) (fun i _ => ra.length - (intOf i).toNat)
  case atStart => exact ⟨0, by omega, rfl, HK2, HK3, hbw⟩
  case round =>
    clear y0 y1 HK2 HK3 hbw
    obtain ⟨k, hk, rfl, HK0, HK1, hbw⟩ := hrel
    have y0 := HK0.out.cell 2 _ rfl
    have y1 := HK1.out.cell 2 _ rfl
    by_cases hlt : k < ra.length
    · have hltb : k < rb.length := by have := HN.out; omega
      have hx := List.getElem?_eq_getElem (l := ra) hlt
      generalize ra[k] = p at hx
      have hy := List.getElem?_eq_getElem (l := rb) hltb
      generalize rb[k] = q at hy
      have HE := Lib.hid (HR.out k p q hx hy)
      obtain ⟨g, off, rfl, -, hc⟩ := one_at HA.out.sl rfl (k := k) (u := p.1) (by rw [List.getElem?_map, hx]; rfl)
      obtain ⟨g', off', rfl, -, hc'⟩ := one_at HB.out.sl rfl (k := k) (u := q.1) (by rw [List.getElem?_map, hy]; rfl)
      have HP := Lib.hid (HA.out.runs p (List.mem_of_getElem? hx))
      have HQ := Lib.hid (HB.out.runs q (List.mem_of_getElem? hy))
      have HC := Lib.hid hc
      have HC' := Lib.hid hc'
      clear hx hy hc hc'
      obtain ⟨pv, pl⟩ := p
      obtain ⟨qv, ql⟩ := q
      simp only at HP HQ HE HC HC'
      obtain ⟨A5, c5, rfl, -⟩ := id HP.out.sl
      obtain ⟨A6, c6, rfl, -⟩ := id HQ.out.sl
      have d0 := HC.out _ hbw
      have d1 := HC'.out _ hbw
      have k0 : (0 : Int) ≤ (k : Int) := by omega
      have k1 : (k : Int) < (ra.length : Int) := by omega
      have k2 : (k : Int) < (rb.length : Int) := by omega
      go_wp2_with fail
      go_region_held3 (fun w' => w'.cell? ⟨w.heap.size, 2, none⟩ = some (.slice (some ⟨g, off, none⟩) ra.length c1) ∧ w'.cell? ⟨w.heap.size + 1, 2, none⟩ = some (.slice (some ⟨g', off', none⟩) rb.length c2) ∧ w'.cell? ⟨g, off + k, none⟩ = some (.slice A5 pl.length c5) ∧ w'.cell? ⟨g', off' + k, none⟩ = some (.slice A6 ql.length c6))
        (first | go_keep | exact ⟨y0, y1, d0, d1⟩ | exact z)
        ((go_at_call 16
          refine (sameEntries_any _ _ pl ql _ ((HP.out.below hbw).drew) ((HQ.out.below hbw).drew) HE.out).mono ?_
          rintro e w2 ⟨rfl, hb2⟩
          have hbw2 := below_trans hbw.drew hb2
          have HK4 := Lib.hid (HK0.out.drew.below hb2)
          have HK5 := Lib.hid (HK1.out.drew.below hb2)
          have z := And.intro (HK4.out.cell 2 _ rfl) (And.intro (HK5.out.cell 2 _ rfl) (And.intro (HC.out _ hbw2) (HC'.out _ hbw2)))))
      all_goals
        go_wp2
        go_roundw
        case rel => exact ⟨k + 1, by omega, by go_num, HK4, HK5, hbw2⟩
        case measure => simp [intOf]; omega
    · obtain rfl : k = ra.length := by omega
      go_wp2
      go_ret
      exact ⟨rfl, hbw⟩

end Go.Proofs.YteabfalklgffmaaDoor
