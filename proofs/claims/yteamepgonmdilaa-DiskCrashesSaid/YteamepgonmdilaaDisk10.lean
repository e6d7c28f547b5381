/-
  Contract of the reference's CrashIn.
-/
import Derived.Test.YteamepgonmdilaaDisk9
namespace Go.Proofs.Yteamepgonmdilaa
open Go.RowKit

def mixF (cuts : List Int) (l : List Slot) (k : Nat) : List Slot := l.mapIdx fun i s => if i < k then crashS (cutAt cuts i) s else s
theorem mixF_zero (cuts : List Int) (l : List Slot) : mixF cuts l 0 = l := by
  apply List.ext_getElem?
  intro i
  simp [mixF, List.getElem?_mapIdx]
theorem mixF_full (cuts : List Int) (l : List Slot) : mixF cuts l l.length = crashF cuts l := by
  apply List.ext_getElem?
  intro i
  simp only [mixF, crashF, List.getElem?_mapIdx]
  rcases Nat.lt_or_ge i l.length with h | h
  · simp [h]
  · simp [h]
theorem mixF_len (cuts : List Int) (l : List Slot) (k : Nat) : (mixF cuts l k).length = l.length := by simp [mixF]
theorem mixF_step (cuts : List Int) (l : List Slot) (k : Nat) (x : Slot) (hk : l[k]? = some x) : ownF (mixF cuts l k) (k : Int) (crashS (cutAt cuts k) x) = mixF cuts l (k + 1) := by
  apply List.ext_getElem?
  intro i
  simp only [ownF, mixF, List.getElem?_mapIdx, Option.map_map]
  rcases Nat.lt_trichotomy i k with h | h | h
  · cases l[i]? with
    | none => rfl
    | some y => simp [h, show i < k + 1 from by omega, show ¬ (i : Int) = (k : Int) from by omega]
  · subst h
    rw [hk]
    simp
  · cases l[i]? with
    | none => rfl
    | some y => simp [show ¬ i < k from by omega, show ¬ i < k + 1 from by omega, show ¬ (i : Int) = (k : Int) from by omega]

theorem run_cut (x : ByteArray) (m : Nat) (hm : m ≤ x.size) (W : World) : (Instr.slice 9 (.string x) none (some (.int .i64 (m : Int))) none).run Try.prog W = .ok (.string (x.extract 0 m)) W := by
  have h1 : (0 : Int) ≤ (m : Int) := by omega
  have h2 : (m : Int) ≤ (x.size : Int) := by omega
  go_simp
theorem run_min (ts : Array TypeId) (t : TypeId) (a b : Int) (W : World) : (Builtin.min_ ts t #[.int .i64 a, .int .i64 b]).run Try.prog W = .ok (.int .i64 (if b < a then b else a)) W := run_min_int2 ..

theorem three (w : World) (t0 t1 t2 : TypeId) (c0 c1 c2 : Array Value) :
    let W := ((w.alloc (.cells c0 t0)).alloc (.cells c1 t1)).alloc (.cells c2 t2)
    Blk W w.heap.size t0 c0 ∧ Blk W (w.heap.size + 1) t1 c1 ∧ Blk W (w.heap.size + 2) t2 c2 := by
  have a0 := ((Blk.new w t0 c0).alloc (.cells c1 t1)).alloc (.cells c2 t2)
  have a1 := (Blk.new (w.alloc (.cells c0 t0)) t1 c1).alloc (.cells c2 t2)
  have a2 := Blk.new ((w.alloc (.cells c0 t0)).alloc (.cells c1 t1)) t2 c2
  simp only [World.size_alloc] at a1 a2
  exact ⟨a0, a1, a2⟩

theorem extract_all (x : ByteArray) : x.extract 0 x.size = x := by simp
theorem crashS_zero {x : Slot} (hh : x.has = true) : crashS 0 x = ⟨ByteArray.empty, ⟨#[]⟩, false⟩ := by
  unfold crashS
  simp only [hh, Bool.true_eq_false, Int.lt_irrefl, or_self, if_false]
  by_cases h : (0 : Int) < (x.wait.size : Int)
  · rw [if_pos h]; simp
  · rw [if_neg h]
    have h0 : x.wait.size = 0 := by omega
    rw [ByteArray.size_eq_zero_iff.1 h0]

set_option maxHeartbeats 2000000 in
theorem crashIn_any (v cv : Value) (l : List Slot) (cuts : List Int) (w : World) (h : Sl w v l.length (slotCells l)) (hcv : Sl w cv cuts.length (intCells cuts)) (hl1 : 1 ≤ l.length) (hl8 : l.length ≤ 8) :
    Calls Try.prog 34 #[.agg #[v], cv] w fun e w' => ∃ v', e = .returned (.agg #[v']) ∧ Sl w' v' (crashF cuts l).length (slotCells (crashF cuts l)) ∧ Below w.heap.size w w' := by
  have HH := Lib.hid h
  have HCV := Lib.hid hcv
  obtain ⟨A, c, rfl, h1, h2, -⟩ := h
  obtain ⟨Ac, cc, rfl, h3, h4, -⟩ := hcv
  unfold maxLen at h2 h4
  have hA : ∃ b off, A = some ⟨b, off, none⟩ ∧ b < w.heap.size := by
    obtain ⟨b, off, s, hA, _, hb, _⟩ := slot_at HH.out rfl (k := 0) (by omega)
    exact ⟨b, off, hA, hb⟩
  obtain ⟨b, off, rfl, hb⟩ := hA
  have HF := Lib.hid (three w 37 37 37 #[.slice (some ⟨b, off, none⟩) l.length c] #[.slice none 0 0] #[.slice (some ⟨b, off, none⟩) l.length c])
  have hB0 : Below w.heap.size w (((w.alloc (.cells #[.slice (some ⟨b, off, none⟩) l.length c] 37)).alloc (.cells #[.slice none 0 0] 37)).alloc (.cells #[.slice (some ⟨b, off, none⟩) l.length c] 37)) :=
    below_trans (below_trans (below_alloc _ _) (below_alloc _ _)) (below_alloc _ _)
  go_enter Try.func34, Try.ntmps34
  go_wp2
  go_loopw [6, 7, 8] (fun i _ _ wr => ∃ (k : Nat) (v : Value), k ≤ l.length ∧ i = .int .i64 k ∧ Blk wr (w.heap.size + 2) 37 #[v] ∧ Sl wr v l.length (slotCells (mixF cuts l k)) ∧ (∀ g, v.ownBlock = some g → g < w.heap.size ∨ w.heap.size + 3 ≤ g) ∧
      Below (w.heap.size + 2) (((w.alloc (.cells #[.slice (some ⟨b, off, none⟩) l.length c] 37)).alloc (.cells #[.slice none 0 0] 37)).alloc (.cells #[.slice (some ⟨b, off, none⟩) l.length c] 37)) wr)
    (fun i _ _ _ => l.length - (intOf i).toNat)
  case atStart =>
    refine ⟨0, _, by omega, rfl, HF.out.2.2, ?_, ?_, Below.refl _ _⟩
    · rw [mixF_zero]; exact HH.out.below hB0
    · intro g hg; simp [Value.ownBlock] at hg; omega
  case round =>
    obtain ⟨k, v, hk, rfl, hv, hsl, hfr, hbw⟩ := hrel
    have b0 := (hbw.block _ (by omega)).trans HF.out.1
    have b1 := (hbw.block _ (by omega)).trans HF.out.2.1
    have hsz := hv.lt
    have hBw : Below w.heap.size w wr := hB0.trans (hbw.mono (by omega))
    have HFR := Lib.hid hfr
    clear hfr
    by_cases hlt : k < l.length
    · obtain ⟨A', cp, hvf, -⟩ := id hsl
      subst hvf
      have HSL := Lib.hid hsl
      clear hsl
      have x3 := fun o => (hv.alloc o).cell 0 _ rfl
      obtain ⟨b9, off9, x, hA9, hx, _, hc⟩ := slot_at HH.out rfl hlt
      injection hA9 with hA9
      injection hA9 with e9 f9
      subst e9 f9
      have x0 := Blk.cell b0 0 _ rfl
      have x0' := fun o => (Blk.alloc b0 o).cell 0 _ rfl
      have c1 := (hc _ hBw).1
      have c2 := fun o => (hc _ (hBw.alloc hBw.size o)).2.1
      have c3 := fun o => (hc _ (hBw.alloc hBw.size o)).2.2
      have HC := Lib.hid hc
      have HX := Lib.hid hx
      have HL8 : (mixF cuts l k).length ≤ 8 := by rw [mixF_len]; omega
      have k0 : (0 : Int) ≤ (k : Int) := by omega
      have k1 : (k : Int) < (l.length : Int) := by omega
      clear hx hc
      have hn : (∃ n, cutAt cuts k = n ∧ ((k < cuts.length ∧ ∃ b off, Ac = some ⟨b, off, none⟩ ∧ ∀ w', Below w.heap.size w w' → w'.cell? ⟨b, off + k, none⟩ = some (.int .i64 n)) ∨ (cuts.length ≤ k ∧ n = 0))) := by
        rcases Nat.lt_or_ge k cuts.length with hkc | hkc
        · obtain ⟨b', off', hA, _, hc'⟩ := int_at HCV.out rfl hkc
          exact ⟨_, rfl, .inl ⟨hkc, b', off', hA, hc'⟩⟩
        · exact ⟨0, by simp [cutAt, hkc], .inr ⟨hkc, rfl⟩⟩
      obtain ⟨n, hcn, hn⟩ := hn
      rcases hn with ⟨hkc, b', off', rfl, hc'⟩ | ⟨hkc, rfl⟩
      · have d1 := hc' _ hBw
        clear hc'
        cases hh : x.has
        · rw [hh] at c3
          have HT := Lib.hid (show ownF (mixF cuts l k) (k : Int) ⟨x.safe, ⟨#[]⟩, false⟩ = mixF cuts l (k + 1) from by rw [← mixF_step cuts l k x HX.out, hcn]; simp [crashS, hh])
          have HM := Lib.hid (show Sl _ (.slice A' l.length cp) (mixF cuts l k).length (slotCells (mixF cuts l k)) from by rw [mixF_len]; exact HSL.out.below (below_alloc wr (.cells #[.string x.safe, .string ⟨#[]⟩, .bool false] 57)))
          clear hcn hh
          go_wp2_with fail
          with_reducible refine (ownDisk_any _ (mixF cuts l k) (k : Int) ⟨x.safe, ⟨#[]⟩, false⟩ _ HM.out HL8).mono ?_
          rintro e w2 ⟨v2, rfl, hs2, hfr2, hb2⟩
          rw [HT.out, mixF_len] at hs2
          have y2 := (hv.alloc (.cells #[.string x.safe, .string ⟨#[]⟩, .bool false] 57)).below hb2
          have hg2 : ∀ g, v2.ownBlock = some g → w.heap.size + 3 ≤ g := fun g hg => by have := hfr2 g hg; simp at this; omega
          have HG2 := Lib.hid hg2
          have hB2 := Below.trans (hbw.alloc (by omega) (.cells #[.string x.safe, .string ⟨#[]⟩, .bool false] 57)) (hb2.mono (by simp; omega))
          clear hfr2 hg2
          have HS2 := Lib.hid hs2
          obtain ⟨A2, c2', hvf2, -⟩ := id hs2
          subst hvf2
          clear hs2
          have z3 := y2.cell 0 _ rfl
          have zf := y2.free 0
          clear x3
          go_wp2
          go_roundw
          case rel => exact ⟨k + 1, _, by omega, by go_num, y2.set_ 0 _, HS2.out.setCell (fun g hg => by have := HG2.out g hg; simp only; omega) _, fun g hg => .inr (HG2.out g hg), hB2.setCell (by simp) _⟩
          case measure => simp [intOf]; omega
        · rw [hh] at c3
          by_cases hneg : n < 0
          · have HT := Lib.hid (show ownF (mixF cuts l k) (k : Int) ⟨x.safe, ⟨#[]⟩, false⟩ = mixF cuts l (k + 1) from by rw [← mixF_step cuts l k x HX.out, hcn]; simp [crashS, hneg])
            have HM := Lib.hid (show Sl _ (.slice A' l.length cp) (mixF cuts l k).length (slotCells (mixF cuts l k)) from by rw [mixF_len]; exact HSL.out.below (below_alloc wr (.cells #[.string x.safe, .string ⟨#[]⟩, .bool false] 57)))
            clear hcn hh
            go_wp2_with fail
            with_reducible refine (ownDisk_any _ (mixF cuts l k) (k : Int) ⟨x.safe, ⟨#[]⟩, false⟩ _ HM.out HL8).mono ?_
            rintro e w2 ⟨v2, rfl, hs2, hfr2, hb2⟩
            rw [HT.out, mixF_len] at hs2
            have y2 := (hv.alloc (.cells #[.string x.safe, .string ⟨#[]⟩, .bool false] 57)).below hb2
            have hg2 : ∀ g, v2.ownBlock = some g → w.heap.size + 3 ≤ g := fun g hg => by have := hfr2 g hg; simp at this; omega
            have HG2 := Lib.hid hg2
            have hB2 := Below.trans (hbw.alloc (by omega) (.cells #[.string x.safe, .string ⟨#[]⟩, .bool false] 57)) (hb2.mono (by simp; omega))
            clear hfr2 hg2
            have HS2 := Lib.hid hs2
            obtain ⟨A2, c2', hvf2, -⟩ := id hs2
            subst hvf2
            clear hs2
            have z3 := y2.cell 0 _ rfl
            have zf := y2.free 0
            clear x3
            go_wp2
            go_roundw
            case rel => exact ⟨k + 1, _, by omega, by go_num, y2.set_ 0 _, HS2.out.setCell (fun g hg => by have := HG2.out g hg; simp only; omega) _, fun g hg => .inr (HG2.out g hg), hB2.setCell (by simp) _⟩
            case measure => simp [intOf]; omega
          · obtain ⟨m, rfl⟩ := Int.eq_ofNat_of_zero_le (show 0 ≤ n by omega)
            by_cases hlw : m < x.wait.size
            · have HT := Lib.hid (show ownF (mixF cuts l k) (k : Int) ⟨(x.wait.extract 0 m), ⟨#[]⟩, false⟩ = mixF cuts l (k + 1) from by rw [← mixF_step cuts l k x HX.out, hcn]; simp [crashS, hh, hlw, show ¬ ((m : Int) < 0) from by omega])
              have HM := Lib.hid (show Sl _ (.slice A' l.length cp) (mixF cuts l k).length (slotCells (mixF cuts l k)) from by rw [mixF_len]; exact HSL.out.below (below_alloc wr (.cells #[.string (x.wait.extract 0 m), .string ⟨#[]⟩, .bool false] 57)))
              have hmn : ∀ ts t W, (Builtin.min_ ts t #[.int .i64 (m : Int), .int .i64 (x.wait.size : Int)]).run Try.prog W = .ok (.int .i64 (m : Int)) W := fun ts t W => by rw [run_min, if_neg (by omega)]
              have hct := run_cut x.wait m (by omega)
              clear hcn hh
              go_wp2_with fail
              go_region_held3 (fun w' => w'.cell? ⟨w.heap.size, 0, none⟩ = some (.slice (some ⟨b, off, none⟩) l.length c) ∧ w'.cell? ⟨b, off + k * 3 + 1, none⟩ = some (.string x.wait))
                (first | go_keep | exact ⟨q0, q1⟩) (fail)
              go_wp2_with fail
              with_reducible refine (ownDisk_any _ (mixF cuts l k) (k : Int) ⟨(x.wait.extract 0 m), ⟨#[]⟩, false⟩ _ HM.out.drew HL8).mono ?_
              rintro e w2 ⟨v2, rfl, hs2, hfr2, hb2⟩
              rw [HT.out, mixF_len] at hs2
              have y2 := (hv.alloc (.cells #[.string (x.wait.extract 0 m), .string ⟨#[]⟩, .bool false] 57)).drew.below hb2
              have hg2 : ∀ g, v2.ownBlock = some g → w.heap.size + 3 ≤ g := fun g hg => by have := hfr2 g hg; simp at this; omega
              have HG2 := Lib.hid hg2
              have hB2 := Below.trans ((hbw.alloc (by omega) (.cells #[.string (x.wait.extract 0 m), .string ⟨#[]⟩, .bool false] 57)).drew) (hb2.mono (by simp; omega))
              clear hfr2 hg2
              have HS2 := Lib.hid hs2
              obtain ⟨A2, c2', hvf2, -⟩ := id hs2
              subst hvf2
              clear hs2
              have z3 := y2.cell 0 _ rfl
              have zf := y2.free 0
              clear x3
              go_wp2
              go_roundw
              case rel => exact ⟨k + 1, _, by omega, by go_num, y2.set_ 0 _, HS2.out.setCell (fun g hg => by have := HG2.out g hg; simp only; omega) _, fun g hg => .inr (HG2.out g hg), hB2.setCell (by simp) _⟩
              case measure => simp [intOf]; omega
            · have HT := Lib.hid (show ownF (mixF cuts l k) (k : Int) ⟨x.wait, ⟨#[]⟩, false⟩ = mixF cuts l (k + 1) from by rw [← mixF_step cuts l k x HX.out, hcn]; simp [crashS, hh, hlw, show ¬ ((m : Int) < 0) from by omega])
              have HM := Lib.hid (show Sl _ (.slice A' l.length cp) (mixF cuts l k).length (slotCells (mixF cuts l k)) from by rw [mixF_len]; exact HSL.out.below (below_alloc wr (.cells #[.string x.wait, .string ⟨#[]⟩, .bool false] 57)))
              have hmn : ∀ ts t W, (Builtin.min_ ts t #[.int .i64 (m : Int), .int .i64 (x.wait.size : Int)]).run Try.prog W = .ok (.int .i64 (x.wait.size : Int)) W := fun ts t W => by
                rw [run_min]
                split
                · rfl
                · rw [show (m : Int) = (x.wait.size : Int) from by omega]
              have hct := run_cut x.wait x.wait.size (Nat.le_refl _)
              rw [extract_all] at hct
              clear hcn hh
              go_wp2_with fail
              go_region_held3 (fun w' => w'.cell? ⟨w.heap.size, 0, none⟩ = some (.slice (some ⟨b, off, none⟩) l.length c) ∧ w'.cell? ⟨b, off + k * 3 + 1, none⟩ = some (.string x.wait))
                (first | go_keep | exact ⟨q0, q1⟩) (fail)
              go_wp2_with fail
              with_reducible refine (ownDisk_any _ (mixF cuts l k) (k : Int) ⟨x.wait, ⟨#[]⟩, false⟩ _ HM.out.drew HL8).mono ?_
              rintro e w2 ⟨v2, rfl, hs2, hfr2, hb2⟩
              rw [HT.out, mixF_len] at hs2
              have y2 := (hv.alloc (.cells #[.string x.wait, .string ⟨#[]⟩, .bool false] 57)).drew.below hb2
              have hg2 : ∀ g, v2.ownBlock = some g → w.heap.size + 3 ≤ g := fun g hg => by have := hfr2 g hg; simp at this; omega
              have HG2 := Lib.hid hg2
              have hB2 := Below.trans ((hbw.alloc (by omega) (.cells #[.string x.wait, .string ⟨#[]⟩, .bool false] 57)).drew) (hb2.mono (by simp; omega))
              clear hfr2 hg2
              have HS2 := Lib.hid hs2
              obtain ⟨A2, c2', hvf2, -⟩ := id hs2
              subst hvf2
              clear hs2
              have z3 := y2.cell 0 _ rfl
              have zf := y2.free 0
              clear x3
              go_wp2
              go_roundw
              case rel => exact ⟨k + 1, _, by omega, by go_num, y2.set_ 0 _, HS2.out.setCell (fun g hg => by have := HG2.out g hg; simp only; omega) _, fun g hg => .inr (HG2.out g hg), hB2.setCell (by simp) _⟩
              case measure => simp [intOf]; omega
      · have hkc' : ¬ (k : Int) < (cuts.length : Int) := by omega
        cases hh : x.has
        · rw [hh] at c3
          have HT := Lib.hid (show ownF (mixF cuts l k) (k : Int) ⟨x.safe, ⟨#[]⟩, false⟩ = mixF cuts l (k + 1) from by rw [← mixF_step cuts l k x HX.out, hcn]; simp [crashS, hh])
          have HM := Lib.hid (show Sl _ (.slice A' l.length cp) (mixF cuts l k).length (slotCells (mixF cuts l k)) from by rw [mixF_len]; exact HSL.out.below (below_alloc wr (.cells #[.string x.safe, .string ⟨#[]⟩, .bool false] 57)))
          clear hcn hh
          go_wp2_with fail
          with_reducible refine (ownDisk_any _ (mixF cuts l k) (k : Int) ⟨x.safe, ⟨#[]⟩, false⟩ _ HM.out HL8).mono ?_
          rintro e w2 ⟨v2, rfl, hs2, hfr2, hb2⟩
          rw [HT.out, mixF_len] at hs2
          have y2 := (hv.alloc (.cells #[.string x.safe, .string ⟨#[]⟩, .bool false] 57)).below hb2
          have hg2 : ∀ g, v2.ownBlock = some g → w.heap.size + 3 ≤ g := fun g hg => by have := hfr2 g hg; simp at this; omega
          have HG2 := Lib.hid hg2
          have hB2 := Below.trans (hbw.alloc (by omega) (.cells #[.string x.safe, .string ⟨#[]⟩, .bool false] 57)) (hb2.mono (by simp; omega))
          clear hfr2 hg2
          have HS2 := Lib.hid hs2
          obtain ⟨A2, c2', hvf2, -⟩ := id hs2
          subst hvf2
          clear hs2
          have z3 := y2.cell 0 _ rfl
          have zf := y2.free 0
          clear x3
          go_wp2
          go_roundw
          case rel => exact ⟨k + 1, _, by omega, by go_num, y2.set_ 0 _, HS2.out.setCell (fun g hg => by have := HG2.out g hg; simp only; omega) _, fun g hg => .inr (HG2.out g hg), hB2.setCell (by simp) _⟩
          case measure => simp [intOf]; omega
        · rw [hh] at c3
          have HT := Lib.hid (show ownF (mixF cuts l k) (k : Int) ⟨ByteArray.empty, ⟨#[]⟩, false⟩ = mixF cuts l (k + 1) from by rw [← mixF_step cuts l k x HX.out, hcn]; rw [crashS_zero hh])
          have HM := Lib.hid (show Sl _ (.slice A' l.length cp) (mixF cuts l k).length (slotCells (mixF cuts l k)) from by rw [mixF_len]; exact HSL.out.below (below_alloc wr (.cells #[.string ByteArray.empty, .string ⟨#[]⟩, .bool false] 57)))
          have hmn : ∀ ts t W, (Builtin.min_ ts t #[.int .i64 0, .int .i64 (x.wait.size : Int)]).run Try.prog W = .ok (.int .i64 0) W := fun ts t W => by rw [run_min, if_neg (by omega)]
          have hct : ∀ W, (Instr.slice 9 (.string x.wait) none (some (.int .i64 0)) none).run Try.prog W = .ok (.string ByteArray.empty) W := fun W => by have := run_cut x.wait 0 (Nat.zero_le _) W; simpa using this
          clear hcn hh
          go_wp2_with fail
          go_region_held3 (fun w' => w'.cell? ⟨w.heap.size, 0, none⟩ = some (.slice (some ⟨b, off, none⟩) l.length c) ∧ w'.cell? ⟨b, off + k * 3 + 1, none⟩ = some (.string x.wait))
            (first | go_keep | exact ⟨q0, q1⟩) (fail)
          go_wp2_with fail
          with_reducible refine (ownDisk_any _ (mixF cuts l k) (k : Int) ⟨ByteArray.empty, ⟨#[]⟩, false⟩ _ HM.out.drew HL8).mono ?_
          rintro e w2 ⟨v2, rfl, hs2, hfr2, hb2⟩
          rw [HT.out, mixF_len] at hs2
          have y2 := (hv.alloc (.cells #[.string ByteArray.empty, .string ⟨#[]⟩, .bool false] 57)).drew.below hb2
          have hg2 : ∀ g, v2.ownBlock = some g → w.heap.size + 3 ≤ g := fun g hg => by have := hfr2 g hg; simp at this; omega
          have HG2 := Lib.hid hg2
          have hB2 := Below.trans ((hbw.alloc (by omega) (.cells #[.string ByteArray.empty, .string ⟨#[]⟩, .bool false] 57)).drew) (hb2.mono (by simp; omega))
          clear hfr2 hg2
          have HS2 := Lib.hid hs2
          obtain ⟨A2, c2', hvf2, -⟩ := id hs2
          subst hvf2
          clear hs2
          have z3 := y2.cell 0 _ rfl
          have zf := y2.free 0
          clear x3
          go_wp2
          go_roundw
          case rel => exact ⟨k + 1, _, by omega, by go_num, y2.set_ 0 _, HS2.out.setCell (fun g hg => by have := HG2.out g hg; simp only; omega) _, fun g hg => .inr (HG2.out g hg), hB2.setCell (by simp) _⟩
          case measure => simp [intOf]; omega
    · obtain rfl : k = l.length := by omega
      rw [mixF_full] at hsl
      have x2 := Blk.cell b1 0 _ rfl
      have f2 := Blk.free b1 0
      have x0 := Blk.cell b0 0 _ rfl
      have HS := Lib.hid hsl
      obtain ⟨A', cp, hvf, -⟩ := hsl
      subst hvf
      have x3 := hv.cell 0 _ rfl
      go_wp2
      refine bodyPost_ret (v := .agg #[.slice A' l.length cp]) (by simp [results, Try.results34, go_sem, x2]) rfl ?_
      refine ⟨_, rfl, ?_, hBw.setCell (by simp) _⟩
      rw [crashF_len]
      exact HS.out.setCell (fun g hg => by have := HFR.out g hg; simp only; omega) _

end Go.Proofs.Yteamepgonmdilaa
