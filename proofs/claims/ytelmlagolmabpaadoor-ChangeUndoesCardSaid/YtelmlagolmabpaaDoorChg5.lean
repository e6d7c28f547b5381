/-
  Piles: of a view.
-/
import Derived.Test.YtelmlagolmabpaaDoorChg1
import Derived.Test.YtelmlagolmabpaaDoorChg2
set_option linter.unusedSimpArgs false
set_option linter.unusedVariables false
namespace Go.Proofs.YtelmlagolmabpaaDoor
open Go.RowKit Go.Maps

theorem map_below {w w' : World} {M n : Nat} {D : DataW Unit} (h : w.ownsMap Tryd.prog 9 (plainElem (H := Unit) Tryd.prog 3) M n D) (hb : Below w.heap.size w w') : w'.ownsMap Tryd.prog 9 (plainElem (H := Unit) Tryd.prog 3) M n D := by
  have hl := h.lt
  obtain ⟨es, clock, h1, r⟩ := h
  exact ⟨es, clock, (hb.block M hl).trans h1, r⟩
theorem Pile.below {w w' : World} {M N : Nat} {A : AV} (h : Pile w M N A) (hb : Below w.heap.size w w') : Pile w' M N A := by
  obtain ⟨n, hn, ho⟩ := h
  exact ⟨n, hn, map_below ho hb⟩
theorem Pile.lt {w : World} {M N : Nat} {A : AV} (h : Pile w M N A) : M < w.heap.size := by
  obtain ⟨n, hn, ho⟩ := h
  exact ho.lt
theorem put_last {A : AV} {r : List Val} {n : Int} (h : Rises (A ++ [(r, n)])) : putA A r n = A ++ [(r, n)] := by
  induction A with
  | nil => rfl
  | cons x t ih =>
    obtain ⟨x, m⟩ := x
    obtain ⟨h1, -⟩ := List.pairwise_cons.1 h.rise
    have := h1 (r, n) (by simp)
    simp only at this
    unfold putA
    rw [if_neg (by omega), if_pos this, ih h.tail]
    rfl
theorem rises_take {A : AV} (h : Rises A) (k : Nat) : Rises (A.take k) := ⟨fun p hp => h.good p (List.mem_of_mem_take hp), h.rise.sublist (List.take_sublist k A)⟩

set_option maxHeartbeats 4000000 in
set_option maxRecDepth 100000 in
theorem of_any (v : Value) (l : List Cnt) (w : World) (h : View w v l) (hf : FineV l) (hg : GoodV l) (hm : Mx w) :
    Calls Tryd.prog 71 #[v] w fun e w' => ∃ M, e = .returned (.map (some M)) ∧ w.heap.size ≤ M ∧ Pile w' M 4096 (av l) ∧ Below w.heap.size w w' := by
  have hmm := @run_makeMap Tryd.prog
  have HV := Lib.hid h
  have HF := Lib.hid hf
  have HM := Lib.hid hm
  have HG := Lib.hid hg
  have hl := hg.few
  have HR := Lib.hid hg.rises
  have HN := Lib.hid hg.nums
  obtain ⟨A, c, rfl, h1, h2, -⟩ := h.sl
  clear h hf hm hg
  unfold maxLen at h2
  have hB := below_alloc w (.map #[] 0)
  have HO := Lib.hid (World.ownsMap_made w Tryd.prog 9 (plainElem (H := Unit) Tryd.prog 3))
  go_enter Tryd.func71, Tryd.ntmps71
  go_wp2_with fail
  go_loopw [5, 6, 7, 11] (fun _ _ _ i wr => ∃ k n : Nat, k ≤ l.length ∧ n ≤ k ∧ i = .int .i64 k ∧ wr.ownsMap Tryd.prog 9 (plainElem (H := Unit) Tryd.prog 3) w.heap.size n (mkD ((av l).take k)) ∧ Below w.heap.size w wr) (fun _ _ _ i _ => l.length - (intOf i).toNat)
  case atStart => exact ⟨0, 0, by omega, by omega, rfl, HO.out, hB⟩
  case round =>
    obtain ⟨k, n, hk, hnk, rfl, hown, hbw⟩ := hrel
    by_cases hlt : k < l.length
    · have hx := List.getElem?_eq_getElem (l := l) hlt
      generalize l[k] = x at hx
      obtain ⟨g, off, rfl, -, hc⟩ := cnt_at HV.out.sl rfl hx
      obtain ⟨d1, d2⟩ := hc _ hbw
      have hmem := List.mem_of_getElem? hx
      have HRW := Lib.hid (HV.out.rows x hmem)
      have HFX := Lib.hid (HF.out.rows x hmem)
      have hxa : (av l)[k]? = some (x.r, x.n) := by unfold av; rw [List.getElem?_map, hx]; rfl
      have HGX := Lib.hid (HR.out.good _ (List.mem_of_getElem? hxa))
      have hxn := HN.out _ (List.mem_of_getElem? hxa)
      have HT := Lib.hid (show (av l).take (k + 1) = (av l).take k ++ [(x.r, x.n)] from by rw [List.take_add_one, hxa]; rfl)
      clear hx hc hmem hxa
      obtain ⟨xv, xr, xn⟩ := x
      simp only at d1 d2 HRW HFX hxn HGX HT
      obtain ⟨Ax, cx, rfl, -⟩ := id HRW.out
      have hbw2 := hbw.alloc hbw.size (.cells #[.slice Ax xr.length cx, .int .i64 xn] 99)
      have HSX := Lib.hid (HRW.out.below hbw2)
      have kb := (Blk.new wr 99 #[.slice Ax xr.length cx, .int .i64 xn])
      have hown2 := hown.alloc (.cells #[.slice Ax xr.length cx, .int .i64 xn] 99)
      have HKE : Hid (keyR xr = (str (keyRow xr), 0)) := by
        have h8 := HGX.out.few
        have : keyErr xr = 0 := by
          have hz : firstNZ (xr.map checkV) = 0 := firstNZ_none (by intro y hy; obtain ⟨z, hz, rfl⟩ := List.mem_map.1 hy; exact (HGX.out.good z hz).1)
          unfold keyErr
          rw [if_neg (by omega), hz]
        exact Lib.hid (if_neg (by rw [this]; simp))
      have HK := Lib.hid (keyS HGX.out)
      have HRT := Lib.hid (rises_take HR.out k)
      have HPUT := Lib.hid (show (mkD ((av l).take k)).put (kOf xr) (.lit (.int .i64 xn)) = mkD ((av l).take (k + 1)) from by
        rw [mkD_put HRT.out HGX.out, put_last (by rw [← HT.out]; exact rises_take HR.out (k + 1)), ← HT.out])
      have HWN := Lib.hid (show (Lit.int .i64 xn).wf = true from wf_of (by omega))
      have HKK := Lib.hid (show n < maxLen from by unfold maxLen; omega)
      generalize str (keyRow xr) = s at HKE HK
      clear hown
      go_wp2_with fail
      refine (key_any _ xr _ HSX.out HFX.out (HM.out.below hbw2)).mono ?_
      rw [HKE.out]
      rintro e w2 ⟨rfl, hb2⟩
      have y1 := (kb.below hb2).cell 1 _ rfl
      have hbw3 := below_trans hbw2 hb2
      have hown3 := map_below hown2 hb2
      clear hown2 hb2 kb hbw2
      go_wp2_with (at_mapUpdate; refine wpList_mapUpdate_own _ rfl _ _ _ 89 rfl 9 3 lawS Tryd.underlying89 _ w.heap.size n _ rfl hown3 HKK.out _ _ _ rfl rfl HK.out _ [] (plainElem_int Tryd.underlying3 HWN.out) ?_; intro w4 hown4 hgrow4)
      have hown5 : w4.ownsMap Tryd.prog 9 (plainElem (H := Unit) Tryd.prog 3) w.heap.size (n + 1) (mkD ((av l).take (k + 1))) := by rw [← HPUT.out]; exact hown4
      have HO5 := Lib.hid hown5
      have hbw4 := hbw3.grown hgrow4 hbw3.size (fun j hj => by cases hj; exact Nat.le_refl _)
      clear hown4 hown5 hgrow4 hown3
      go_roundw
      case rel => exact ⟨k + 1, n + 1, by omega, by omega, by go_num, HO5.out, hbw4⟩
      case measure => simp [intOf]; omega
    · obtain rfl : k = l.length := by omega
      have HO2 := Lib.hid hown
      clear hown
      go_wp2
      go_ret
      refine ⟨_, rfl, Nat.le_refl _, ⟨n, by omega, ?_⟩, hbw⟩
      have := HO2.out
      rwa [List.take_of_length_le (by unfold av; rw [List.length_map]; omega)] at this

end Go.Proofs.YtelmlagolmabpaaDoor
