/-
  Plans: unlike.
-/
import Derived.Test.YtelmlagolmabpaaDoorPlan3
namespace Go.Proofs.YtelmlagolmabpaaDoor
open Go.RowKit Go.Maps

/-- Are the numbers from 0 to n - 1, none of them twice? -/
def unlR (n : Int) (seen : List Int) : List Int → Bool
  | [] => true
  | x :: r => (btw x 0 (n - 1) && seen.count x == 0) && unlR n (seen ++ [x]) r
def unlikeB (l : List Int) (n : Int) : Bool := unlR n [] l
theorem unl_step {l : List Int} {n x : Int} {k : Nat} (hk : l[k]? = some x) : unlR n (l.take k) (l.drop k) = ((btw x 0 (n - 1) && (l.take k).count x == 0) && unlR n (l.take (k + 1)) (l.drop (k + 1))) := by
  obtain ⟨hlt, rfl⟩ := List.getElem?_eq_some_iff.1 hk
  rw [List.drop_eq_getElem_cons hlt, unlR, List.take_add_one, hk]
  rfl
theorem unl_end {l : List Int} {n : Int} : unlR n (l.take l.length) (l.drop l.length) = true := by rw [List.drop_length]; rfl
/-- What the map counts. -/
def Counts (D : DataW Unit) (l : List Int) : Prop := IsMap D ∧ ∀ y : Int, (Lit.int .i64 y).wf = true → D.atKey (.int .i64 y) (.lit (.int .i64 0)) = .lit (.int .i64 (l.count y : Nat))
theorem wf_of {x : Int} (h : -9223372036854775808 ≤ x ∧ x ≤ 9223372036854775807) : (Lit.int .i64 x).wf = true := by
  have e : IntKind.i64.min = -9223372036854775808 := by decide
  simp only [Lit.wf, e]
  simpa using h
theorem counts_none : Counts (.map []) [] := ⟨⟨[], rfl⟩, fun _ _ => rfl⟩
theorem isKey_int (x : Int) : WideAt.IsKeyLit (.int .i64 x) := trivial
theorem isMap_put {D : DataW Unit} (h : IsMap D) (k : Lit) (d : DataW Unit) : IsMap (D.put k d) := by
  obtain ⟨es, rfl⟩ := h
  exact ⟨_, rfl⟩
theorem counts_put {D : DataW Unit} {l : List Int} {x : Int} (h : Counts D l) : Counts (D.put (.int .i64 x) (.lit (.int .i64 ((l.count x : Nat) + 1 : Int)))) (l ++ [x]) := by
  refine ⟨isMap_put h.1 _ _, fun y hy => ?_⟩
  by_cases e : y = x
  · subst e
    rw [atKey_put_same h.1 (isKey_int y)]
    simp
  · rw [atKey_put_other (by intro h; injection h with _ h; exact e h), h.2 y hy]
    have : List.count y [x] = 0 := by rw [List.count_eq_zero]; simpa using e
    rw [List.count_append, this, Nat.add_zero]

theorem lit_inj {a b : Int} (h : (DataW.lit (.int .i64 a) : DataW Unit) = .lit (.int .i64 b)) : a = b := by
  injection h with h
  injection h
theorem lawI : Keyed Tryd.prog 3 := int_keyed Tryd.underlying3
theorem zeroI (w : World) : (zeroValue 3).run Tryd.prog w = .ok (.int .i64 0) w := by kernel_rfl

set_option maxHeartbeats 2000000 in
set_option maxRecDepth 100000 in
theorem unlOne_any {x n : Int} {bm bn M k : Nat} {D : DataW Unit} {l : List Int} (w : World) (K1 : Blk w bm 128 #[.map (some M)]) (K2 : Blk w bn 3 #[.int .i64 n]) (hown : w.ownsMap Tryd.prog 3 (plainElem Tryd.prog 3) M k D) (hk : k ≤ 1000) (hD : Counts D l) (hl : l.length ≤ 1000)
    (hx : -9223372036854775808 ≤ x ∧ x ≤ 9223372036854775807) (n1 : bm ≠ M) (n2 : bn ≠ M) :
    Calls Tryd.prog 103 #[.int .i64 x, .pointer (some ⟨bm, 0, none⟩), .pointer (some ⟨bn, 0, none⟩)] w fun e w' => e = .returned (.bool (btw x 0 (n - 1) && l.count x == 0)) ∧
      w'.ownsMap Tryd.prog 3 (plainElem Tryd.prog 3) M (k + 1) (D.put (.int .i64 x) (.lit (.int .i64 ((l.count x : Nat) + 1 : Int)))) ∧ w.grownBy w' (some M) := by
  have hwf := wf_of hx
  have hkey : keyOf Tryd.prog 3 (.int .i64 x) = some (.int .i64 x) := keyOf_int_mk Tryd.underlying3 hwf
  obtain ⟨c, hrun, hat, -⟩ := hown.lookup_int (t := 128) lawI Tryd.underlying128 Tryd.underlying3 (zeroI _) hkey
  have hc : c = (l.count x : Nat) := by
    have := hat.symm.trans (hD.2 x hwf)
    injection this with this
    injection this
  subst hc
  have hcl : l.count x ≤ 1000 := Nat.le_trans (List.count_le_length) hl
  have hput := atKey_put_same (D := D) hD.1 (isKey_int x) (.lit (.int .i64 ((l.count x : Nat) + 1 : Int))) (.lit (.int .i64 0))
  have HP := Lib.hid hput
  have HK := Lib.hid hkey
  have z1 := K1.cell 0 _ rfl
  have z2 := K2.cell 0 _ rfl
  have m1 : some M ≠ some bm := fun h => n1 (Option.some.inj h).symm
  have m2 : some M ≠ some bn := fun h => n2 (Option.some.inj h).symm
  have HM1 := Lib.hid m1
  have HM2 := Lib.hid m2
  have hwc : (Lit.int .i64 ((l.count x : Nat) + 1 : Int)).wf = true := wf_of (by omega)
  have HW := Lib.hid hwc
  generalize l.count x = q at hrun hcl HP HW ⊢
  have hkk : k < maxLen := by unfold maxLen; omega
  have HKK := Lib.hid hkk
  clear hat hput hkey hwf m1 m2 hwc hD hkk n1 n2
  by_cases h1 : 0 ≤ x
  · by_cases h2 : x < n
    · have E : Hid ((btw x 0 (n - 1) && q == 0) = (q == 0)) := Lib.hid (by rw [btw_yes h1 (by omega)]; rfl)
      go_enter Tryd.func103, Tryd.ntmps103
      go_wp2_with (at_mapUpdate; refine wpList_mapUpdate_own _ rfl _ _ _ 128 rfl 3 3 lawI Tryd.underlying128 _ M k _ rfl hown HKK.out _ _ _ rfl rfl HK.out _ [] (plainElem_int Tryd.underlying3 HW.out) ?_; intro w1 hown1 hgrow1
                   have y1 := (K1.grown hgrow1 HM1.out).cell 0 _ rfl
                   have y2 := (K2.grown hgrow1 HM2.out).cell 0 _ rfl
                   obtain ⟨c2, hrun2, hat2, -⟩ := hown1.lookup_int (t := 128) lawI Tryd.underlying128 Tryd.underlying3 (zeroI _) HK.out
                   have hc2 : (c2 == 1) = (q == 0) := by
                     have hcc := lit_inj (hat2.symm.trans HP.out)
                     rw [hcc, Bool.eq_iff_iff]; simp; omega
                   clear hrun hat2)
      go_ret
      exact ⟨ret_bool (by rw [E.out]), hown1, hgrow1⟩
    · have E : Hid ((btw x 0 (n - 1) && q == 0) = false) := Lib.hid (by rw [btw_no (by omega)]; rfl)
      go_enter Tryd.func103, Tryd.ntmps103
      go_wp2_with (at_mapUpdate; refine wpList_mapUpdate_own _ rfl _ _ _ 128 rfl 3 3 lawI Tryd.underlying128 _ M k _ rfl hown HKK.out _ _ _ rfl rfl HK.out _ [] (plainElem_int Tryd.underlying3 HW.out) ?_; intro w1 hown1 hgrow1
                   have y1 := (K1.grown hgrow1 HM1.out).cell 0 _ rfl
                   have y2 := (K2.grown hgrow1 HM2.out).cell 0 _ rfl
                   clear hrun)
      go_ret
      exact ⟨ret_bool (by rw [E.out]), hown1, hgrow1⟩
  · have E : Hid ((btw x 0 (n - 1) && q == 0) = false) := Lib.hid (by rw [btw_no (by omega)]; rfl)
    go_enter Tryd.func103, Tryd.ntmps103
    go_wp2_with (at_mapUpdate; refine wpList_mapUpdate_own _ rfl _ _ _ 128 rfl 3 3 lawI Tryd.underlying128 _ M k _ rfl hown HKK.out _ _ _ rfl rfl HK.out _ [] (plainElem_int Tryd.underlying3 HW.out) ?_; intro w1 hown1 hgrow1
                 have y1 := (K1.grown hgrow1 HM1.out).cell 0 _ rfl
                 have y2 := (K2.grown hgrow1 HM2.out).cell 0 _ rfl
                 clear hrun)
    go_ret
    exact ⟨ret_bool (by rw [E.out]), hown1, hgrow1⟩

set_option maxHeartbeats 2000000 in
set_option maxRecDepth 100000 in
theorem allUnl_any {v : Value} {l : List Int} {n : Int} {B bm bn M : Nat} (w : World) (hs : ∀ wr, Below B w wr → Sl wr v l.length (intCells l)) (K1 : Blk w bm 128 #[.map (some M)]) (K2 : Blk w bn 3 #[.int .i64 n])
    (hown : w.ownsMap Tryd.prog 3 (plainElem (H := Unit) Tryd.prog 3) M 0 (.map [])) (hB : B ≤ M) (hB2 : B ≤ w.heap.size) (n1 : bm ≠ M) (n2 : bn ≠ M) (hl : l.length ≤ 1000) (hr : ∀ x ∈ l, -9223372036854775808 ≤ x ∧ x ≤ 9223372036854775807) :
    Calls Tryd.prog 90 #[v, .func (.func 103) #[] #[.pointer (some ⟨bm, 0, none⟩), .pointer (some ⟨bn, 0, none⟩)]] w fun e w' => e = .returned (.bool (unlikeB l n)) ∧ Below B w w' := by
  have HS := Lib.hid hs
  have HR := Lib.hid hr
  obtain ⟨A, c, rfl, h1, h2, -⟩ := hs w (Below.refl _ _)
  have m1 : some M ≠ some bm := fun h => n1 (Option.some.inj h).symm
  have m2 : some M ≠ some bn := fun h => n2 (Option.some.inj h).symm
  have HM1 := Lib.hid m1
  have HM2 := Lib.hid m2
  have HN1 := Lib.hid n1
  have HN2 := Lib.hid n2
  have HO := Lib.hid hown
  clear hs hr m1 m2 n1 n2 hown
  go_enter Tryd.func90, Tryd.ntmps90
  go_wp2
  go_loopw [6, 9] (fun _ i wr => ∃ (k : Nat) (D : DataW Unit), k ≤ l.length ∧ i = .int .i64 k ∧ Hid (unlikeB l n = unlR n (l.take k) (l.drop k)) ∧ Hid (Counts D (l.take k)) ∧ wr.ownsMap Tryd.prog 3 (plainElem (H := Unit) Tryd.prog 3) M k D ∧ Blk wr bm 128 #[.map (some M)] ∧ Blk wr bn 3 #[.int .i64 n] ∧ Below B w wr)
    (fun _ i _ => l.length - (intOf i).toNat)
  case atStart => exact ⟨0, _, by omega, rfl, rfl, counts_none, HO.out, K1, K2, Below.refl _ _⟩
  case round =>
    obtain ⟨k, D, hk, rfl, H, HD, hown, J1, J2, hbw⟩ := hrel
    by_cases hlt : k < l.length
    · obtain ⟨b, off, rfl, -, hc⟩ := int_at (HS.out _ hbw) rfl hlt
      have c1 := hc _ (Below.refl _ _)
      have hg : l[k]? = some (l.getD k 0) := by simp [hlt]
      generalize l.getD k 0 = x at c1 hg
      have HX := Lib.hid hg
      have HRX := Lib.hid (HR.out x (List.mem_of_getElem? hg))
      have HST := Lib.hid (unl_step (n := n) hg)
      have hty : (l.take k).length ≤ 1000 := by rw [List.length_take]; omega
      have HT := Lib.hid (show l.take k ++ [x] = l.take (k + 1) from by rw [List.take_add_one, hg]; rfl)
      clear hg hc
      cases hq : (btw x 0 (n - 1) && (l.take k).count x == 0)
      · have e1 := Lib.hid (show unlikeB l n = false from by rw [H.out, HST.out, hq]; rfl)
        have HQ := Lib.hid hq
        clear hq
        go_wp2_with (go_at_call 103; refine (unlOne_any (n := n) (l := l.take k) _ J1 J2 hown (by omega) HD.out hty HRX.out HN1.out HN2.out).mono ?_; rw [HQ.out]; rintro e w1 ⟨rfl, hown1, hg1⟩)
        go_ret
        exact ⟨ret_bool e1.out.symm, hbw.grown hg1 (Nat.le_trans hB2 hbw.size) (fun j hj => by cases hj; exact hB)⟩
      · have e1 := Lib.hid (show unlikeB l n = unlR n (l.take (k + 1)) (l.drop (k + 1)) from by rw [H.out, HST.out, hq]; rfl)
        have HQ := Lib.hid hq
        clear hq
        have HC := Lib.hid (counts_put (x := x) HD.out)
        go_wp2_with (go_at_call 103; refine (unlOne_any (n := n) (l := l.take k) _ J1 J2 hown (by omega) HD.out hty HRX.out HN1.out HN2.out).mono ?_; rw [HQ.out]; rintro e w1 ⟨rfl, hown1, hg1⟩)
        go_roundw
        case rel => exact ⟨k + 1, _, by omega, by go_num, e1.out, (by have := HC.out; rw [HT.out] at this; exact this), hown1, J1.grown hg1 HM1.out, J2.grown hg1 HM2.out, hbw.grown hg1 (Nat.le_trans hB2 hbw.size) (fun j hj => by cases hj; exact hB)⟩
        case measure => simp [intOf]; omega
    · obtain rfl : k = l.length := by omega
      have e1 := Lib.hid (show unlikeB l n = true from by rw [H.out, unl_end])
      go_wp2
      go_ret
      exact ⟨ret_bool e1.out.symm, hbw⟩

set_option maxHeartbeats 2000000 in
set_option maxRecDepth 100000 in
theorem unlike_any (v : Value) (l : List Int) (n : Int) (w : World) (h : Sl w v l.length (intCells l)) (hl : l.length ≤ 1000) (hr : ∀ x ∈ l, -9223372036854775808 ≤ x ∧ x ≤ 9223372036854775807) :
    Calls Tryd.prog 92 #[v, .int .i64 n] w fun e w' => e = .returned (.bool (unlikeB l n)) ∧ Below w.heap.size w w' := by
  have hmm := @run_makeMap Tryd.prog
  have HH := Lib.hid h
  have HR := Lib.hid hr
  clear h hr
  go_enter Tryd.func92, Tryd.ntmps92
  have K1 := new_second (w.alloc (.cells #[.int .i64 n] 3)) 128 #[.map (some (w.heap.size + 1))] (.map #[] 0)
  have K2 := ((Blk.new w 3 #[.int .i64 n]).alloc (.map #[] 0)).alloc (.cells #[.map (some (w.heap.size + 1))] 128)
  have HO := (World.ownsMap_made (w.alloc (.cells #[.int .i64 n] 3)) Tryd.prog 3 (plainElem (H := Unit) Tryd.prog 3)).alloc (.cells #[.map (some (w.heap.size + 1))] 128)
  have hB := below_trans (below_trans (below_alloc w (.cells #[.int .i64 n] 3)) (below_alloc _ (.map #[] 0))) (below_alloc _ (.cells #[.map (some (w.heap.size + 1))] 128))
  rw [World.size_alloc] at K1 HO
  have HK1 := Lib.hid K1
  have HK2 := Lib.hid K2
  have HHO := Lib.hid HO
  clear K1 K2 HO
  go_wp2_with fail
  refine (allUnl_any (B := w.heap.size) _ (fun wr hb => HH.out.below (hB.trans hb)) HK1.out HK2.out HHO.out (by omega) hB.size (by omega) (by omega) hl HR.out).mono ?_
  rintro e w1 ⟨rfl, hb1⟩
  go_wp2
  go_ret
  exact ⟨rfl, hB.trans hb1⟩

end Go.Proofs.YtelmlagolmabpaaDoor
