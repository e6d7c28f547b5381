/-
  The reference's FormOf. step and sign; the plain law of Fold. Fold. The reference's FoldIn.
-/
import Derived.Test.YtelmlagolmabpaaDoorChg16
import Derived.Test.YtelmlagolmabpaaDoorPlan4
import Derived.Test.YtelmlagolmabpaaDoorChgM5
set_option linter.unusedSimpArgs false
set_option linter.unusedVariables false
namespace Go.Proofs.YtelmlagolmabpaaDoor
open Go.RowKit

set_option maxHeartbeats 4000000 in
set_option maxRecDepth 10000 in
theorem crform_any (v : Value) (l : List Chn) (w : World) (h : Chs w v l) (hf : FineC l) :
    Calls Tryd.prog 34 #[v] w fun e w' => e = .returned (.int .i64 (formC l)) ∧ Below w.heap.size w w' := by
  have HV := Lib.hid h
  have HF := Lib.hid hf
  obtain ⟨A, c, rfl, h1, h2, -⟩ := h.sl
  clear h hf
  unfold maxLen at h2
  by_cases hn : 4096 < l.length
  · have e1 := Lib.hid (show formC l = 2 from if_pos hn)
    go_enter Tryd.func34, Tryd.ntmps34
    go_wp2
    go_ret
    exact ⟨ret_int (by rw [e1.out]), Below.refl _ _⟩
  · have HBAD := Lib.hid (fun k e => form_bad (l := l) (k := k) (e := e) hn)
    have HGOOD := Lib.hid (form_good (l := l) hn)
    generalize formC l = R at HBAD HGOOD ⊢
    go_enter Tryd.func34, Tryd.ntmps34
    go_wp2_with fail
    go_loopw [3, 4] (fun i _ wr => ∃ k : Nat, k ≤ l.length ∧ i = .int .i64 k ∧ Hid (∀ j, j < k → errAt l j = 0) ∧ Below w.heap.size w wr) (fun i _ _ => l.length - (intOf i).toNat)
    case atStart => exact ⟨0, by omega, rfl, Lib.hid (fun j hj => by omega), Below.refl _ _⟩
    case round =>
      obtain ⟨k, hk, rfl, H, hbw⟩ := hrel
      by_cases hlt : k < l.length
      · have hx := List.getElem?_eq_getElem (l := l) hlt
        generalize l[k] = x at hx
        obtain ⟨g, off, rfl, -, hc⟩ := chn_at HV.out.sl rfl hx
        obtain ⟨d1, d2⟩ := hc _ hbw
        have HC := Lib.hid hc
        have hmem := List.mem_of_getElem? hx
        have HRW := Lib.hid (HV.out.rows x hmem)
        have HFX := Lib.hid (HF.out.rows x hmem)
        have hxn := HF.out.nums x hmem
        have HX := Lib.hid hx
        clear hx hc hmem
        obtain ⟨xv, xr, xk⟩ := x
        simp only at d1 d2 HRW HFX hxn HC
        obtain ⟨Ax, cx, rfl, -⟩ := id HRW.out
        have HSX := Lib.hid (HRW.out.below hbw)
        have k0 : (0 : Int) ≤ (k : Int) := by omega
        have k1 : (k : Int) < (l.length : Int) := by omega
        by_cases q1 : xk < 1
        · have EE := Lib.hid (HBAD.out k 4 hlt H.out (err_one HX.out (.inl q1)) (by omega))
          go_wp2
          go_ret
          exact ⟨ret_int (by rw [EE.out]), hbw⟩
        · by_cases q2 : 4 < xk
          · have EE := Lib.hid (HBAD.out k 4 hlt H.out (err_one HX.out (.inr q2)) (by omega))
            go_wp2
            go_ret
            exact ⟨ret_int (by rw [EE.out]), hbw⟩
          · by_cases hy : keyErr xr = 0
            · have HY := Lib.hid hy
              clear hy
              go_wp2_with fail
              refine (keyError_any _ xr _ HSX.out HFX.out.small).mono ?_
              rw [HY.out]
              rintro e w2 ⟨rfl, hb2⟩
              have hbw3 := below_trans hbw hb2
              obtain ⟨z1, z2⟩ := HC.out _ hbw3
              clear d1 d2 hb2 hbw
              have hq : xk = 1 ∨ xk = 2 ∨ xk = 3 ∨ xk = 4 := by omega
              clear q1 q2 hxn
              rcases hq with rfl | rfl | rfl | rfl
              · have HZ := Lib.hid (err_no HX.out (by simp) (by simp) HY.out (by simp))
                go_wp2
                go_roundw
                case rel => exact ⟨k + 1, by omega, by go_num, Lib.hid (pre_more H.out HZ.out), hbw3⟩
                case measure => simp [intOf]; omega
              · have HZ := Lib.hid (err_no HX.out (by simp) (by simp) HY.out (by simp))
                go_wp2
                go_roundw
                case rel => exact ⟨k + 1, by omega, by go_num, Lib.hid (pre_more H.out HZ.out), hbw3⟩
                case measure => simp [intOf]; omega
              · by_cases hl2 : k + 1 < l.length
                · have hx2 := List.getElem?_eq_getElem (l := l) hl2
                  generalize l[k + 1] = x2 at hx2
                  obtain ⟨g2, off2, hg2, -, hc2⟩ := chn_at HV.out.sl rfl hx2
                  injection hg2 with hg2
                  injection hg2 with hg2 hg3
                  subst hg2
                  subst hg3
                  have d3 := (hc2 _ hbw3).1
                  have HK2 := Lib.hid (kAt_some hx2)
                  clear hx2 hc2
                  generalize x2.k = y2 at d3 HK2
                  have hw : IntKind.i64.wrap ((k : Int) + 1) = (k : Int) + 1 := by rw [IntKind.wrap_i64]; omega
                  have hw1 : ((k : Int) + 1).toNat = k + 1 := by omega
                  have i1 : (0 : Int) ≤ (k : Int) + 1 := by omega
                  have i2 : (k : Int) + 1 < (l.length : Int) := by omega
                  have i3 : ((k : Int) + 1 == (l.length : Int)) = false := beqF (by omega)
                  by_cases q4 : y2 = 4
                  · have HZ := Lib.hid (err_no HX.out (by simp) (by simp) HY.out (by rintro (⟨-, h⟩ | ⟨h, -⟩); exact h (by rw [HK2.out]; exact q4); exact absurd h (by simp)))
                    subst q4
                    go_wp2
                    go_roundw
                    case rel => exact ⟨k + 1, by omega, by go_num, Lib.hid (pre_more H.out HZ.out), hbw3⟩
                    case measure => simp [intOf]; omega
                  · have EE := Lib.hid (HBAD.out k 6 hlt H.out (err_six HX.out (by simp) (by simp) HY.out (.inl ⟨rfl, by rw [HK2.out]; exact q4⟩)) (by decide))
                    have q4' := beqF q4
                    go_wp2
                    go_ret
                    exact ⟨ret_int (by rw [EE.out]), hbw3⟩
                · have hke : l.length = k + 1 := by omega
                  have EE := Lib.hid (HBAD.out k 6 hlt H.out (err_six HX.out (by simp) (by simp) HY.out (.inl ⟨rfl, by rw [kAt_none (by omega)]; decide⟩)) (by decide))
                  have hw : IntKind.i64.wrap ((k : Int) + 1) = (k : Int) + 1 := by rw [IntKind.wrap_i64]; omega
                  have i3 : ((k : Int) + 1 == (l.length : Int)) = true := beqT (by omega)
                  clear hke
                  go_wp2
                  go_ret
                  exact ⟨ret_int (by rw [EE.out]), hbw3⟩
              · by_cases hk0 : k = 0
                · have EE := Lib.hid (HBAD.out k 6 hlt H.out (err_six HX.out (by simp) (by simp) HY.out (.inr ⟨rfl, .inl hk0⟩)) (by decide))
                  have i3 : ((k : Int) == 0) = true := beqT (by omega)
                  clear hk0
                  go_wp2
                  go_ret
                  exact ⟨ret_int (by rw [EE.out]), hbw3⟩
                · have hl2 : k - 1 < l.length := by omega
                  have hx2 := List.getElem?_eq_getElem (l := l) hl2
                  generalize l[k - 1] = x2 at hx2
                  obtain ⟨g2, off2, hg2, -, hc2⟩ := chn_at HV.out.sl rfl hx2
                  injection hg2 with hg2
                  injection hg2 with hg2 hg3
                  subst hg2
                  subst hg3
                  have d3 := (hc2 _ hbw3).1
                  have HK2 := Lib.hid (kAt_some hx2)
                  clear hx2 hc2
                  generalize x2.k = y2 at d3 HK2
                  have hw : IntKind.i64.wrap ((k : Int) - 1) = (k : Int) - 1 := by rw [IntKind.wrap_i64]; omega
                  have hw1 : ((k : Int) - 1).toNat = k - 1 := by omega
                  have i1 : (0 : Int) ≤ (k : Int) - 1 := by omega
                  have i2 : (k : Int) - 1 < (l.length : Int) := by omega
                  have i3 : ((k : Int) == 0) = false := beqF (by omega)
                  by_cases q4 : y2 = 3
                  · have HZ := Lib.hid (err_no HX.out (by simp) (by simp) HY.out (by rintro (⟨h, -⟩ | ⟨-, h | h⟩); exact absurd h (by simp); exact absurd h hk0; exact h (by rw [HK2.out]; exact q4)))
                    subst q4
                    go_wp2
                    go_roundw
                    case rel => exact ⟨k + 1, by omega, by go_num, Lib.hid (pre_more H.out HZ.out), hbw3⟩
                    case measure => simp [intOf]; omega
                  · have EE := Lib.hid (HBAD.out k 6 hlt H.out (err_six HX.out (by simp) (by simp) HY.out (.inr ⟨rfl, .inr (by rw [HK2.out]; exact q4)⟩)) (by decide))
                    have q4' := beqF q4
                    go_wp2
                    go_ret
                    exact ⟨ret_int (by rw [EE.out]), hbw3⟩
            · have EE := Lib.hid (HBAD.out k _ hlt H.out (err_two HX.out (show (1:Int) ≤ xk by omega) (show xk ≤ 4 by omega) hy) hy)
              have HKE := Lib.hid (show keyErr xr = keyErr xr from rfl)
              have hy' := beqF hy
              simp only at EE
              generalize hyy : keyErr xr = y at EE hy'
              have HYY := Lib.hid hyy
              clear hy hyy HKE
              go_wp2_with fail
              refine (keyError_any _ xr _ HSX.out HFX.out.small).mono ?_
              rw [HYY.out]
              rintro e w2 ⟨rfl, hb2⟩
              have hbw3 := below_trans hbw hb2
              go_wp2
              go_ret
              exact ⟨ret_int (by rw [EE.out]), hbw3⟩
      · obtain rfl : k = l.length := by omega
        have EE := Lib.hid (HGOOD.out H.out)
        go_wp2
        go_ret
        exact ⟨ret_int (by rw [EE.out]), hbw⟩

end Go.Proofs.YtelmlagolmabpaaDoor
namespace Go.Proofs.YtelmlagolmabpaaDoor
open Go.RowKit Go.Maps

def stepI (k : Int) : Int := if k = 1 ∨ k = 4 then 1 else -1
theorem stepI_two (k : Int) : stepI k = 1 ∨ stepI k = -1 := by unfold stepI; split <;> simp

set_option maxHeartbeats 1000000 in
theorem cstep_any (k : Int) (v : Value) (w : World) (h1 : 1 ≤ k) (h4 : k ≤ 4) :
    Calls Tryd.prog 73 #[.agg #[.int .i64 k, v]] w fun e w' => e = .returned (.int .i64 (stepI k)) ∧ Below w.heap.size w w' := by
  have hq : k = 1 ∨ k = 2 ∨ k = 3 ∨ k = 4 := by omega
  have hB := below_alloc w (.cells #[.int .i64 k, v] 92)
  rcases hq with rfl | rfl | rfl | rfl <;>
  · go_enter Tryd.func73, Tryd.ntmps73
    go_wp2
    go_ret
    exact ⟨rfl, hB⟩
set_option maxHeartbeats 1000000 in
theorem csign_any (k : Int) (v : Value) (w : World) (h1 : 1 ≤ k) (h4 : k ≤ 4) :
    Calls Tryd.prog 77 #[.agg #[.int .i64 k, v]] w fun e w' => e = .returned (.int .i64 (stepI k)) ∧ Below w.heap.size w w' := by
  have hq : k = 1 ∨ k = 2 ∨ k = 3 ∨ k = 4 := by omega
  have hB := below_alloc w (.cells #[.int .i64 k, v] 92)
  rcases hq with rfl | rfl | rfl | rfl <;>
  · go_enter Tryd.func77, Tryd.ntmps77
    go_wp2
    go_ret
    exact ⟨rfl, hB⟩

/-- What formC says of changes in form. -/
structure GoodC (l : List Chn) : Prop where
  few : l.length ≤ 4096
  good : ∀ c ∈ l, GoodR c.r ∧ 1 ≤ c.k ∧ c.k ≤ 4
theorem err_zero {l : List Chn} {i : Nat} {c : Chn} (h : l[i]? = some c) (he : errAt l i = 0) : keyErr c.r = 0 ∧ 1 ≤ c.k ∧ c.k ≤ 4 := by
  by_cases h1 : c.k < 1 ∨ 4 < c.k
  · rw [err_one h h1] at he; omega
  · by_cases hy : keyErr c.r = 0
    · exact ⟨hy, by omega, by omega⟩
    · rw [err_two h (by omega) (by omega) hy] at he; exact absurd he hy
theorem form_errs {l : List Chn} (h : formC l = 0) : l.length ≤ 4096 ∧ ∀ i, i < l.length → errAt l i = 0 := by
  have h0 : ¬ 4096 < l.length := by
    intro h0
    unfold formC at h
    rw [if_pos h0] at h
    omega
  refine ⟨by omega, fun i => ?_⟩
  induction i using Nat.strongRecOn with
  | ind i ih =>
    intro hi
    by_cases e : errAt l i = 0
    · exact e
    · have := form_bad h0 hi (fun j hj => ih j hj (by omega)) rfl e
      rw [h] at this
      exact absurd this.symm e
theorem form_zero {l : List Chn} (hf : FineC l) (h : formC l = 0) : GoodC l := by
  obtain ⟨h1, h2⟩ := form_errs h
  refine ⟨h1, fun c hc => ?_⟩
  obtain ⟨i, hi, rfl⟩ := List.mem_iff_getElem.1 hc
  have := err_zero (List.getElem?_eq_getElem hi) (h2 i hi)
  exact ⟨goodR_of (hf.rows _ hc) this.1, this.2⟩

/-- Changes, done one after the other: the view; the place of the first that cannot be done, and why. -/
def foldR : AV → Int → List (Int × List Val) → AV × Int × Int
  | A, _, [] => (A, 0, 0)
  | A, i, c :: t => if (addR A c.2 (stepI c.1)).2 = 0 then foldR (addR A c.2 (stepI c.1)).1 (i + 1) t else ([], i, (addR A c.2 (stepI c.1)).2)
def foldS (l : List Cnt) (m : List Chn) : AV × Int × Int :=
  if chkV l ≠ 0 then ([], 0, chkV l) else if formC m ≠ 0 then ([], 0, formC m) else foldR (av l) 0 (ac m)

theorem addR_ok {A : AV} {r : List Val} {n : Int} (h : (addR A r n).2 = 0) :
    0 ≤ lookA A r + n ∧ lookA A r + n ≤ 1073741824 ∧ ¬ (hasA A r = false ∧ 0 < lookA A r + n ∧ A.length = 4096) ∧
    (addR A r n).1 = if lookA A r + n = 0 then delA A r else putA A r (lookA A r + n) := by
  unfold addR at h ⊢
  by_cases h1 : lookA A r + n < 0
  · rw [if_pos h1] at h; simp at h
  · rw [if_neg h1] at h ⊢
    by_cases h2 : 1073741824 < lookA A r + n ∨ (hasA A r = false ∧ 0 < lookA A r + n ∧ A.length = 4096)
    · rw [if_pos h2] at h; simp at h
    · rw [if_neg h2]
      refine ⟨by omega, Int.not_lt.1 (fun h => h2 (.inl h)), fun h => h2 (.inr h), ?_⟩
      split <;> rfl
theorem put_mem2 {A : AV} {r : List Val} {n : Int} {p : List Val × Int} (h : p ∈ putA A r n) : p ∈ A ∨ p.2 = n := by
  induction A with
  | nil => simp [putA] at h; exact .inr (by rw [h])
  | cons x t ih =>
    obtain ⟨x, m⟩ := x
    unfold putA at h
    split at h
    · rcases List.mem_cons.1 h with rfl | h
      · exact .inr rfl
      · exact .inl (by simp [h])
    · split at h
      · rcases List.mem_cons.1 h with rfl | h
        · exact .inl (by simp)
        · rcases ih h with h | h
          · exact .inl (by simp [h])
          · exact .inr h
      · rcases List.mem_cons.1 h with rfl | h
        · exact .inr rfl
        · exact .inl h
theorem addR_nums {A : AV} {r : List Val} {n : Int} (h : ∀ p ∈ A, 1 ≤ p.2 ∧ p.2 ≤ 1073741824) (h0 : (addR A r n).2 = 0) : ∀ p ∈ (addR A r n).1, 1 ≤ p.2 ∧ p.2 ≤ 1073741824 := by
  obtain ⟨h1, h2, -, e⟩ := addR_ok h0
  rw [e]
  intro p hp
  split at hp
  · exact h p (del_mem hp)
  · rcases put_mem2 hp with hp | hp
    · exact h p hp
    · omega
theorem put_has_len {A : AV} {r : List Val} {n : Int} (h : Rises A) (hr : GoodR r) (hh : hasA A r = true) : (putA A r n).length = A.length := by
  induction A with
  | nil => simp [hasA] at hh
  | cons x t ih =>
    obtain ⟨x, m⟩ := x
    have hx : GoodR x := h.good (x, m) (by simp)
    unfold putA
    by_cases e : rowsF x r = 0
    · rw [if_pos e]; simp
    · rw [if_neg e]
      unfold hasA at hh
      have hh' : hasA t r = true := by simpa [e] using hh
      by_cases l : rowsF x r < 0
      · rw [if_pos l]; simp [ih h.tail hh']
      · exfalso
        have hlt : rowsF r x < 0 := by rw [rowsF_flip hx hr]; omega
        have : hasA t r = false := by
          have hno : ∀ p ∈ t, rowsF p.1 r ≠ 0 := fun p hp => by
            have := rowsF_trans hr hx (h.good p (by simp [hp])) hlt ((List.pairwise_cons.1 h.rise).1 p hp)
            have hf := rowsF_flip (h.good p (by simp [hp])) hr
            omega
          clear hh' hh ih h
          induction t with
          | nil => rfl
          | cons y t ih =>
            obtain ⟨y, c⟩ := y
            unfold hasA
            have := hno (y, c) (by simp)
            simp only at this
            simp [this, ih fun p hp => hno p (by simp [hp])]
        rw [this] at hh'
        cases hh'
theorem addR_few {A : AV} {r : List Val} {n : Int} (h : Rises A) (hr : GoodR r) (hl : A.length ≤ 4096) (h0 : (addR A r n).2 = 0) : (addR A r n).1.length ≤ 4096 := by
  obtain ⟨h1, h2, h3, e⟩ := addR_ok h0
  rw [e]
  split
  · have := delA_len A r; omega
  · cases hh : hasA A r with
    | true => rw [put_has_len h hr hh]; exact hl
    | false =>
      have := putA_len A r (lookA A r + n)
      by_cases h4 : A.length = 4096
      · exact absurd ⟨hh, by omega, h4⟩ h3
      · omega
/-- A right view, as a list. -/
structure GoodA (A : AV) : Prop where
  few : A.length ≤ 4096
  rises : Rises A
  nums : ∀ p ∈ A, 1 ≤ p.2 ∧ p.2 ≤ 1073741824
theorem GoodV.a {l : List Cnt} (h : GoodV l) : GoodA (av l) := ⟨by unfold av; rw [List.length_map]; exact h.few, h.rises, h.nums⟩
theorem GoodA.add {A : AV} {r : List Val} {n : Int} (h : GoodA A) (hr : GoodR r) (h0 : (addR A r n).2 = 0) : GoodA (addR A r n).1 :=
  ⟨addR_few h.rises hr h.few h0, addR_rises h.rises hr, addR_nums h.nums h0⟩

end Go.Proofs.YtelmlagolmabpaaDoor
namespace Go.Proofs.YtelmlagolmabpaaDoor
open Go.RowKit Go.Maps

theorem ac_at {m : List Chn} {k : Nat} {x : Chn} (h : m[k]? = some x) : (ac m).drop k = (x.k, x.r) :: (ac m).drop (k + 1) := by
  have h' : (ac m)[k]? = some (x.k, x.r) := by unfold ac; rw [List.getElem?_map, h]; rfl
  obtain ⟨hk, e⟩ := List.getElem?_eq_some_iff.1 h'
  rw [List.drop_eq_getElem_cons hk, e]
theorem ac_end (m : List Chn) : (ac m).drop m.length = [] := List.drop_of_length_le (by unfold ac; rw [List.length_map]; exact Nat.le_refl _)

set_option maxHeartbeats 4000000 in
set_option maxRecDepth 10000 in
theorem cfold_any (v vm : Value) (l : List Cnt) (m : List Chn) (w : World) (h : View w v l) (hf : FineV l) (hs : Chs w vm m) (hfm : FineC m) (hm : Mx w) :
    Calls Tryd.prog 30 #[v, vm] w fun e w' => ∃ v' l', e = .returned (.tuple #[v', .int .i64 (foldS l m).2.1, .int .i64 (foldS l m).2.2]) ∧ View w' v' l' ∧ av l' = (foldS l m).1 ∧ Below w.heap.size w w' := by
  have HV := Lib.hid h
  have HF := Lib.hid hf
  have HS := Lib.hid hs
  have HFM := Lib.hid hfm
  have HM := Lib.hid hm
  have HE : Hid (foldS l m = if chkV l ≠ 0 then ([], 0, chkV l) else if formC m ≠ 0 then ([], 0, formC m) else foldR (av l) 0 (ac m)) := Lib.hid rfl
  have HCZ := Lib.hid (chk_zero hf)
  have HFZ := Lib.hid (form_zero hfm)
  generalize foldS l m = R at HE ⊢
  obtain ⟨Av, cv, rfl, -⟩ := id h.sl
  obtain ⟨Am, cm, rfl, hm1, hm2, -⟩ := id hs.sl
  unfold maxLen at hm2
  clear h hf hs hfm hm
  generalize hk : chkV l = c at HE HCZ
  have HK := Lib.hid hk
  generalize hy : formC m = y at HE HFZ
  have HY := Lib.hid hy
  clear hk hy
  go_enter Tryd.func30, Tryd.ntmps30
  go_wp2_with fail
  refine (checkView_any _ l _ HV.out HF.out HM.out).mono ?_
  rw [HK.out]
  rintro e w1 ⟨rfl, hb1⟩
  by_cases hc : c = 0
  · have HE1 := Lib.hid (HE.out.trans (if_neg (fun h => h hc)))
    have HG := Lib.hid (HCZ.out hc)
    have hc' := beqT hc
    clear HE HCZ hc
    go_wp2_with fail
    refine (cform_any _ m _ (HS.out.below hb1) HFM.out (HM.out.below hb1)).mono ?_
    rw [HY.out]
    rintro e w2 ⟨rfl, hb2⟩
    have hb12 := below_trans hb1 hb2
    by_cases hy : y = 0
    · have HE2 := Lib.hid (HE1.out.trans (if_neg (fun h => h hy)))
      have HGC := Lib.hid (HFZ.out hy)
      have hy' := beqT hy
      clear HE1 HFZ hy
      go_wp2_with fail
      refine (of_any _ l _ (HV.out.below hb12) HF.out HG.out (HM.out.below hb12)).mono ?_
      rintro e w3 ⟨M, rfl, hM, hP, hb3⟩
      have hb13 := below_trans hb12 hb3
      have hM2 : w.heap.size ≤ M := by have := hb12.size; omega
      have hml : m.length ≤ 4096 := HGC.out.few
      go_wp2_with fail
      go_loopw [10, 11, 12, 13, 14, 29] (fun _ _ _ _ _ i wr => ∃ (k : Nat) (B : AV), k ≤ m.length ∧ i = .int .i64 k ∧ Hid (R = foldR B k ((ac m).drop k)) ∧ Hid (GoodA B) ∧ Hid (Pile wr M (4096 + k) B) ∧ Below w.heap.size w wr) (fun _ _ _ _ _ i _ => m.length - (intOf i).toNat)
      case atStart => exact ⟨0, av l, by omega, rfl, HE2.out, HG.out.a, hP, hb13⟩
      case round =>
        obtain ⟨k, B, hk, rfl, HR, HGA, HP, hbw⟩ := hrel
        by_cases hlt : k < m.length
        · have hx := List.getElem?_eq_getElem (l := m) hlt
          generalize m[k] = x at hx
          obtain ⟨g, off, rfl, -, hcc⟩ := chn_at HS.out.sl rfl hx
          obtain ⟨d1, d2⟩ := hcc _ hbw
          have hmem := List.mem_of_getElem? hx
          have HRW := Lib.hid (HS.out.rows x hmem)
          have HFX := Lib.hid (HFM.out.rows x hmem)
          have HGX := Lib.hid (HGC.out.good x hmem).1
          have hx1 := (HGC.out.good x hmem).2.1
          have hx4 := (HGC.out.good x hmem).2.2
          have HR1 : Hid (R = foldR B k ((x.k, x.r) :: (ac m).drop (k + 1))) := Lib.hid (by rw [HR.out, ac_at hx])
          clear hx hcc hmem HR
          obtain ⟨xv, xr, xk⟩ := x
          simp only at d1 d2 HRW HFX HGX hx1 hx4 HR1
          obtain ⟨Ax, cx, rfl, -⟩ := id HRW.out
          have hbw2 := hbw.alloc hbw.size (.cells #[.int .i64 xk, .slice Ax xr.length cx] 92)
          have HSX := Lib.hid (HRW.out.below hbw2)
          have kb := (Blk.new wr 92 #[.int .i64 xk, .slice Ax xr.length cx])
          have HP2 := Lib.hid (HP.out.below (below_alloc wr (.cells #[.int .i64 xk, .slice Ax xr.length cx] 92)))
          have HKE := Lib.hid (keyErr_ok (r := xr) (by
            have hz : firstNZ (xr.map checkV) = 0 := firstNZ_none (by intro y hy; obtain ⟨z, hz, rfl⟩ := List.mem_map.1 hy; exact (HGX.out.good z hz).1)
            unfold keyErr
            rw [if_neg (by have := HGX.out.few; omega), hz]))
          go_wp2_with fail
          refine (key_any _ xr _ HSX.out HFX.out (HM.out.below hbw2)).mono ?_
          rw [HKE.out]
          rintro e w4 ⟨rfl, hb4⟩
          have y0 := (kb.below hb4).cell 0 _ rfl
          have y1 := (kb.below hb4).cell 1 _ rfl
          have HP4 := Lib.hid (HP2.out.below hb4)
          have hbw4 := below_trans hbw2 hb4
          clear HP HP2
          go_wp2_with fail
          refine (cstep_any xk _ _ hx1 hx4).mono ?_
          rintro e w5 ⟨rfl, hb5⟩
          have HP5 := Lib.hid (HP4.out.below hb5)
          have hbw5 := below_trans hbw4 hb5
          have hs2 := stepI_two xk
          have hln := look_num xr HGA.out.nums
          go_wp2_with fail
          refine (add_any (n := stepI xk) _ HP5.out (by omega) HGA.out.rises HGX.out (by omega) (by omega)).mono ?_
          rintro e w6 ⟨rfl, hP6, hg6⟩
          have hb6 : Below w.heap.size w w6 := hbw5.grown hg6 hbw5.size (fun j hj => by cases hj; exact hM2)
          have HADD := Lib.hid (fun h0 => GoodA.add (n := stepI xk) HGA.out HGX.out h0)
          have HR2 : Hid (R = if (addR B xr (stepI xk)).2 = 0 then foldR (addR B xr (stepI xk)).1 (k + 1) ((ac m).drop (k + 1)) else ([], k, (addR B xr (stepI xk)).2)) := HR1
          have HP6 := Lib.hid hP6
          clear hP6 hg6 HR1 hs2 hln
          generalize addR B xr (stepI xk) = P at HADD HR2 HP6
          obtain ⟨B2, d⟩ := P
          simp only at HADD HR2 HP6
          by_cases hd : d = 0
          · have HR3 := Lib.hid (HR2.out.trans (if_pos hd))
            have HG3 := Lib.hid (HADD.out hd)
            have hd' := beqT hd
            clear HR2 HADD hd
            go_wp2
            go_roundw
            case rel => exact ⟨k + 1, B2, by omega, by go_num, HR3.out, HG3.out, HP6.out, hb6⟩
            case measure => simp [intOf]; omega
          · have EE := Lib.hid (HR2.out.trans (if_neg hd))
            have hd' := beqF hd
            clear HR2 HADD hd
            go_wp2
            go_ret3
            first
              | exact ⟨.slice none 0 0, [], by rw [EE.out]; rfl, View.nil _, by rw [EE.out]; rfl, hb6⟩
              | exact ⟨.slice none 0 0, by rw [EE.out]; rfl, [], View.nil _, by rw [EE.out]; rfl, hb6⟩
        · obtain rfl : k = m.length := by omega
          have EE : Hid (R = (B, 0, 0)) := Lib.hid (by rw [HR.out, ac_end]; rfl)
          clear HR
          go_wp2_with fail
          refine (view_any _ HP.out HGA.out.rises (by have := HGA.out.few; omega)).mono ?_
          rintro e w5 ⟨v5, l5, rfl, hO5, ha5, hb5⟩
          have HO5 := Lib.hid hO5.view
          have HA5 := Lib.hid ha5
          have hb6 := below_trans hbw hb5
          clear hO5 ha5
          go_wp2
          go_ret3
          first
            | exact ⟨v5, l5, by rw [EE.out]; rfl, HO5.out, by rw [EE.out]; exact HA5.out, hb6⟩
            | exact ⟨v5, by rw [EE.out]; rfl, l5, HO5.out, by rw [EE.out]; exact HA5.out, hb6⟩
    · have EE := Lib.hid (HE1.out.trans (if_pos hy))
      have hy' := beqF hy
      clear HE1 HFZ hy
      go_wp2
      go_ret3
      first
        | exact ⟨.slice none 0 0, [], by rw [EE.out]; rfl, View.nil _, by rw [EE.out]; rfl, hb12⟩
        | exact ⟨.slice none 0 0, by rw [EE.out]; rfl, [], View.nil _, by rw [EE.out]; rfl, hb12⟩
  · have EE := Lib.hid (HE.out.trans (if_pos hc))
    have hc' := beqF hc
    clear HE HCZ hc
    go_wp2
    go_ret3
    first
      | exact ⟨.slice none 0 0, [], by rw [EE.out]; rfl, View.nil _, by rw [EE.out]; rfl, hb1⟩
      | exact ⟨.slice none 0 0, by rw [EE.out]; rfl, [], View.nil _, by rw [EE.out]; rfl, hb1⟩

end Go.Proofs.YtelmlagolmabpaaDoor
namespace Go.Proofs.YtelmlagolmabpaaDoor
open Go.RowKit Go.Maps

set_option maxHeartbeats 4000000 in
set_option maxRecDepth 10000 in
theorem rfold_any (v vm : Value) (l : List Cnt) (m : List Chn) (w : World) (h : View w v l) (hf : FineV l) (hs : Chs w vm m) (hfm : FineC m) :
    Calls Tryd.prog 31 #[v, vm] w fun e w' => ∃ v' l', e = .returned (.tuple #[v', .int .i64 (foldS l m).2.1, .int .i64 (foldS l m).2.2]) ∧ View w' v' l' ∧ av l' = (foldS l m).1 ∧ Below w.heap.size w w' := by
  have HV := Lib.hid h
  have HF := Lib.hid hf
  have HS := Lib.hid hs
  have HFM := Lib.hid hfm
  have HE : Hid (foldS l m = if chkV l ≠ 0 then ([], 0, chkV l) else if formC m ≠ 0 then ([], 0, formC m) else foldR (av l) 0 (ac m)) := Lib.hid rfl
  have HCZ := Lib.hid (chk_zero hf)
  have HFZ := Lib.hid (form_zero hfm)
  generalize foldS l m = R at HE ⊢
  obtain ⟨Av, cv, rfl, -⟩ := id h.sl
  obtain ⟨Am, cm, rfl, hm1, hm2, -⟩ := id hs.sl
  unfold maxLen at hm2
  clear h hf hs hfm
  generalize hk : chkV l = c at HE HCZ
  have HK := Lib.hid hk
  generalize hy : formC m = y at HE HFZ
  have HY := Lib.hid hy
  clear hk hy
  go_enter Tryd.func31, Tryd.ntmps31
  go_wp2_with fail
  refine (rcheckView_any _ l _ HV.out HF.out).mono ?_
  rw [HK.out]
  rintro e w1 ⟨rfl, hb1⟩
  by_cases hc : c = 0
  · have HE1 := Lib.hid (HE.out.trans (if_neg (fun h => h hc)))
    have HG := Lib.hid (HCZ.out hc)
    have hc' := beqT hc
    clear HE HCZ hc
    go_wp2_with fail
    refine (crform_any _ m _ (HS.out.below hb1) HFM.out).mono ?_
    rw [HY.out]
    rintro e w2 ⟨rfl, hb2⟩
    have hb12 := below_trans hb1 hb2
    by_cases hy : y = 0
    · have HE2 := Lib.hid (HE1.out.trans (if_neg (fun h => h hy)))
      have HGC := Lib.hid (HFZ.out hy)
      have hy' := beqT hy
      have H8 : Hid (∀ c ∈ l, c.r.length ≤ 8) := Lib.hid (fun c hc => (HG.out.rises.good (c.r, c.n) (List.mem_map.2 ⟨c, hc, rfl⟩)).few)
      clear HE1 HFZ hy
      go_wp2_with fail
      refine (own_any _ l _ (HV.out.below hb12) HG.out.few H8.out).mono ?_
      rintro e w3 ⟨v3, l3, rfl, hO3, ha3, hb3⟩
      have HO3 := Lib.hid hO3
      have HA3 := Lib.hid ha3
      have hb13 := below_trans hb12 hb3
      have hml : m.length ≤ 4096 := HGC.out.few
      have hw2 := hb12.size
      clear hO3 ha3
      go_wp2_with fail
      go_loopw [9, 10, 11] (fun out i _ wr => ∃ (k : Nat) (u : Value) (s : List Cnt), u = out ∧ k ≤ m.length ∧ i = .int .i64 k ∧ Hid (R = foldR (av s) k ((ac m).drop k)) ∧ Hid (GoodA (av s)) ∧ Hid (OwnV wr w2.heap.size u s) ∧ w2.heap.size ≤ wr.heap.size ∧ Below w.heap.size w wr) (fun _ i _ _ => m.length - (intOf i).toNat)
      case atStart => exact ⟨0, _, l3, rfl, by omega, rfl, Lib.hid (by rw [HA3.out]; exact HE2.out), Lib.hid (by rw [HA3.out]; exact HG.out.a), HO3, hb3.size, hb13⟩
      case round =>
        obtain ⟨k, u, s, rfl, hk, rfl, HR, HGA, HO, hws, hbw⟩ := hrel
        by_cases hlt : k < m.length
        · have hx := List.getElem?_eq_getElem (l := m) hlt
          generalize m[k] = x at hx
          obtain ⟨g, off, rfl, -, hcc⟩ := chn_at HS.out.sl rfl hx
          obtain ⟨d1, d2⟩ := hcc _ hbw
          have HC := Lib.hid hcc
          have hmem := List.mem_of_getElem? hx
          have HRW := Lib.hid (HS.out.rows x hmem)
          have HGX := Lib.hid (HGC.out.good x hmem).1
          have hx1 := (HGC.out.good x hmem).2.1
          have hx4 := (HGC.out.good x hmem).2.2
          have HR1 : Hid (R = foldR (av s) k ((x.k, x.r) :: (ac m).drop (k + 1))) := Lib.hid (by rw [HR.out, ac_at hx])
          clear hx hcc hmem HR
          obtain ⟨xv, xr, xk⟩ := x
          simp only at d1 d2 HRW HGX hx1 hx4 HR1 HC
          obtain ⟨Ax, cx, rfl, -⟩ := id HRW.out
          have k0 : (0 : Int) ≤ (k : Int) := by omega
          have k1 : (k : Int) < (m.length : Int) := by omega
          have hs2 := stepI_two xk
          have hln := look_num xr HGA.out.nums
          have HSL := Lib.hid (show s.length ≤ 4096 from by have := HGA.out.few; unfold av at this; rwa [List.length_map] at this)
          generalize hst : stepI xk = st at hs2
          have HST := Lib.hid hst
          clear hst
          obtain ⟨Au, cu, rfl, -⟩ := Sl.of_own HO.out.own
          go_wp2_with fail
          go_region_held3 (fun w' => w'.cell? ⟨g, off + k * 2, none⟩ = some (.int .i64 xk) ∧ w'.cell? ⟨g, off + k * 2 + 1, none⟩ = some (.slice Ax xr.length cx))
            (first | go_keep | exact ⟨d1, d2⟩ | exact z2 | exact z3)
            (first
              | (go_at_call 77
                 refine (csign_any xk _ _ hx1 hx4).mono ?_
                 rw [HST.out]
                 rintro e w4 ⟨rfl, hb4⟩
                 have hbw4 := below_trans hbw.drew hb4
                 have z2 := HC.out _ hbw4
                 have HO4 := Lib.hid (HO.out.drew.below hb4))
              | (go_at_call 76
                 refine (more_any _ _ s xr st w2.heap.size _ HO4.out (Nat.le_trans hws hb4.size) HSL.out (HRW.out.below hbw4)
                   (fun hne j hj e => by have h1 := row_block HRW.out hne hj; have h2 := own_ge HO4.out.own j e; omega)
                   HGA.out.rises HGX.out (by omega) (by omega)).mono ?_
                 rintro e w5 ⟨v5, l5, rfl, hO5, ha5, hg5⟩
                 have hbw5 : Below w.heap.size w w5 := hbw4.grown hg5 hbw4.size (fun j hj => by have := own_ge HO4.out.own j hj; omega)
                 have z3 := HC.out _ hbw5))
          all_goals
            have HADD := Lib.hid (fun h0 => GoodA.add (n := st) HGA.out HGX.out h0)
            have HR2 : Hid (R = if (addR (av s) xr st).2 = 0 then foldR (addR (av s) xr st).1 (k + 1) ((ac m).drop (k + 1)) else ([], k, (addR (av s) xr st).2)) := Lib.hid (by rw [HR1.out]; show (if (addR (av s) xr (stepI xk)).2 = 0 then _ else _) = _; rw [HST.out])
            have HA5 := Lib.hid ha5
            have HO5 := Lib.hid hO5
            have hws5 : w2.heap.size ≤ w5.heap.size := by have := hg5.size; have := hb4.size; simp at *; omega
            clear ha5 hO5 hg5 HR1 hs2 hln d1 d2 z2 z3
            generalize addR (av s) xr st = P at HADD HR2 HA5
            obtain ⟨B2, d⟩ := P
            simp only at HADD HR2 HA5
            by_cases hd : d = 0
            · have HR3 : Hid (R = foldR (av l5) (k + 1) ((ac m).drop (k + 1))) := Lib.hid (by rw [HA5.out]; exact HR2.out.trans (if_pos hd))
              have HG3 : Hid (GoodA (av l5)) := Lib.hid (by rw [HA5.out]; exact HADD.out hd)
              have hd' := beqT hd
              clear HR2 HADD hd
              go_wp2
              go_roundw
              case rel => exact ⟨k + 1, _, l5, rfl, by omega, by go_num, HR3.out, HG3.out, HO5.out, hws5, hbw5⟩
              case measure => simp [intOf]; omega
            · have EE := Lib.hid (HR2.out.trans (if_neg hd))
              have hd' := beqF hd
              clear HR2 HADD hd
              go_wp2
              go_ret3
              first
                | exact ⟨.slice none 0 0, [], by rw [EE.out]; rfl, View.nil _, by rw [EE.out]; rfl, hbw5⟩
                | exact ⟨.slice none 0 0, by rw [EE.out]; rfl, [], View.nil _, by rw [EE.out]; rfl, hbw5⟩
        · obtain rfl : k = m.length := by omega
          have EE : Hid (R = (av s, 0, 0)) := Lib.hid (by rw [HR.out, ac_end]; rfl)
          have HVW := Lib.hid HO.out.view
          clear HR
          go_wp2
          go_ret3
          first
            | exact ⟨u, s, by rw [EE.out]; rfl, HVW.out, by rw [EE.out], hbw⟩
            | exact ⟨u, by rw [EE.out]; rfl, s, HVW.out, by rw [EE.out], hbw⟩
    · have EE := Lib.hid (HE1.out.trans (if_pos hy))
      have hy' := beqF hy
      clear HE1 HFZ hy
      go_wp2
      go_ret3
      first
        | exact ⟨.slice none 0 0, [], by rw [EE.out]; rfl, View.nil _, by rw [EE.out]; rfl, hb12⟩
        | exact ⟨.slice none 0 0, by rw [EE.out]; rfl, [], View.nil _, by rw [EE.out]; rfl, hb12⟩
  · have EE := Lib.hid (HE.out.trans (if_pos hc))
    have hc' := beqF hc
    clear HE HCZ hc
    go_wp2
    go_ret3
    first
      | exact ⟨.slice none 0 0, [], by rw [EE.out]; rfl, View.nil _, by rw [EE.out]; rfl, hb1⟩
      | exact ⟨.slice none 0 0, by rw [EE.out]; rfl, [], View.nil _, by rw [EE.out]; rfl, hb1⟩

end Go.Proofs.YtelmlagolmabpaaDoor
