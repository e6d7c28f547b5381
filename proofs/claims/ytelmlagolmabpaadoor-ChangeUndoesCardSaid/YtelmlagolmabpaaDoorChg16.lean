/-
  Changes: in memory; Form.
-/
import Derived.Test.YtelmlagolmabpaaDoorChg2
import Derived.Test.YtelmlagolmabpaaDoorValue9
set_option linter.unusedSimpArgs false
set_option linter.unusedVariables false
namespace Go.Proofs.YtelmlagolmabpaaDoor
open Go.RowKit

structure Chn where
  v : Value
  r : List Val
  k : Int
def Chn.cells (c : Chn) : List Value := [.int .i64 c.k, c.v]
theorem Chn.cells_len (c : Chn) : c.cells.length = 2 := rfl
def chnCells (l : List Chn) : List Value := l.flatMap Chn.cells
/-- Changes in memory. -/
structure Chs (w : World) (v : Value) (l : List Chn) : Prop where
  sl : Sl w v l.length (chnCells l)
  rows : ∀ c ∈ l, Sl w c.v c.r.length (rowCells c.r)
theorem Chs.below {w w' : World} {v : Value} {l : List Chn} (h : Chs w v l) (hb : Below w.heap.size w w') : Chs w' v l := ⟨h.sl.below hb, fun c hc => (h.rows c hc).below hb⟩
theorem Chs.drew {w : World} {v : Value} {l : List Chn} (h : Chs w v l) : Chs w.drew v l := ⟨h.sl, h.rows⟩
theorem Chs.nil (w : World) : Chs w (.slice none 0 0) [] := ⟨Sl.nil_ w, nofun⟩
structure FineC (l : List Chn) : Prop where
  rows : ∀ c ∈ l, Fine c.r
  nums : ∀ c ∈ l, -9223372036854775808 ≤ c.k ∧ c.k ≤ 9223372036854775807
def ac (l : List Chn) : List (Int × List Val) := l.map fun c => (c.k, c.r)

theorem chn_at {w : World} {l : List Chn} {v : Value} (h : Sl w v l.length (chnCells l)) {A : Option Addr} {n c : Nat} (hv : v = .slice A n c) {k : Nat} {x : Chn} (hk : l[k]? = some x) :
    ∃ b off, A = some ⟨b, off, none⟩ ∧ b < w.heap.size ∧ ∀ w', Below w.heap.size w w' →
      w'.cell? ⟨b, off + k * 2, none⟩ = some (.int .i64 x.k) ∧ w'.cell? ⟨b, off + k * 2 + 1, none⟩ = some x.v := by
  obtain ⟨A', c', hv', h1, h2, -, h3⟩ := h
  rw [hv] at hv'
  injection hv' with e1 e2 e3
  subst e1
  have a1 := flat_at Chn.cells_len l k 0 (by omega)
  have a2 := flat_at Chn.cells_len l k 1 (by omega)
  rw [hk] at a1 a2
  simp only [Option.bind_some, Nat.add_zero] at a1 a2
  obtain ⟨b, off, hA, hc⟩ := h3 (by intro h0; rw [show l.flatMap Chn.cells = chnCells l from rfl, h0] at a1; simp [Chn.cells] at a1)
  have c1 := hc _ _ a1
  have c2 := hc _ _ a2
  exact ⟨b, off, hA, World.block_lt_of_cell? w _ c1, fun w' hb => ⟨cell_below hb c1, cell_below hb c2⟩⟩

def kAt (l : List Chn) (i : Nat) : Int := match l[i]? with | some c => c.k | none => 0
def errAt (l : List Chn) (i : Nat) : Int := match l[i]? with
  | none => 0
  | some c => if btw c.k 1 4 = false then 4 else if keyErr c.r ≠ 0 then keyErr c.r else if (c.k = 3 ∧ kAt l (i + 1) ≠ 4) ∨ (c.k = 4 ∧ (i = 0 ∨ kAt l (i - 1) ≠ 3)) then 6 else 0
def formC (l : List Chn) : Int := if 4096 < l.length then 2 else firstNZ ((List.range l.length).map (errAt l))
theorem form_bad {l : List Chn} {k : Nat} {e : Int} (h0 : ¬ 4096 < l.length) (hk : k < l.length) (hpre : ∀ j, j < k → errAt l j = 0) (he : errAt l k = e) (hne : e ≠ 0) : formC l = e := by
  unfold formC
  rw [if_neg h0]
  refine firstNZ_hit (k := k) (fun x hx => ?_) (by simp [hk, he]) hne
  rw [← List.map_take, List.mem_map] at hx
  obtain ⟨j, hj, rfl⟩ := hx
  rw [List.take_range, List.mem_range] at hj
  exact hpre j (by omega)
theorem form_good {l : List Chn} (h0 : ¬ 4096 < l.length) (hpre : ∀ j, j < l.length → errAt l j = 0) : formC l = 0 := by
  unfold formC
  rw [if_neg h0]
  refine firstNZ_none (fun x hx => ?_)
  obtain ⟨j, hj, rfl⟩ := List.mem_map.1 hx
  exact hpre j (List.mem_range.1 hj)
theorem kAt_some {l : List Chn} {i : Nat} {x : Chn} (h : l[i]? = some x) : kAt l i = x.k := by simp [kAt, h]
theorem kAt_none {l : List Chn} {i : Nat} (h : l.length ≤ i) : kAt l i = 0 := by simp [kAt, List.getElem?_eq_none h]
def openAt (l : List Chn) : Nat → Bool
  | 0 => false
  | k + 1 => decide (kAt l k = 3)
theorem open_next {l : List Chn} {k : Nat} (hpre : ∀ j, j < k → errAt l j = 0) (ho : openAt l k = true) : k ≠ 0 ∧ kAt l (k - 1) = 3 ∧ kAt l k = 4 := by
  cases k with
  | zero => simp [openAt] at ho
  | succ k =>
    have h3 : kAt l k = 3 := of_decide_eq_true ho
    refine ⟨by omega, h3, ?_⟩
    have he := hpre k (by omega)
    unfold errAt at he
    cases hx : l[k]? with
    | none => simp [kAt, hx] at h3
    | some c =>
      have hc : c.k = 3 := by rw [← kAt_some hx]; exact h3
      rw [hx] at he
      simp only [hc] at he
      have : btw 3 1 4 = true := by decide
      rw [this] at he
      by_cases hk : keyErr c.r = 0
      · by_cases h4 : kAt l (k + 1) = 4
        · exact h4
        · simp [hk, h4] at he
      · simp [hk] at he
theorem open_not {l : List Chn} {k : Nat} (ho : openAt l k = false) : k = 0 ∨ kAt l (k - 1) ≠ 3 := by
  cases k with
  | zero => exact .inl rfl
  | succ k => exact .inr (of_decide_eq_false ho)
theorem err_one {l : List Chn} {i : Nat} {c : Chn} (h : l[i]? = some c) (hk : c.k < 1 ∨ 4 < c.k) : errAt l i = 4 := by
  unfold errAt
  rw [h]
  simp only [btw_no hk, if_true]
theorem err_two {l : List Chn} {i : Nat} {c : Chn} (h : l[i]? = some c) (h1 : 1 ≤ c.k) (h2 : c.k ≤ 4) (hy : keyErr c.r ≠ 0) : errAt l i = keyErr c.r := by
  unfold errAt
  rw [h]
  simp [btw_yes h1 h2, hy]
theorem err_six {l : List Chn} {i : Nat} {c : Chn} (h : l[i]? = some c) (h1 : 1 ≤ c.k) (h2 : c.k ≤ 4) (hy : keyErr c.r = 0) (h6 : (c.k = 3 ∧ kAt l (i + 1) ≠ 4) ∨ (c.k = 4 ∧ (i = 0 ∨ kAt l (i - 1) ≠ 3))) : errAt l i = 6 := by
  unfold errAt
  rw [h]
  simp only [btw_yes h1 h2, hy]
  rw [if_neg (by simp), if_neg (by simp), if_pos h6]
theorem err_no {l : List Chn} {i : Nat} {c : Chn} (h : l[i]? = some c) (h1 : 1 ≤ c.k) (h2 : c.k ≤ 4) (hy : keyErr c.r = 0) (h6 : ¬ ((c.k = 3 ∧ kAt l (i + 1) ≠ 4) ∨ (c.k = 4 ∧ (i = 0 ∨ kAt l (i - 1) ≠ 3)))) : errAt l i = 0 := by
  unfold errAt
  rw [h]
  simp only [btw_yes h1 h2, hy]
  rw [if_neg (by simp), if_neg (by simp), if_neg h6]
theorem pre_more {l : List Chn} {k : Nat} (h : ∀ j, j < k → errAt l j = 0) (hk : errAt l k = 0) : ∀ j, j < k + 1 → errAt l j = 0 := by
  intro j hj
  by_cases e : j = k
  · rw [e]; exact hk
  · exact h j (by omega)
theorem keyErr_ok {r : List Val} (h : keyErr r = 0) : keyR r = (str (keyRow r), 0) := if_neg (by rw [h]; simp)
theorem keyErr_bad {r : List Val} (h : keyErr r ≠ 0) : keyR r = (⟨#[]⟩, keyErr r) := if_pos h

set_option maxHeartbeats 4000000 in
set_option maxRecDepth 10000 in
theorem cform_any (v : Value) (l : List Chn) (w : World) (h : Chs w v l) (hf : FineC l) (hm : Mx w) :
    Calls Tryd.prog 33 #[v] w fun e w' => e = .returned (.int .i64 (formC l)) ∧ Below w.heap.size w w' := by
  have HV := Lib.hid h
  have HF := Lib.hid hf
  have HM := Lib.hid hm
  obtain ⟨A, c, rfl, h1, h2, -⟩ := h.sl
  clear h hf hm
  unfold maxLen at h2
  by_cases hn : 4096 < l.length
  · have e1 := Lib.hid (show formC l = 2 from if_pos hn)
    go_enter Tryd.func33, Tryd.ntmps33
    go_wp2
    go_ret
    exact ⟨ret_int (by rw [e1.out]), Below.refl _ _⟩
  · have HBAD := Lib.hid (fun k e => form_bad (l := l) (k := k) (e := e) hn)
    have HGOOD := Lib.hid (form_good (l := l) hn)
    generalize formC l = R at HBAD HGOOD ⊢
    go_enter Tryd.func33, Tryd.ntmps33
    go_wp2_with fail
    go_loopw [3, 4, 5, 6, 7, 13] (fun op _ _ _ _ i wr => ∃ k : Nat, k ≤ l.length ∧ i = .int .i64 k ∧ op = .bool (openAt l k) ∧ Hid (∀ j, j < k → errAt l j = 0) ∧ Below w.heap.size w wr) (fun _ _ _ _ _ i _ => l.length - (intOf i).toNat)
    case atStart => exact ⟨0, by omega, rfl, rfl, Lib.hid (fun j hj => by omega), Below.refl _ _⟩
    case round =>
      obtain ⟨k, hk, rfl, rfl, H, hbw⟩ := hrel
      by_cases hlt : k < l.length
      · have hx := List.getElem?_eq_getElem (l := l) hlt
        generalize l[k] = x at hx
        obtain ⟨g, off, rfl, -, hc⟩ := chn_at HV.out.sl rfl hx
        obtain ⟨d1, d2⟩ := hc _ hbw
        have hmem := List.mem_of_getElem? hx
        have HRW := Lib.hid (HV.out.rows x hmem)
        have HFX := Lib.hid (HF.out.rows x hmem)
        have hxn := HF.out.nums x hmem
        have HX := Lib.hid hx
        have HO := Lib.hid (fun ho => open_next (l := l) (k := k) H.out ho)
        have HO' := Lib.hid (fun ho => open_not (l := l) (k := k) ho)
        have HON : Hid (openAt l (k + 1) = decide (x.k = 3)) := Lib.hid (by show decide (kAt l k = 3) = _; rw [kAt_some hx])
        generalize openAt l k = o at HO HO' ⊢
        clear hx hc hmem
        obtain ⟨xv, xr, xk⟩ := x
        simp only at d1 d2 HRW HFX hxn HON
        obtain ⟨Ax, cx, rfl, -⟩ := id HRW.out
        have hbw2 := hbw.alloc hbw.size (.cells #[.int .i64 xk, .slice Ax xr.length cx] 92)
        have HSX := Lib.hid (HRW.out.below hbw2)
        have kb := (Blk.new wr 92 #[.int .i64 xk, .slice Ax xr.length cx])
        by_cases q1 : xk < 1
        · have EE := Lib.hid (HBAD.out k 4 hlt H.out (err_one HX.out (.inl q1)) (by omega))
          clear HO HO' HON
          go_wp2
          go_ret
          exact ⟨ret_int (by rw [EE.out]), hbw2⟩
        · by_cases q2 : 4 < xk
          · have EE := Lib.hid (HBAD.out k 4 hlt H.out (err_one HX.out (.inr q2)) (by omega))
            clear HO HO' HON
            go_wp2
            go_ret
            exact ⟨ret_int (by rw [EE.out]), hbw2⟩
          · by_cases hy : keyErr xr = 0
            · have HKE := Lib.hid (keyErr_ok hy)
              have HY := Lib.hid hy
              clear hy
              go_wp2_with fail
              refine (key_any _ xr _ HSX.out HFX.out (HM.out.below hbw2)).mono ?_
              rw [HKE.out]
              rintro e w2 ⟨rfl, hb2⟩
              have y0 := (kb.below hb2).cell 0 _ rfl
              have hbw3 := below_trans hbw2 hb2
              have hq : xk = 1 ∨ xk = 2 ∨ xk = 3 ∨ xk = 4 := by omega
              clear q1 q2 hxn
              rcases hq with rfl | rfl | rfl | rfl
              · cases o
                · have HZ := Lib.hid (err_no HX.out (by simp) (by simp) HY.out (by simp))
                  clear HO HO'
                  go_wp2
                  go_roundw
                  case rel => exact ⟨k + 1, by omega, by go_num, by rw [HON.out]; rfl, Lib.hid (pre_more H.out HZ.out), hbw3⟩
                  case measure => simp [intOf]; omega
                · exact absurd (HO.out rfl).2.2 (by rw [kAt_some HX.out]; simp)
              · cases o
                · have HZ := Lib.hid (err_no HX.out (by simp) (by simp) HY.out (by simp))
                  clear HO HO'
                  go_wp2
                  go_roundw
                  case rel => exact ⟨k + 1, by omega, by go_num, by rw [HON.out]; rfl, Lib.hid (pre_more H.out HZ.out), hbw3⟩
                  case measure => simp [intOf]; omega
                · exact absurd (HO.out rfl).2.2 (by rw [kAt_some HX.out]; simp)
              · cases o
                · clear HO HO'
                  by_cases hl2 : k + 1 < l.length
                  · have hx2 := List.getElem?_eq_getElem (l := l) hl2
                    generalize l[k + 1] = x2 at hx2
                    obtain ⟨g2, off2, hg2, -, hc2⟩ := chn_at HV.out.sl rfl hx2
                    injection hg2 with hg2
                    injection hg2 with hg2 hg3
                    subst hg2
                    subst hg3
                    have d3 := (hc2 _ hbw3).1
                    rw [show off + (k + 1) * 2 = off + (k + 1) * 2 from rfl] at d3
                    have HK2 := Lib.hid (kAt_some hx2)
                    clear hx2 hc2
                    generalize x2.k = y2 at d3 HK2
                    have hw : IntKind.i64.wrap ((k : Int) + 1) = (k : Int) + 1 := by rw [IntKind.wrap_i64]; omega
                    have hw1 : ((k : Int) + 1).toNat = k + 1 := by omega
                    have i1 : (0 : Int) ≤ (k : Int) + 1 := by omega
                    have i2 : (k : Int) + 1 < (l.length : Int) := by omega
                    have i3 : ((k : Int) + 1 == (l.length : Int)) = false := beqF (by omega)
                    by_cases q4 : y2 = 4
                    · have HZ := Lib.hid (err_no HX.out (by simp) (by simp) HY.out (by rintro (⟨-, h⟩ | ⟨h, -⟩); exact h (by rw [HK2.out]; exact q4); exact absurd h (by simp)))
                      subst q4
                      go_wp2
                      go_roundw
                      case rel => exact ⟨k + 1, by omega, by go_num, by rw [HON.out]; rfl, Lib.hid (pre_more H.out HZ.out), hbw3⟩
                      case measure => simp [intOf]; omega
                    · have EE := Lib.hid (HBAD.out k 6 hlt H.out (err_six HX.out (by simp) (by simp) HY.out (.inl ⟨rfl, by rw [HK2.out]; exact q4⟩)) (by decide))
                      have q4' := beqF q4
                      go_wp2
                      go_ret
                      exact ⟨ret_int (by rw [EE.out]), hbw3⟩
                  · have hke : l.length = k + 1 := by omega
                    have HKE2 := Lib.hid hke
                    have EE := Lib.hid (HBAD.out k 6 hlt H.out (err_six HX.out (by simp) (by simp) HY.out (.inl ⟨rfl, by rw [kAt_none (by omega)]; decide⟩)) (by decide))
                    have hw : IntKind.i64.wrap ((k : Int) + 1) = (k : Int) + 1 := by rw [IntKind.wrap_i64]; omega
                    have i3 : ((k : Int) + 1 == (l.length : Int)) = true := beqT (by omega)
                    clear hke
                    go_wp2
                    go_ret
                    exact ⟨ret_int (by rw [EE.out]), hbw3⟩
                · exact absurd (HO.out rfl).2.2 (by rw [kAt_some HX.out]; simp)
              · cases o
                · have EE := Lib.hid (HBAD.out k 6 hlt H.out (err_six HX.out (by simp) (by simp) HY.out (.inr ⟨rfl, HO'.out rfl⟩)) (by decide))
                  clear HO HO'
                  go_wp2
                  go_ret
                  exact ⟨ret_int (by rw [EE.out]), hbw3⟩
                · have HZ := Lib.hid (err_no HX.out (by simp) (by simp) HY.out (by rintro (⟨h, -⟩ | ⟨-, h | h⟩); exact absurd h (by simp); exact absurd h (HO.out rfl).1; exact h (HO.out rfl).2.1))
                  clear HO HO'
                  go_wp2
                  go_roundw
                  case rel => exact ⟨k + 1, by omega, by go_num, by rw [HON.out]; rfl, Lib.hid (pre_more H.out HZ.out), hbw3⟩
                  case measure => simp [intOf]; omega
            · have EE := Lib.hid (HBAD.out k _ hlt H.out (err_two HX.out (show (1:Int) ≤ xk by omega) (show xk ≤ 4 by omega) hy) hy)
              have HKE := Lib.hid (keyErr_bad hy)
              have hy' := beqF hy
              simp only at EE
              generalize keyErr xr = y at EE HKE hy'
              clear HO HO' HON hy
              go_wp2_with fail
              refine (key_any _ xr _ HSX.out HFX.out (HM.out.below hbw2)).mono ?_
              rw [HKE.out]
              rintro e w2 ⟨rfl, hb2⟩
              have hbw3 := below_trans hbw2 hb2
              go_wp2
              go_ret
              exact ⟨ret_int (by rw [EE.out]), hbw3⟩
      · obtain rfl : k = l.length := by omega
        have EE := Lib.hid (HGOOD.out H.out)
        go_wp2
        go_ret
        exact ⟨ret_int (by rw [EE.out]), hbw⟩

end Go.Proofs.YtelmlagolmabpaaDoor
