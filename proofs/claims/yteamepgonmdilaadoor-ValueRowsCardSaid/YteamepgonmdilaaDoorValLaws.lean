/-
  The walks of the laws on values.
-/
import Derived.Test.YteamepgonmdilaaDoorValue15
import Derived.Test.YteamepgonmdilaaDoorValTells
namespace Go.Proofs.YteamepgonmdilaaDoor
open Go.RowKit

set_option maxHeartbeats 400000 in
theorem num_any (n : Int) (w : World) : Calls Tryd.prog 20 #[.int .i64 n] w fun e w' => e = .returned (.agg #[.int .i64 2, .int .i64 n, .string ⟨#[]⟩]) ∧ Below w.heap.size w w' := by
  go_enter Tryd.func20, Tryd.ntmps20
  go_wp2
  exact bodyPost_ret (v := .agg #[.int .i64 2, .int .i64 n, .string ⟨#[]⟩]) (by simp [results, Tryd.results20, go_sem]) rfl ⟨rfl, below_alloc _ _⟩
set_option maxHeartbeats 400000 in
theorem word_any (s : ByteArray) (w : World) : Calls Tryd.prog 21 #[.string s] w fun e w' => e = .returned (.agg #[.int .i64 3, .int .i64 0, .string s]) ∧ Below w.heap.size w w' := by
  go_enter Tryd.func21, Tryd.ntmps21
  go_wp2
  exact bodyPost_ret (v := .agg #[.int .i64 3, .int .i64 0, .string s]) (by simp [results, Tryd.results21, go_sem]) rfl ⟨rfl, below_alloc _ _⟩

/-- The row that valueBegun makes. -/
def begunRow : List Val := [⟨2, -1, ⟨#[]⟩⟩, ⟨3, 0, ⟨#[97, 0]⟩⟩, ⟨1, 1, ⟨#[]⟩⟩, ⟨0, 0, ⟨#[]⟩⟩]
theorem begun_good : ∀ x ∈ begunRow, checkV x = 0 ∧ -9223372036854775808 ≤ x.n ∧ x.n ≤ 9223372036854775807 := by
  intro x hx
  simp only [begunRow, List.mem_cons, List.mem_nil_iff, or_false] at hx
  rcases hx with rfl | rfl | rfl | rfl
  · exact ⟨chk2 _, by simp⟩
  · refine ⟨?_, by simp⟩
    have : (⟨#[97, 0]⟩ : ByteArray).size = 2 := rfl
    simp [checkV, this]
  · exact ⟨chk1 _ (.inr rfl), by simp⟩
  · exact ⟨chk0, by simp⟩
theorem begun_fine : Fine begunRow := ⟨fun x hx => Nat.le_trans (good_size (begun_good x hx).1) (by omega), fun x hx => (begun_good x hx).2⟩
theorem begun_err : keyErr begunRow = 0 := keyErr_good (by decide) fun x hx => (begun_good x hx).1
theorem begun_keyR : keyR begunRow = (str (keyRow begunRow), 0) := by unfold keyR; rw [begun_err]; simp
theorem begun_backR : backR (str (keyRow begunRow)).toList = (begunRow, 0) := by
  rw [str_toList]
  exact backR_yes (dec_make begunRow 8 (by decide) begun_good)
theorem begun_size : (str (keyRow begunRow)).size ≤ 4611686018427387904 := by
  rw [str_size]
  have : ∀ l : List Val, (∀ x ∈ l, checkV x = 0) → (keyRow l).length ≤ 131 * l.length := by
    intro l
    induction l with
    | nil => intro _; simp [keyRow]
    | cons x l ih =>
      intro h
      have h1 := keyCell_len x (good_size (h x (by simp)))
      have h2 := ih fun y hy => h y (by simp [hy])
      rw [show keyRow (x :: l) = keyCell x ++ keyRow l from List.flatMap_cons, List.length_append, List.length_cons]
      omega
  have h := this begunRow fun x hx => (begun_good x hx).1
  have : begunRow.length = 4 := rfl
  omega
theorem begun_rows : rowsF begunRow (begunRow.take 2) = 1 := by
  simp [begunRow, rowsF, cmpV_self]
theorem begun_cmp : cmpV ⟨2, 1, ⟨#[]⟩⟩ ⟨2, 2, ⟨#[]⟩⟩ = -1 := (cmpV_n (x := ⟨2, 1, ⟨#[]⟩⟩) (y := ⟨2, 2, ⟨#[]⟩⟩) rfl rfl).trans (ordI_lt (by decide))

theorem begun_sl (w1 : World) : Sl (w1.alloc (.cells #[.int .i64 2, .int .i64 (-1), .string ⟨#[]⟩, .int .i64 3, .int .i64 0, .string ⟨#[97, 0]⟩, .int .i64 1, .int .i64 1, .string ⟨#[]⟩, .int .i64 0, .int .i64 0, .string ⟨#[]⟩] 23)) (.slice (some ⟨w1.heap.size, 0, none⟩) 4 4) begunRow.length (rowCells begunRow) :=
  Sl.block (Blk.new w1 23 _) 4 4 (Nat.le_refl _) (by decide)
theorem begun_sl2 {w1 : World} {A : Option Addr} {c : Nat} (h : Sl w1 (.slice A 4 c) begunRow.length (rowCells begunRow)) : Sl w1 (.slice A 2 c) (begunRow.take 2).length (rowCells (begunRow.take 2)) :=
  Sl.take (size := 3) (k := 2) h (by decide)

set_option maxHeartbeats 4000000 in
set_option maxRecDepth 3000 in
theorem valueBegun_any (w : World) (hm : Mx w) :
    Calls Tryd.prog 7 #[] w fun e w' => e = .returned (.bool true) ∧ Below w.heap.size w w' := by
  go_enter Tryd.func7, Tryd.ntmps7
  go_wp2_with fail
  refine (num_any _ _).mono ?_
  rintro e w1 ⟨rfl, hb1⟩
  go_wp2_with fail
  refine (word_any _ _).mono ?_
  rintro e w2 ⟨rfl, hb2⟩
  have h2 := below_trans hb1 hb2
  have HS := Lib.hid (begun_sl w2)
  have h3 := below_trans h2 (below_alloc w2 (.cells #[.int .i64 2, .int .i64 (-1), .string ⟨#[]⟩, .int .i64 3, .int .i64 0, .string ⟨#[97, 0]⟩, .int .i64 1, .int .i64 1, .string ⟨#[]⟩, .int .i64 0, .int .i64 0, .string ⟨#[]⟩] 23))
  clear hb1 hb2 h2
  go_wp2_with fail
  refine (key_any _ begunRow _ HS.out begun_fine (hm.below h3)).mono ?_
  rw [begun_keyR]
  rintro e w4 ⟨rfl, hb4⟩
  have HS4 := Lib.hid (HS.out.below hb4)
  have h4 := below_trans h3 hb4
  clear h3 hb4 HS
  go_wp2_with fail
  refine (back_any _ _ begun_size).mono ?_
  rw [begun_backR]
  rintro e w5 ⟨v5, rfl, hs5, -, hb5⟩
  have HS5 := Lib.hid (HS4.out.below hb5)
  have HV5 := Lib.hid hs5
  have h5 := below_trans h4 hb5
  clear hb5 hs5 HS4 h4
  go_wp2_with fail
  refine (same_any _ _ begunRow begunRow _ HV5.out HS5.out).mono ?_
  rw [(sameR_iff begunRow begunRow).2 rfl]
  rintro e w6 ⟨rfl, hb6⟩
  have HS6 := Lib.hid (HS5.out.below hb6)
  have h6 := below_trans h5 hb6
  clear hb6 HS5 h5 HV5
  go_wp2_with fail
  refine (num_any _ _).mono ?_
  rintro e w7 ⟨rfl, hb7⟩
  have HS7 := Lib.hid (HS6.out.below hb7)
  have h7 := below_trans h6 hb7
  clear hb7 HS6 h6
  go_wp2_with fail
  refine (num_any _ _).mono ?_
  rintro e w8 ⟨rfl, hb8⟩
  have HS8 := Lib.hid (HS7.out.below hb8)
  have h8 := below_trans h7 hb8
  clear hb8 HS7 h7
  go_wp2_with fail
  refine (compare_val ⟨2, 1, ⟨#[]⟩⟩ ⟨2, 2, ⟨#[]⟩⟩ _).mono ?_
  rw [begun_cmp]
  rintro e w9 ⟨rfl, hb9⟩
  have HS9 := Lib.hid (HS8.out.below hb9)
  have h9 := below_trans h8 hb9
  clear hb9 HS8 h8
  go_wp2_with fail
  refine (rows_any _ _ begunRow (begunRow.take 2) _ HS9.out (begun_sl2 HS9.out)).mono ?_
  rw [begun_rows]
  rintro e w10 ⟨rfl, hb10⟩
  have h10 := below_trans h9 hb10
  clear hb10 HS9 h9
  go_wp2
  go_ret
  exact ⟨rfl, h10⟩

/-! ### The laws -/
theorem Mx.drew {w : World} (h : Mx w) : Mx w.drew := h
set_option maxHeartbeats 4000000 in
set_option maxRecDepth 3000 in
theorem valueBack_walk (s : ByteArray) (w : World) (hs : s.size ≤ 140737488351232) (hm : Mx w) :
    Calls Tryd.prog 5 #[.string s] w fun e w' => e = .returned (.bool true) ∧ Below w.heap.size w w' := by
  have HB := Lib.hid (back_any s w (by omega))
  have HR := Lib.hid (fun w => rback_any s w (by omega))
  cases hd : decG 8 s.toList with
  | none =>
    obtain ⟨e1, e2⟩ := rowOf_no hd
    rw [backR_no hd] at HB
    rw [e1, e2] at HR
    clear hd e1 e2
    go_enter Tryd.func5, Tryd.ntmps5
    go_wp2_with fail
    refine HB.out.mono ?_
    rintro e w1 ⟨v1, rfl, hs1, -, hb1⟩
    obtain ⟨A1, c1, rfl, -⟩ := hs1
    go_wp2_with fail
    refine (HR.out _).mono ?_
    rintro e w2 ⟨v2, rfl, -, hb2⟩
    have h2 := below_trans hb1 hb2
    clear HB HR hb1 hb2
    go_wp2_with fail
    refine (valueBegun_any _ (hm.below h2)).mono ?_
    rintro e w3 ⟨rfl, hb3⟩
    have h3 := below_trans h2 hb3
    go_wp2
    go_ret
    exact ⟨rfl, h3⟩
  | some r =>
    obtain ⟨e1, e2⟩ := rowOf_yes hd
    rw [backR_yes hd] at HB
    rw [e1, e2] at HR
    clear hd e1 e2
    go_enter Tryd.func5, Tryd.ntmps5
    go_wp2_with fail
    refine HB.out.mono ?_
    rintro e w1 ⟨v1, rfl, hs1, -, hb1⟩
    have HS1 := Lib.hid hs1
    clear hs1
    go_wp2_with fail
    refine (HR.out _).mono ?_
    rintro e w2 ⟨v2, rfl, hs2, hb2⟩
    have h2 := below_trans hb1 hb2
    have HS2 := Lib.hid hs2
    have HS1' := Lib.hid (HS1.out.below hb2)
    clear HB HR hb1 hb2 hs2 HS1
    go_wp2_with fail
    refine (valueBegun_any _ (hm.below h2)).mono ?_
    rintro e w3 ⟨rfl, hb3⟩
    have h3 := below_trans h2 hb3
    have K1 := Lib.hid (HS1'.out.below hb3)
    have K2 := Lib.hid (HS2.out.below hb3)
    clear hb3 h2 HS1' HS2
    go_wp2_with fail
    refine (same_any _ _ r r _ K1.out K2.out).mono ?_
    rw [(sameR_iff r r).2 rfl]
    rintro e w4 ⟨rfl, hb4⟩
    have h4 := below_trans h3 hb4
    clear hb4 h3
    go_wp2
    go_ret
    exact ⟨rfl, h4⟩

theorem keyR_bad {l : List Val} (h : keyErr l ≠ 0) : keyR l = (⟨#[]⟩, keyErr l) := by unfold keyR; rw [if_pos h]
theorem keyR_good {l : List Val} (h : keyErr l = 0) : keyR l = (str (keyRow l), 0) := by unfold keyR; rw [h]; rfl

set_option maxHeartbeats 4000000 in
set_option maxRecDepth 3000 in
theorem valueRows_walk (va vb : Value) (a b : List Val) (w : World) (ha : Sl w va a.length (rowCells a)) (fa : Fine a) (hb : Sl w vb b.length (rowCells b)) (hm : Mx w) :
    Calls Tryd.prog 4 #[va, vb] w fun e w' => e = .returned (.bool true) ∧ Below w.heap.size w w' := by
  have HA := Lib.hid ha
  have HB := Lib.hid hb
  have FA := Lib.hid fa
  clear ha hb fa
  by_cases hk : keyErr a = 0
  · have HK := Lib.hid hk
    have E1 := Lib.hid (keyR_good hk)
    clear hk
    go_enter Tryd.func4, Tryd.ntmps4
    go_wp2_with fail
    refine (key_any _ a _ HA.out FA.out hm).mono ?_
    rw [E1.out]
    rintro e w1 ⟨rfl, h1⟩
    go_wp2_with fail
    refine (keyError_any _ a _ (HA.out.below h1) FA.out.small).mono ?_
    rw [HK.out]
    rintro e w2 ⟨rfl, hb2⟩
    have h2 := below_trans h1 hb2
    clear h1 hb2
    go_wp2_with fail
    refine (rkey_any _ a _ (HA.out.below h2) FA.out HK.out).mono ?_
    rintro e w3 ⟨rfl, hb3⟩
    have h3 := below_trans h2 hb3
    clear h2 hb3
    go_wp2_with fail
    refine (valueBegun_any _ (hm.below h3)).mono ?_
    rintro e w4 ⟨rfl, hb4⟩
    have h4 := below_trans h3 hb4
    clear h3 hb4
    go_wp2_with fail
    refine (rows_any _ _ a b _ (HA.out.below h4) (HB.out.below h4)).mono ?_
    rintro e w5 ⟨rfl, hb5⟩
    have h5 := below_trans h4 hb5
    clear h4 hb5
    go_wp2_with fail
    refine (rrows_any _ _ a b _ (HA.out.below h5) (HB.out.below h5)).mono ?_
    rintro e w6 ⟨rfl, hb6⟩
    have h6 := below_trans h5 hb6
    clear h5 hb6
    go_wp2
    go_ret
    exact ⟨rfl, h6⟩
  · have E1 := Lib.hid (keyR_bad hk)
    have hq := beqF hk
    clear hk
    go_enter Tryd.func4, Tryd.ntmps4
    go_wp2_with fail
    refine (key_any _ a _ HA.out FA.out hm).mono ?_
    rw [E1.out]
    rintro e w1 ⟨rfl, h1⟩
    go_wp2_with fail
    refine (keyError_any _ a _ (HA.out.below h1) FA.out.small).mono ?_
    rintro e w2 ⟨rfl, hb2⟩
    have h2 := below_trans h1 hb2
    clear h1 hb2
    go_wp2_with fail
    refine (valueBegun_any _ (hm.below h2)).mono ?_
    rintro e w4 ⟨rfl, hb4⟩
    have h4 := below_trans h2 hb4
    clear h2 hb4
    go_wp2_with fail
    refine (rows_any _ _ a b _ (HA.out.below h4) (HB.out.below h4)).mono ?_
    rintro e w5 ⟨rfl, hb5⟩
    have h5 := below_trans h4 hb5
    clear h4 hb5
    go_wp2_with fail
    refine (rrows_any _ _ a b _ (HA.out.below h5) (HB.out.below h5)).mono ?_
    rintro e w6 ⟨rfl, hb6⟩
    have h6 := below_trans h5 hb6
    clear h5 hb6
    go_wp2
    go_ret
    exact ⟨rfl, h6⟩

theorem good_of {l : List Val} (hf : Fine l) (h : keyErr l = 0) : Good l := fun x hx => ⟨(keyErr_zero h).2 x hx, hf.nums x hx⟩

set_option maxHeartbeats 4000000 in
set_option maxRecDepth 3000 in
theorem valueTells_walk (va vb : Value) (a b : List Val) (w : World) (ha : Sl w va a.length (rowCells a)) (fa : Fine a) (hb : Sl w vb b.length (rowCells b)) (fb : Fine b) (hm : Mx w) :
    Calls Tryd.prog 6 #[va, vb] w fun e w' => e = .returned (.bool true) ∧ Below w.heap.size w w' := by
  have HA := Lib.hid ha
  have HB := Lib.hid hb
  have FA := Lib.hid fa
  have FB := Lib.hid fb
  by_cases hk : keyErr a = 0
  · by_cases hl : keyErr b = 0
    · have E1 := Lib.hid (keyR_good hk)
      have E2 := Lib.hid (keyR_good hl)
      have ga := good_of fa hk
      have gb := good_of fb hl
      have EB := Lib.hid (show backR (str (keyRow a)).toList = (a, 0) from by rw [str_toList]; exact backR_yes (dec_make a 8 (keyErr_zero hk).1 ga))
      have hz : (str (keyRow a)).size ≤ 4611686018427387904 := by
        have : ∀ l : List Val, (∀ x ∈ l, checkV x = 0) → (keyRow l).length ≤ 131 * l.length := by
          intro l
          induction l with
          | nil => intro _; simp [keyRow]
          | cons x l ih =>
            intro h
            have h1 := keyCell_len x (good_size (h x (by simp)))
            have h2 := ih fun y hy => h y (by simp [hy])
            rw [show keyRow (x :: l) = keyCell x ++ keyRow l from List.flatMap_cons, List.length_append, List.length_cons]
            omega
        have h := this a fun x hx => (ga x hx).1
        have := (keyErr_zero hk).1
        rw [str_size]
        omega
      have L1 : Op.bytesLess (str (keyRow a)).toList (str (keyRow b)).toList = decide (rowsF a b < 0) := by rw [str_toList, str_toList]; exact key_less ga gb
      have L2 : ((str (keyRow a)).toList == (str (keyRow b)).toList) = decide (rowsF a b = 0) := by rw [str_toList, str_toList]; exact key_same ga gb
      have L3 : sameR a b = decide (rowsF a b = 0) := by rw [← key_same ga gb]; exact (key_tells ga gb (keyErr_zero hk).1 (keyErr_zero hl).1).symm
      have L4 : (rowsF a b == 0) = decide (rowsF a b = 0) := by rw [Bool.eq_iff_iff]; simp
      have HL3 := Lib.hid L3
      clear ga gb hk hl ha hb fa fb L3
      go_enter Tryd.func6, Tryd.ntmps6
      go_wp2_with fail
      refine (key_any _ a _ HA.out FA.out hm).mono ?_
      rw [E1.out]
      rintro e w1 ⟨rfl, h1⟩
      go_wp2_with fail
      refine (key_any _ b _ (HB.out.below h1) FB.out (hm.below h1)).mono ?_
      rw [E2.out]
      rintro e w2 ⟨rfl, hb2⟩
      have h2 := below_trans h1 hb2
      clear h1 hb2
      go_wp2_with fail
      refine (back_any _ _ hz).mono ?_
      rw [EB.out]
      rintro e w3 ⟨v3, rfl, hs3, -, hb3⟩
      have HS3 := Lib.hid hs3
      have h3 := below_trans h2 hb3
      clear h2 hb3 hs3
      go_wp2_with fail
      refine (rows_any _ _ a b _ (HA.out.below h3) (HB.out.below h3)).mono ?_
      rintro e w4 ⟨rfl, hb4⟩
      have HS4 := Lib.hid (HS3.out.below hb4)
      have h4 := below_trans h3 hb4
      clear h3 hb4 HS3
      go_wp2_with fail
      refine (valueBegun_any _ (hm.below h4)).mono ?_
      rintro e w5 ⟨rfl, hb5⟩
      have HS5 := Lib.hid (HS4.out.below hb5)
      have h5 := below_trans h4 hb5
      clear h4 hb5 HS4
      go_wp2_with fail
      refine (same_any _ _ a a _ HS5.out (HA.out.below h5)).mono ?_
      rw [(sameR_iff a a).2 rfl]
      rintro e w6 ⟨rfl, hb6⟩
      have h6 := below_trans h5 hb6
      clear h5 hb6 HS5
      go_wp2_with fail
      refine (same_any _ _ a b _ (HA.out.below h6) (HB.out.below h6)).mono ?_
      rw [HL3.out]
      rintro e w7 ⟨rfl, hb7⟩
      have h7 := below_trans h6 hb7
      clear h6 hb7
      go_wp2
      go_ret
      exact ⟨rfl, h7⟩
    · have E1 := Lib.hid (keyR_good hk)
      have E2 := Lib.hid (keyR_bad hl)
      have hq := beqF hl
      have hq2 := bneT hl
      clear hk hl ha hb fa fb
      go_enter Tryd.func6, Tryd.ntmps6
      go_wp2_with fail
      refine (key_any _ a _ HA.out FA.out hm).mono ?_
      rw [E1.out]
      rintro e w1 ⟨rfl, h1⟩
      go_wp2_with fail
      refine (key_any _ b _ (HB.out.below h1) FB.out (hm.below h1)).mono ?_
      rw [E2.out]
      rintro e w2 ⟨rfl, hb2⟩
      have h2 := below_trans h1 hb2
      clear h1 hb2
      go_wp2_with fail
      refine (valueBegun_any _ (hm.below h2)).mono ?_
      rintro e w5 ⟨rfl, hb5⟩
      have h5 := below_trans h2 hb5
      clear h2 hb5
      go_wp2
      go_ret
      exact ⟨rfl, h5⟩
  · have E1 := Lib.hid (keyR_bad hk)
    have hq := beqF hk
    have hq2 := bneT hk
    clear hk ha hb fa fb
    go_enter Tryd.func6, Tryd.ntmps6
    go_wp2_with fail
    refine (key_any _ a _ HA.out FA.out hm).mono ?_
    rw [E1.out]
    rintro e w1 ⟨rfl, h1⟩
    go_wp2_with fail
    refine (key_any _ b _ (HB.out.below h1) FB.out (hm.below h1)).mono ?_
    rintro e w2 ⟨rfl, hb2⟩
    have h2 := below_trans h1 hb2
    clear h1 hb2
    go_wp2_with fail
    refine (valueBegun_any _ (hm.below h2)).mono ?_
    rintro e w5 ⟨rfl, hb5⟩
    have h5 := below_trans h2 hb5
    clear h2 hb5
    go_wp2
    go_ret
    exact ⟨rfl, h5⟩

set_option maxHeartbeats 4000000 in
set_option maxRecDepth 3000 in
theorem valueChecks_walk (a b : Val) (w : World) (ha : a.s.size ≤ 9223372036854775807) (hm : Mx w) :
    Calls Tryd.prog 3 #[.agg #[.int .i64 a.k, .int .i64 a.n, .string a.s], .agg #[.int .i64 b.k, .int .i64 b.n, .string b.s]] w fun e w' => e = .returned (.bool true) ∧ Below w.heap.size w w' := by
  have K1 := new_first w 23 #[.int .i64 a.k, .int .i64 a.n, .string a.s] (.cells #[.int .i64 b.k, .int .i64 b.n, .string b.s] 23)
  have K2 := new_second w 23 #[.int .i64 b.k, .int .i64 b.n, .string b.s] (.cells #[.int .i64 a.k, .int .i64 a.n, .string a.s] 23)
  have hB := below_trans (below_alloc w (.cells #[.int .i64 a.k, .int .i64 a.n, .string a.s] 23)) (below_alloc _ (.cells #[.int .i64 b.k, .int .i64 b.n, .string b.s] 23))
  have M0 := hm.below hB
  have cells : ∀ W, Below ((w.alloc (.cells #[.int .i64 a.k, .int .i64 a.n, .string a.s] 23)).alloc (.cells #[.int .i64 b.k, .int .i64 b.n, .string b.s] 23)).heap.size ((w.alloc (.cells #[.int .i64 a.k, .int .i64 a.n, .string a.s] 23)).alloc (.cells #[.int .i64 b.k, .int .i64 b.n, .string b.s] 23)).drew W →
      (W.cell? ⟨w.heap.size, 0, none⟩ = some (.int .i64 a.k) ∧ W.cell? ⟨w.heap.size, 1, none⟩ = some (.int .i64 a.n) ∧ W.cell? ⟨w.heap.size, 2, none⟩ = some (.string a.s)) ∧
      W.cell? ⟨w.heap.size + 1, 0, none⟩ = some (.int .i64 b.k) ∧ W.cell? ⟨w.heap.size + 1, 1, none⟩ = some (.int .i64 b.n) ∧ W.cell? ⟨w.heap.size + 1, 2, none⟩ = some (.string b.s) := fun W h =>
    ⟨⟨(K1.drew.below h).cell 0 _ rfl, (K1.drew.below h).cell 1 _ rfl, (K1.drew.below h).cell 2 _ rfl⟩, (K2.drew.below h).cell 0 _ rfl, (K2.drew.below h).cell 1 _ rfl, (K2.drew.below h).cell 2 _ rfl⟩
  have HC := Lib.hid cells
  clear cells K1 K2
  go_enter Tryd.func3, Tryd.ntmps3
  go_wp2_with fail
  go_region_held3 (fun W => (W.cell? ⟨w.heap.size, 0, none⟩ = some (.int .i64 a.k) ∧ W.cell? ⟨w.heap.size, 1, none⟩ = some (.int .i64 a.n) ∧ W.cell? ⟨w.heap.size, 2, none⟩ = some (.string a.s)) ∧
      W.cell? ⟨w.heap.size + 1, 0, none⟩ = some (.int .i64 b.k) ∧ W.cell? ⟨w.heap.size + 1, 1, none⟩ = some (.int .i64 b.n) ∧ W.cell? ⟨w.heap.size + 1, 2, none⟩ = some (.string b.s))
    (first | go_keep | exact z1 | exact z2 | exact z3 | exact z4 | exact z5)
    (first
      | (go_at_call 7
         refine (valueBegun_any _ (Mx.drew M0)).mono ?_
         rintro e w1 ⟨rfl, S1⟩
         have z1 := HC.out _ S1)
      | (go_at_call 8
         refine (check_val a _ ha).mono ?_
         rintro e w2 ⟨rfl, hb2⟩
         have S2 := below_trans S1 hb2
         have z2 := HC.out _ S2)
      | (go_at_call 9
         refine (rcheck_val a _ ha).mono ?_
         rintro e w3 ⟨rfl, hb3⟩
         have S3 := below_trans S2 hb3
         have z3 := HC.out _ S3)
      | (go_at_call 10
         refine (compare_val a b _).mono ?_
         rintro e w4 ⟨rfl, hb4⟩
         have S4 := below_trans S3 hb4
         have z4 := HC.out _ S4)
      | (go_at_call 11
         refine (rcompare_val a b _).mono ?_
         rintro e w5 ⟨rfl, hb5⟩
         have S5 := below_trans S4 hb5
         have z5 := HC.out _ S5))
  go_wp2
  go_ret
  exact ⟨rfl, below_trans hB.drew S5⟩

end Go.Proofs.YteamepgonmdilaaDoor
