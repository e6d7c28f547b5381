/-
  Undo, and the reference's UndoOf.
-/
import Derived.Test.YtelmlagolmabpaaDoorChgM7
import Derived.Test.YtelmlagolmabpaaDoorChg21
import Derived.Test.YtelmlagolmabpaaDoorChgM6
set_option linter.unusedSimpArgs false
set_option linter.unusedVariables false
namespace Go.Proofs.YtelmlagolmabpaaDoor
open Go.RowKit Go.Maps

theorem nil_yes (W : World) (n c : Nat) : (binOp .eql 34 (.slice none n c) (.slice none 0 0)).run Tryd.prog W = .ok (.bool true) W := by kernel_rfl
theorem nil_no (W : World) (p : Addr) (n c : Nat) : (binOp .eql 34 (.slice (some p) n c) (.slice none 0 0)).run Tryd.prog W = .ok (.bool false) W := by kernel_rfl
set_option maxHeartbeats 1000000 in
set_option maxRecDepth 10000 in
theorem clone_any (v : Value) (l : List Val) (w : World) (h : Sl w v l.length (rowCells l)) (h8 : l.length ≤ 8) :
    Calls Tryd.prog 83 #[v] w fun e w' => ∃ v', e = .returned v' ∧ Sl w' v' l.length (rowCells l) ∧ (∀ k, v'.ownBlock = some k → w.heap.size ≤ k ∧ k < w'.heap.size) ∧ Below w.heap.size w w' := by
  have HH := Lib.hid h
  obtain ⟨A, c, rfl, h1, h2, -, h3⟩ := h
  clear h2
  have HO := Lib.hid (own_emptyT w w.heap.size 79 3 (Nat.le_refl _))
  have hB := below_alloc w (.cells #[] 79)
  have HS := Lib.hid (HH.out.below hB)
  cases A with
  | none =>
    have hl : l = [] := by
      cases l with
      | nil => rfl
      | cons x t => obtain ⟨b, off, hA, -⟩ := h3 (by simp [rowCells, Val.cells]); cases hA
    subst hl
    clear h3
    have hnil := fun W => nil_yes W 0 c
    go_enter Tryd.func83, Tryd.ntmps83
    go_wp2
    go_ret
    exact ⟨_, rfl, Sl.nil_ _, nofun, Below.refl _ _⟩
  | some p =>
    clear h3
    have hnil := fun W => nil_no W p l.length c
    go_enter Tryd.func83, Tryd.ntmps83
    go_wp2_with (at_builtin; refine wpList_app rfl (.tmp 5) (.tmp 6) 34 rfl w.heap.size 79 3 32 Tryd.underlying34 valJ _ 0 _ rfl HO.out _ l.length (rowCells l) rfl HS.out (rowCells_len l) (rowCells_one l) ?_ ?_ ?_ ?_)
    · unfold maxLen; omega
    · omega
    · exact hB.size
    · intro v2 w3 hown3 hg3 hat3
      have hb3 := below_grown hB hg3 (own_ge HO.out)
      have S3 : Hid (Sl w3 v2 l.length (rowCells l)) := Lib.hid (by have := Sl.of_own hown3; simpa using this)
      have G3 := Lib.hid (fun k hk => And.intro (own_ge hown3 k hk) (own_lt hown3 k hk))
      clear hown3 hg3 hat3
      go_wp2
      go_ret
      exact ⟨_, rfl, S3.out, G3.out, hb3⟩

theorem undo_cons (c : Int × List Val) (L : KL) : undoL (c :: L) = undoL L ++ [(invK c.1, c.2)] := by simp [undoL]
def undoS (m : List Chn) : KL × Int := if formC m ≠ 0 then ([], formC m) else (undoL (ac m), 0)

set_option maxHeartbeats 8000000 in
set_option maxRecDepth 100000 in
theorem cundo_any (vm : Value) (m : List Chn) (w : World) (hs : Chs w vm m) (hfm : FineC m) (hm : Mx w) :
    Calls Tryd.prog 45 #[vm] w fun e w' => ∃ v' l', e = .returned (.tuple #[v', .int .i64 (undoS m).2]) ∧ Chs w' v' l' ∧ ac l' = (undoS m).1 ∧ Below w.heap.size w w' := by
  have HS := Lib.hid hs
  have HFM := Lib.hid hfm
  have HM := Lib.hid hm
  have HE : Hid (undoS m = if formC m ≠ 0 then ([], formC m) else (undoL (ac m), 0)) := Lib.hid rfl
  have HFZ := Lib.hid (form_zero hfm)
  generalize undoS m = R at HE ⊢
  obtain ⟨Am, cm, rfl, hm1, hm2, -⟩ := id hs.sl
  unfold maxLen at hm2
  clear hs hfm hm
  generalize hy : formC m = y at HE HFZ
  have HY := Lib.hid hy
  clear hy
  go_enter Tryd.func45, Tryd.ntmps45
  go_wp2_with fail
  refine (cform_any _ m _ HS.out HFM.out HM.out).mono ?_
  rw [HY.out]
  rintro e w1 ⟨rfl, hb1⟩
  by_cases hy : y = 0
  · have HE2 := Lib.hid (HE.out.trans (if_neg (fun h => h hy)))
    have HGC := Lib.hid (HFZ.out hy)
    subst hy
    have hml : m.length ≤ 4096 := HGC.out.few
    have hwl : IntKind.i64.wrap ((m.length : Int) - 1) = (m.length : Int) - 1 := by rw [IntKind.wrap_i64]; omega
    clear HE HFZ
    go_wp2_with fail
    go_loopw [5, 6, 7] (fun out ii _ wr => ∃ (k : Nat) (v' : Value) (o : List Chn), v' = out ∧ ii = .int .i64 ((k : Int) - 1) ∧ k ≤ m.length ∧ o.length + k = m.length ∧ Hid (ac o = undoL ((ac m).drop k)) ∧ Hid (OwnC wr w.heap.size v' o) ∧ Below w.heap.size w wr) (fun _ ii _ _ => (intOf ii + 1).toNat)
    case atStart => exact ⟨m.length, _, [], rfl, rfl, by omega, by simp, Lib.hid (by rw [show (ac m).drop m.length = [] from List.drop_of_length_le (by rw [ac_len]; exact Nat.le_refl _)]; rfl), Lib.hid (OwnC.nil _ _), hb1⟩
    case round =>
      obtain ⟨k, v', o, rfl, rfl, hk, hok, HA, HO, hbw⟩ := hrel
      cases k with
      | zero =>
        rw [show ((0 : Nat) : Int) - 1 = -1 from rfl]
        have HA2 : Hid (ac o = undoL (ac m)) := Lib.hid (by rw [HA.out, List.drop_zero])
        go_wp2
        go_ret2
        first
          | exact ⟨_, o, by rw [HE2.out]; rfl, HO.out.chs, by rw [HE2.out]; exact HA2.out, hbw⟩
          | exact ⟨_, by rw [HE2.out]; rfl, o, HO.out.chs, by rw [HE2.out]; exact HA2.out, hbw⟩
      | succ k =>
        have hlt : k < m.length := by omega
        have hx := List.getElem?_eq_getElem (l := m) hlt
        generalize m[k] = x at hx
        obtain ⟨g, off, rfl, -, hcc⟩ := chn_at HS.out.sl rfl hx
        have HC := Lib.hid hcc
        have hmem := List.mem_of_getElem? hx
        have HRX := Lib.hid (HS.out.rows x hmem)
        have h8 := (HGC.out.good x hmem).1.few
        have hx1 := (HGC.out.good x hmem).2.1
        have hx4 := (HGC.out.good x hmem).2.2
        have HU : Hid (undoL ((ac m).drop k) = undoL ((ac m).drop (k + 1)) ++ [(invK x.k, x.r)]) := Lib.hid (by rw [ac_at2 hx, undo_cons])
        clear hx hcc hmem
        obtain ⟨xv, xr, xk⟩ := x
        simp only at HC HRX h8 hx1 hx4 HU
        obtain ⟨Ax, cx, rfl, -⟩ := id HRX.out
        obtain ⟨d1, d2⟩ := HC.out _ hbw
        have hu : Hid (∀ y, v'.ownBlock = some y → y < wr.heap.size) := Lib.hid (own_lt HO.out.own)
        have ek : (((k + 1 : Nat) : Int) - 1) = (k : Int) := by omega
        rw [ek]
        have k0 : (0 : Int) ≤ (k : Int) := by omega
        have k1 : (k : Int) < (m.length : Int) := by omega
        have hD : xk = 1 ∨ xk = 2 ∨ xk = 3 ∨ xk = 4 := by omega
        clear hx1 hx4
        rcases hD with rfl | rfl | rfl | rfl
        · have hix : ∀ W, (Instr.index 107 (.agg #[.int .i64 0, .int .i64 2, .int .i64 1, .int .i64 4, .int .i64 3]) (.int .i64 1)).run Tryd.prog W = .ok (.int .i64 2) W := fun W => by kernel_rfl
          go_wp2_with fail
          refine (clone_any _ xr _ (HRX.out.below hbw) h8).mono ?_
          rintro e w2 ⟨v2, rfl, hs2, hf2, hb2⟩
          have hbw2 := below_trans hbw hb2
          have HO2 := Lib.hid (HO.out.below hb2)
          have HS2 := Lib.hid hs2
          have HF2 := Lib.hid (fun y (hy : v2.ownBlock = some y) => And.intro (Nat.le_trans hbw.size (hf2 y hy).1) (And.intro (hf2 y hy).2 (fun e => Nat.lt_irrefl _ (Nat.lt_of_lt_of_le (hu.out y e) (hf2 y hy).1))))
          obtain ⟨A2, c2, rfl, -⟩ := id hs2
          clear hs2 hf2
          have HO3 := Lib.hid (HO2.out.alloc (.cells #[.int .i64 2, .slice A2 xr.length c2] 92))
          have hbw3 := hbw2.alloc hbw2.size (.cells #[.int .i64 2, .slice A2 xr.length c2] 92)
          go_wp2_with
            (at_builtin
             refine wpList_app rfl (.tmp 27) (.tmp 36) 52 rfl w.heap.size 92 2 32 Tryd.underlying52 chgI v' o.length _ rfl HO3.out.own _ 1 (Chn.cells ⟨.slice A2 xr.length c2, xr, 2⟩) rfl (one_chn w2 ⟨.slice A2 xr.length c2, xr, 2⟩) rfl (chn_one HS2.out) (by unfold maxLen; omega) (by omega) hbw3.size ?_
             intro v4 w4 hown4 hg4 hat4)
          have hbw4 := below_grown hbw3 hg4 (own_ge HO2.out.own)
          have HN : Hid (OwnC w4 w.heap.size v4 (o ++ [⟨.slice A2 xr.length c2, xr, 2⟩])) := Lib.hid (HO3.out.snoc hown4 hg4 hat4 (HS2.out.below (below_alloc _ _)) (fun y hy => ⟨(HF2.out y hy).1, Nat.lt_of_lt_of_le (HF2.out y hy).2.1 (by simp), (HF2.out y hy).2.2⟩))
          have HAN : Hid (ac (o ++ [⟨.slice A2 xr.length c2, xr, 2⟩]) = undoL ((ac m).drop k)) := Lib.hid (by rw [HU.out, ← HA.out]; simp [ac, invK])
          have hwk : IntKind.i64.wrap ((k : Int) - 1) = (k : Int) - 1 := by rw [IntKind.wrap_i64]; omega
          clear hown4 hg4 hat4
          go_wp2
          go_roundw
          case rel => exact ⟨k, _, _, rfl, rfl, by omega, by rw [List.length_append, List.length_singleton]; omega, HAN.out, HN.out, hbw4⟩
          case measure => simp [intOf] <;> omega
        · have hix : ∀ W, (Instr.index 107 (.agg #[.int .i64 0, .int .i64 2, .int .i64 1, .int .i64 4, .int .i64 3]) (.int .i64 2)).run Tryd.prog W = .ok (.int .i64 1) W := fun W => by kernel_rfl
          go_wp2_with fail
          refine (clone_any _ xr _ (HRX.out.below hbw) h8).mono ?_
          rintro e w2 ⟨v2, rfl, hs2, hf2, hb2⟩
          have hbw2 := below_trans hbw hb2
          have HO2 := Lib.hid (HO.out.below hb2)
          have HS2 := Lib.hid hs2
          have HF2 := Lib.hid (fun y (hy : v2.ownBlock = some y) => And.intro (Nat.le_trans hbw.size (hf2 y hy).1) (And.intro (hf2 y hy).2 (fun e => Nat.lt_irrefl _ (Nat.lt_of_lt_of_le (hu.out y e) (hf2 y hy).1))))
          obtain ⟨A2, c2, rfl, -⟩ := id hs2
          clear hs2 hf2
          have HO3 := Lib.hid (HO2.out.alloc (.cells #[.int .i64 1, .slice A2 xr.length c2] 92))
          have hbw3 := hbw2.alloc hbw2.size (.cells #[.int .i64 1, .slice A2 xr.length c2] 92)
          go_wp2_with
            (at_builtin
             refine wpList_app rfl (.tmp 27) (.tmp 36) 52 rfl w.heap.size 92 2 32 Tryd.underlying52 chgI v' o.length _ rfl HO3.out.own _ 1 (Chn.cells ⟨.slice A2 xr.length c2, xr, 1⟩) rfl (one_chn w2 ⟨.slice A2 xr.length c2, xr, 1⟩) rfl (chn_one HS2.out) (by unfold maxLen; omega) (by omega) hbw3.size ?_
             intro v4 w4 hown4 hg4 hat4)
          have hbw4 := below_grown hbw3 hg4 (own_ge HO2.out.own)
          have HN : Hid (OwnC w4 w.heap.size v4 (o ++ [⟨.slice A2 xr.length c2, xr, 1⟩])) := Lib.hid (HO3.out.snoc hown4 hg4 hat4 (HS2.out.below (below_alloc _ _)) (fun y hy => ⟨(HF2.out y hy).1, Nat.lt_of_lt_of_le (HF2.out y hy).2.1 (by simp), (HF2.out y hy).2.2⟩))
          have HAN : Hid (ac (o ++ [⟨.slice A2 xr.length c2, xr, 1⟩]) = undoL ((ac m).drop k)) := Lib.hid (by rw [HU.out, ← HA.out]; simp [ac, invK])
          have hwk : IntKind.i64.wrap ((k : Int) - 1) = (k : Int) - 1 := by rw [IntKind.wrap_i64]; omega
          clear hown4 hg4 hat4
          go_wp2
          go_roundw
          case rel => exact ⟨k, _, _, rfl, rfl, by omega, by rw [List.length_append, List.length_singleton]; omega, HAN.out, HN.out, hbw4⟩
          case measure => simp [intOf] <;> omega
        · have hix : ∀ W, (Instr.index 107 (.agg #[.int .i64 0, .int .i64 2, .int .i64 1, .int .i64 4, .int .i64 3]) (.int .i64 3)).run Tryd.prog W = .ok (.int .i64 4) W := fun W => by kernel_rfl
          go_wp2_with fail
          refine (clone_any _ xr _ (HRX.out.below hbw) h8).mono ?_
          rintro e w2 ⟨v2, rfl, hs2, hf2, hb2⟩
          have hbw2 := below_trans hbw hb2
          have HO2 := Lib.hid (HO.out.below hb2)
          have HS2 := Lib.hid hs2
          have HF2 := Lib.hid (fun y (hy : v2.ownBlock = some y) => And.intro (Nat.le_trans hbw.size (hf2 y hy).1) (And.intro (hf2 y hy).2 (fun e => Nat.lt_irrefl _ (Nat.lt_of_lt_of_le (hu.out y e) (hf2 y hy).1))))
          obtain ⟨A2, c2, rfl, -⟩ := id hs2
          clear hs2 hf2
          have HO3 := Lib.hid (HO2.out.alloc (.cells #[.int .i64 4, .slice A2 xr.length c2] 92))
          have hbw3 := hbw2.alloc hbw2.size (.cells #[.int .i64 4, .slice A2 xr.length c2] 92)
          go_wp2_with
            (at_builtin
             refine wpList_app rfl (.tmp 27) (.tmp 36) 52 rfl w.heap.size 92 2 32 Tryd.underlying52 chgI v' o.length _ rfl HO3.out.own _ 1 (Chn.cells ⟨.slice A2 xr.length c2, xr, 4⟩) rfl (one_chn w2 ⟨.slice A2 xr.length c2, xr, 4⟩) rfl (chn_one HS2.out) (by unfold maxLen; omega) (by omega) hbw3.size ?_
             intro v4 w4 hown4 hg4 hat4)
          have hbw4 := below_grown hbw3 hg4 (own_ge HO2.out.own)
          have HN : Hid (OwnC w4 w.heap.size v4 (o ++ [⟨.slice A2 xr.length c2, xr, 4⟩])) := Lib.hid (HO3.out.snoc hown4 hg4 hat4 (HS2.out.below (below_alloc _ _)) (fun y hy => ⟨(HF2.out y hy).1, Nat.lt_of_lt_of_le (HF2.out y hy).2.1 (by simp), (HF2.out y hy).2.2⟩))
          have HAN : Hid (ac (o ++ [⟨.slice A2 xr.length c2, xr, 4⟩]) = undoL ((ac m).drop k)) := Lib.hid (by rw [HU.out, ← HA.out]; simp [ac, invK])
          have hwk : IntKind.i64.wrap ((k : Int) - 1) = (k : Int) - 1 := by rw [IntKind.wrap_i64]; omega
          clear hown4 hg4 hat4
          go_wp2
          go_roundw
          case rel => exact ⟨k, _, _, rfl, rfl, by omega, by rw [List.length_append, List.length_singleton]; omega, HAN.out, HN.out, hbw4⟩
          case measure => simp [intOf] <;> omega
        · have hix : ∀ W, (Instr.index 107 (.agg #[.int .i64 0, .int .i64 2, .int .i64 1, .int .i64 4, .int .i64 3]) (.int .i64 4)).run Tryd.prog W = .ok (.int .i64 3) W := fun W => by kernel_rfl
          go_wp2_with fail
          refine (clone_any _ xr _ (HRX.out.below hbw) h8).mono ?_
          rintro e w2 ⟨v2, rfl, hs2, hf2, hb2⟩
          have hbw2 := below_trans hbw hb2
          have HO2 := Lib.hid (HO.out.below hb2)
          have HS2 := Lib.hid hs2
          have HF2 := Lib.hid (fun y (hy : v2.ownBlock = some y) => And.intro (Nat.le_trans hbw.size (hf2 y hy).1) (And.intro (hf2 y hy).2 (fun e => Nat.lt_irrefl _ (Nat.lt_of_lt_of_le (hu.out y e) (hf2 y hy).1))))
          obtain ⟨A2, c2, rfl, -⟩ := id hs2
          clear hs2 hf2
          have HO3 := Lib.hid (HO2.out.alloc (.cells #[.int .i64 3, .slice A2 xr.length c2] 92))
          have hbw3 := hbw2.alloc hbw2.size (.cells #[.int .i64 3, .slice A2 xr.length c2] 92)
          go_wp2_with
            (at_builtin
             refine wpList_app rfl (.tmp 27) (.tmp 36) 52 rfl w.heap.size 92 2 32 Tryd.underlying52 chgI v' o.length _ rfl HO3.out.own _ 1 (Chn.cells ⟨.slice A2 xr.length c2, xr, 3⟩) rfl (one_chn w2 ⟨.slice A2 xr.length c2, xr, 3⟩) rfl (chn_one HS2.out) (by unfold maxLen; omega) (by omega) hbw3.size ?_
             intro v4 w4 hown4 hg4 hat4)
          have hbw4 := below_grown hbw3 hg4 (own_ge HO2.out.own)
          have HN : Hid (OwnC w4 w.heap.size v4 (o ++ [⟨.slice A2 xr.length c2, xr, 3⟩])) := Lib.hid (HO3.out.snoc hown4 hg4 hat4 (HS2.out.below (below_alloc _ _)) (fun y hy => ⟨(HF2.out y hy).1, Nat.lt_of_lt_of_le (HF2.out y hy).2.1 (by simp), (HF2.out y hy).2.2⟩))
          have HAN : Hid (ac (o ++ [⟨.slice A2 xr.length c2, xr, 3⟩]) = undoL ((ac m).drop k)) := Lib.hid (by rw [HU.out, ← HA.out]; simp [ac, invK])
          have hwk : IntKind.i64.wrap ((k : Int) - 1) = (k : Int) - 1 := by rw [IntKind.wrap_i64]; omega
          clear hown4 hg4 hat4
          go_wp2
          go_roundw
          case rel => exact ⟨k, _, _, rfl, rfl, by omega, by rw [List.length_append, List.length_singleton]; omega, HAN.out, HN.out, hbw4⟩
          case measure => simp [intOf] <;> omega
  · have EE := Lib.hid (HE.out.trans (if_pos hy))
    have hy' := beqF hy
    clear HE HFZ hy
    go_wp2
    go_ret2
    first
      | exact ⟨.slice none 0 0, [], by rw [EE.out]; rfl, Chs.nil _, by rw [EE.out]; rfl, hb1⟩
      | exact ⟨.slice none 0 0, by rw [EE.out]; rfl, [], Chs.nil _, by rw [EE.out]; rfl, hb1⟩

set_option maxHeartbeats 8000000 in
set_option maxRecDepth 100000 in
theorem rundo_any (vm : Value) (m : List Chn) (w : World) (hs : Chs w vm m) (hg : GoodC m) :
    Calls Tryd.prog 47 #[vm] w fun e w' => ∃ v' l', e = .returned v' ∧ Chs w' v' l' ∧ ac l' = undoL (ac m) ∧ Below w.heap.size w w' := by
  have HS := Lib.hid hs
  have HGC := Lib.hid hg
  obtain ⟨Am, cm, rfl, hm1, hm2, -⟩ := id hs.sl
  unfold maxLen at hm2
  have hml : m.length ≤ 4096 := hg.few
  have hwl : IntKind.i64.wrap ((m.length : Int) - 1) = (m.length : Int) - 1 := by rw [IntKind.wrap_i64]; omega
  clear hs hg
  go_enter Tryd.func47, Tryd.ntmps47
  go_wp2_with fail
  go_loopw [3, 4, 5, 18, 20, 22] (fun out ii _ _ _ _ wr => ∃ (k : Nat) (v' : Value) (o : List Chn), v' = out ∧ ii = .int .i64 ((k : Int) - 1) ∧ k ≤ m.length ∧ o.length + k = m.length ∧ Hid (ac o = undoL ((ac m).drop k)) ∧ Hid (OwnC wr w.heap.size v' o) ∧ Below w.heap.size w wr) (fun _ ii _ _ _ _ _ => (intOf ii + 1).toNat)
  case atStart => exact ⟨m.length, _, [], rfl, rfl, by omega, by simp, Lib.hid (by rw [show (ac m).drop m.length = [] from List.drop_of_length_le (by rw [ac_len]; exact Nat.le_refl _)]; rfl), Lib.hid (OwnC.nil _ _), Below.refl _ _⟩
  case round =>
    obtain ⟨k, v', o, rfl, rfl, hk, hok, HA, HO, hbw⟩ := hrel
    cases k with
    | zero =>
      rw [show ((0 : Nat) : Int) - 1 = -1 from rfl]
      have HA2 : Hid (ac o = undoL (ac m)) := Lib.hid (by rw [HA.out, List.drop_zero])
      go_wp2
      go_ret
      exact ⟨_, o, rfl, HO.out.chs, HA2.out, hbw⟩
    | succ k =>
      have hlt : k < m.length := by omega
      have hx := List.getElem?_eq_getElem (l := m) hlt
      generalize m[k] = x at hx
      obtain ⟨g, off, rfl, -, hcc⟩ := chn_at HS.out.sl rfl hx
      have HC := Lib.hid hcc
      have hmem := List.mem_of_getElem? hx
      have HRX := Lib.hid (HS.out.rows x hmem)
      have h8 := (HGC.out.good x hmem).1.few
      have hx1 := (HGC.out.good x hmem).2.1
      have hx4 := (HGC.out.good x hmem).2.2
      have HU : Hid (undoL ((ac m).drop k) = undoL ((ac m).drop (k + 1)) ++ [(invK x.k, x.r)]) := Lib.hid (by rw [ac_at2 hx, undo_cons])
      clear hx hcc hmem
      obtain ⟨xv, xr, xk⟩ := x
      simp only at HC HRX h8 hx1 hx4 HU
      obtain ⟨Ax, cx, rfl, -⟩ := id HRX.out
      obtain ⟨d1, d2⟩ := HC.out _ hbw
      have hu : Hid (∀ y, v'.ownBlock = some y → y < wr.heap.size) := Lib.hid (own_lt HO.out.own)
      have ek : (((k + 1 : Nat) : Int) - 1) = (k : Int) := by omega
      rw [ek]
      have k0 : (0 : Int) ≤ (k : Int) := by omega
      have k1 : (k : Int) < (m.length : Int) := by omega
      have hD : xk = 1 ∨ xk = 2 ∨ xk = 3 ∨ xk = 4 := by omega
      clear hx1 hx4
      rcases hD with rfl | rfl | rfl | rfl
      · go_wp2_with fail
        refine (copy_any _ xr _ (HRX.out.below hbw) h8).mono ?_
        rintro e w2 ⟨v2, rfl, hs2, hf2, hb2⟩
        have hbw2 := below_trans hbw hb2
        have HO2 := Lib.hid (HO.out.below hb2)
        have HS2 := Lib.hid hs2
        have HF2 := Lib.hid (fun y (hy : v2.ownBlock = some y) => And.intro (Nat.le_trans hbw.size (hf2 y hy).1) (And.intro (hf2 y hy).2 (fun e => Nat.lt_irrefl _ (Nat.lt_of_lt_of_le (hu.out y e) (hf2 y hy).1))))
        obtain ⟨A2, c2, rfl, -⟩ := id hs2
        clear hs2 hf2
        have HO3 := Lib.hid (HO2.out.alloc (.cells #[.int .i64 2, .slice A2 xr.length c2] 92))
        have hbw3 := hbw2.alloc hbw2.size (.cells #[.int .i64 2, .slice A2 xr.length c2] 92)
        go_wp2_with
          (at_builtin
           refine wpList_app rfl (.tmp 24) (.tmp 33) 52 rfl w.heap.size 92 2 32 Tryd.underlying52 chgI v' o.length _ rfl HO3.out.own _ 1 (Chn.cells ⟨.slice A2 xr.length c2, xr, 2⟩) rfl (one_chn w2 ⟨.slice A2 xr.length c2, xr, 2⟩) rfl (chn_one HS2.out) (by unfold maxLen; omega) (by omega) hbw3.size ?_
           intro v4 w4 hown4 hg4 hat4)
        have hbw4 := below_grown hbw3 hg4 (own_ge HO2.out.own)
        have HN : Hid (OwnC w4 w.heap.size v4 (o ++ [⟨.slice A2 xr.length c2, xr, 2⟩])) := Lib.hid (HO3.out.snoc hown4 hg4 hat4 (HS2.out.below (below_alloc _ _)) (fun y hy => ⟨(HF2.out y hy).1, Nat.lt_of_lt_of_le (HF2.out y hy).2.1 (by simp), (HF2.out y hy).2.2⟩))
        have HAN : Hid (ac (o ++ [⟨.slice A2 xr.length c2, xr, 2⟩]) = undoL ((ac m).drop k)) := Lib.hid (by rw [HU.out, ← HA.out]; simp [ac, invK])
        have hwk : IntKind.i64.wrap ((k : Int) - 1) = (k : Int) - 1 := by rw [IntKind.wrap_i64]; omega
        clear hown4 hg4 hat4
        go_wp2
        go_roundw
        case rel => exact ⟨k, _, _, rfl, rfl, by omega, by rw [List.length_append, List.length_singleton]; omega, HAN.out, HN.out, hbw4⟩
        case measure => simp [intOf] <;> omega
      · go_wp2_with fail
        refine (copy_any _ xr _ (HRX.out.below hbw) h8).mono ?_
        rintro e w2 ⟨v2, rfl, hs2, hf2, hb2⟩
        have hbw2 := below_trans hbw hb2
        have HO2 := Lib.hid (HO.out.below hb2)
        have HS2 := Lib.hid hs2
        have HF2 := Lib.hid (fun y (hy : v2.ownBlock = some y) => And.intro (Nat.le_trans hbw.size (hf2 y hy).1) (And.intro (hf2 y hy).2 (fun e => Nat.lt_irrefl _ (Nat.lt_of_lt_of_le (hu.out y e) (hf2 y hy).1))))
        obtain ⟨A2, c2, rfl, -⟩ := id hs2
        clear hs2 hf2
        have HO3 := Lib.hid (HO2.out.alloc (.cells #[.int .i64 1, .slice A2 xr.length c2] 92))
        have hbw3 := hbw2.alloc hbw2.size (.cells #[.int .i64 1, .slice A2 xr.length c2] 92)
        go_wp2_with
          (at_builtin
           refine wpList_app rfl (.tmp 24) (.tmp 33) 52 rfl w.heap.size 92 2 32 Tryd.underlying52 chgI v' o.length _ rfl HO3.out.own _ 1 (Chn.cells ⟨.slice A2 xr.length c2, xr, 1⟩) rfl (one_chn w2 ⟨.slice A2 xr.length c2, xr, 1⟩) rfl (chn_one HS2.out) (by unfold maxLen; omega) (by omega) hbw3.size ?_
           intro v4 w4 hown4 hg4 hat4)
        have hbw4 := below_grown hbw3 hg4 (own_ge HO2.out.own)
        have HN : Hid (OwnC w4 w.heap.size v4 (o ++ [⟨.slice A2 xr.length c2, xr, 1⟩])) := Lib.hid (HO3.out.snoc hown4 hg4 hat4 (HS2.out.below (below_alloc _ _)) (fun y hy => ⟨(HF2.out y hy).1, Nat.lt_of_lt_of_le (HF2.out y hy).2.1 (by simp), (HF2.out y hy).2.2⟩))
        have HAN : Hid (ac (o ++ [⟨.slice A2 xr.length c2, xr, 1⟩]) = undoL ((ac m).drop k)) := Lib.hid (by rw [HU.out, ← HA.out]; simp [ac, invK])
        have hwk : IntKind.i64.wrap ((k : Int) - 1) = (k : Int) - 1 := by rw [IntKind.wrap_i64]; omega
        clear hown4 hg4 hat4
        go_wp2
        go_roundw
        case rel => exact ⟨k, _, _, rfl, rfl, by omega, by rw [List.length_append, List.length_singleton]; omega, HAN.out, HN.out, hbw4⟩
        case measure => simp [intOf] <;> omega
      · go_wp2_with fail
        refine (copy_any _ xr _ (HRX.out.below hbw) h8).mono ?_
        rintro e w2 ⟨v2, rfl, hs2, hf2, hb2⟩
        have hbw2 := below_trans hbw hb2
        have HO2 := Lib.hid (HO.out.below hb2)
        have HS2 := Lib.hid hs2
        have HF2 := Lib.hid (fun y (hy : v2.ownBlock = some y) => And.intro (Nat.le_trans hbw.size (hf2 y hy).1) (And.intro (hf2 y hy).2 (fun e => Nat.lt_irrefl _ (Nat.lt_of_lt_of_le (hu.out y e) (hf2 y hy).1))))
        obtain ⟨A2, c2, rfl, -⟩ := id hs2
        clear hs2 hf2
        have HO3 := Lib.hid (HO2.out.alloc (.cells #[.int .i64 4, .slice A2 xr.length c2] 92))
        have hbw3 := hbw2.alloc hbw2.size (.cells #[.int .i64 4, .slice A2 xr.length c2] 92)
        go_wp2_with
          (at_builtin
           refine wpList_app rfl (.tmp 24) (.tmp 33) 52 rfl w.heap.size 92 2 32 Tryd.underlying52 chgI v' o.length _ rfl HO3.out.own _ 1 (Chn.cells ⟨.slice A2 xr.length c2, xr, 4⟩) rfl (one_chn w2 ⟨.slice A2 xr.length c2, xr, 4⟩) rfl (chn_one HS2.out) (by unfold maxLen; omega) (by omega) hbw3.size ?_
           intro v4 w4 hown4 hg4 hat4)
        have hbw4 := below_grown hbw3 hg4 (own_ge HO2.out.own)
        have HN : Hid (OwnC w4 w.heap.size v4 (o ++ [⟨.slice A2 xr.length c2, xr, 4⟩])) := Lib.hid (HO3.out.snoc hown4 hg4 hat4 (HS2.out.below (below_alloc _ _)) (fun y hy => ⟨(HF2.out y hy).1, Nat.lt_of_lt_of_le (HF2.out y hy).2.1 (by simp), (HF2.out y hy).2.2⟩))
        have HAN : Hid (ac (o ++ [⟨.slice A2 xr.length c2, xr, 4⟩]) = undoL ((ac m).drop k)) := Lib.hid (by rw [HU.out, ← HA.out]; simp [ac, invK])
        have hwk : IntKind.i64.wrap ((k : Int) - 1) = (k : Int) - 1 := by rw [IntKind.wrap_i64]; omega
        clear hown4 hg4 hat4
        go_wp2
        go_roundw
        case rel => exact ⟨k, _, _, rfl, rfl, by omega, by rw [List.length_append, List.length_singleton]; omega, HAN.out, HN.out, hbw4⟩
        case measure => simp [intOf] <;> omega
      · go_wp2_with fail
        refine (copy_any _ xr _ (HRX.out.below hbw) h8).mono ?_
        rintro e w2 ⟨v2, rfl, hs2, hf2, hb2⟩
        have hbw2 := below_trans hbw hb2
        have HO2 := Lib.hid (HO.out.below hb2)
        have HS2 := Lib.hid hs2
        have HF2 := Lib.hid (fun y (hy : v2.ownBlock = some y) => And.intro (Nat.le_trans hbw.size (hf2 y hy).1) (And.intro (hf2 y hy).2 (fun e => Nat.lt_irrefl _ (Nat.lt_of_lt_of_le (hu.out y e) (hf2 y hy).1))))
        obtain ⟨A2, c2, rfl, -⟩ := id hs2
        clear hs2 hf2
        have HO3 := Lib.hid (HO2.out.alloc (.cells #[.int .i64 3, .slice A2 xr.length c2] 92))
        have hbw3 := hbw2.alloc hbw2.size (.cells #[.int .i64 3, .slice A2 xr.length c2] 92)
        go_wp2_with
          (at_builtin
           refine wpList_app rfl (.tmp 24) (.tmp 33) 52 rfl w.heap.size 92 2 32 Tryd.underlying52 chgI v' o.length _ rfl HO3.out.own _ 1 (Chn.cells ⟨.slice A2 xr.length c2, xr, 3⟩) rfl (one_chn w2 ⟨.slice A2 xr.length c2, xr, 3⟩) rfl (chn_one HS2.out) (by unfold maxLen; omega) (by omega) hbw3.size ?_
           intro v4 w4 hown4 hg4 hat4)
        have hbw4 := below_grown hbw3 hg4 (own_ge HO2.out.own)
        have HN : Hid (OwnC w4 w.heap.size v4 (o ++ [⟨.slice A2 xr.length c2, xr, 3⟩])) := Lib.hid (HO3.out.snoc hown4 hg4 hat4 (HS2.out.below (below_alloc _ _)) (fun y hy => ⟨(HF2.out y hy).1, Nat.lt_of_lt_of_le (HF2.out y hy).2.1 (by simp), (HF2.out y hy).2.2⟩))
        have HAN : Hid (ac (o ++ [⟨.slice A2 xr.length c2, xr, 3⟩]) = undoL ((ac m).drop k)) := Lib.hid (by rw [HU.out, ← HA.out]; simp [ac, invK])
        have hwk : IntKind.i64.wrap ((k : Int) - 1) = (k : Int) - 1 := by rw [IntKind.wrap_i64]; omega
        clear hown4 hg4 hat4
        go_wp2
        go_roundw
        case rel => exact ⟨k, _, _, rfl, rfl, by omega, by rw [List.length_append, List.length_singleton]; omega, HAN.out, HN.out, hbw4⟩
        case measure => simp [intOf] <;> omega

end Go.Proofs.YtelmlagolmabpaaDoor
