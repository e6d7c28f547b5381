/-
  The reference's FoldIn. What must be in any case: the plain facts. Groups: what groupBegun's events come to. Groups: groupBegun. Groups: the reference's figure. (Printed by gengrp20.py.)
-/
import Derived.Test.YtblhidmkalleoaaGreatDoorGrpA11
import Derived.Test.YtblhidmkalleoaaGreatDoorGrpA8
import Derived.Test.YtblhidmkalleoaaGreatDoorGrpA5
import Derived.Test.YtblhidmkalleoaaGreatDoorGrpA15
import Derived.Test.YtblhidmkalleoaaGreatDoorGrpA16
import Derived.Test.YtblhidmkalleoaaGreatDoorPlan21
import Derived.Test.YtblhidmkalleoaaGreatDoorGrp17
import Derived.Test.YtblhidmkalleoaaGreatDoorGrpA12
import Derived.Test.YtblhidmkalleoaaGreatDoorGrpA6
import Derived.Test.YtblhidmkalleoaaGreatDoorGrpA10
import Derived.Test.YtblhidmkalleoaaGreatDoorGrpA7
import Derived.Test.YtblhidmkalleoaaGreatDoorGrpA2
import Derived.Test.YtblhidmkalleoaaGreatDoorGrpA4
import Derived.Test.YtblhidmkalleoaaGreatDoorGrp4
set_option linter.unusedSimpArgs false
set_option linter.unusedVariables false
namespace Go.Proofs.YtblhidmkalleoaaGreatDoor
open Go.RowKit Go.Maps

end Go.Proofs.YtblhidmkalleoaaGreatDoor
namespace Go.Proofs.YtblhidmkalleoaaGreatDoor
open Go.RowKit Go.Maps

theorem num_check (n : Int) : checkV (numV n) = 0 := by unfold checkV numV; simp [ByteArray.toList_eq]
theorem num_err (n : Int) : keyErr [numV n] = 0 := by unfold keyErr; simp [firstNZ, num_check]
theorem num_fine (n : Int) (h : -9223372036854775808 ≤ n ∧ n ≤ 9223372036854775807) : Fine [numV n] := by
  have := nums_fine n n h h
  exact ⟨fun x hx => this.small x (by simp at hx; simp [hx]), fun x hx => this.nums x (by simp at hx; simp [hx])⟩
theorem num_good (n : Int) (h : -9223372036854775808 ≤ n ∧ n ≤ 9223372036854775807) : GoodR [numV n] := goodR_of (num_fine n h) (num_err n)
end Go.Proofs.YtblhidmkalleoaaGreatDoor
namespace Go.Proofs.YtblhidmkalleoaaGreatDoor
open Go.RowKit

def gr1 : List Val := [numV 7, numV 1, numV 7, numV 2]
def gr2 : List Val := [numV 7, numV 5, numV 7, numV 2]
def gB (va vb : Value) : List Chn := [⟨va, gr1, 1⟩, ⟨vb, gr2, 1⟩]
def gG0 : Gp := ⟨[numV 7], 2, [[], [⟨numV 1, 1⟩, ⟨numV 5, 1⟩]]⟩
def gRow : List Val := [numV 7, numV 2, numV 6]
theorem nums_err (l : List Int) (h : l.length ≤ 8) : keyErr (l.map numV) = 0 := by
  unfold keyErr
  rw [if_neg (by rw [List.length_map]; omega)]
  exact firstNZ_none fun x hx => by
    obtain ⟨y, hy, rfl⟩ := List.mem_map.1 hx
    obtain ⟨z, -, rfl⟩ := List.mem_map.1 hy
    exact num_check z
theorem gr_err1 : keyErr gr1 = 0 := nums_err [7, 1, 7, 2] (by simp)
theorem gr_err2 : keyErr gr2 = 0 := nums_err [7, 5, 7, 2] (by simp)
theorem g7_err : keyErr [numV 7] = 0 := nums_err [7] (by simp)
theorem numK (n : Int) : (numV n).k = 2 := rfl
theorem gB_form (va vb : Value) : formC (gB va vb) = 0 := by
  simp [formC, gB, errAt, kAt, gr_err1, gr_err2, firstNZ, List.range, List.range.loop, btw]
theorem n77 : rowsF [numV 7] [numV 7] = 0 := rowsF_self (num_good 7 (by omega))
theorem c15 : cmpV (numV 1) (numV 5) = -1 := by rfl
theorem c51 : cmpV (numV 5) (numV 1) = 1 := by rfl
theorem gB_turn (vl vr vk vq vg va ua ub : Value) : turnAll (countedP vl vr vk vq vg va) [] (ac (gB ua ub)) = ([gG0], 0) := by
  simp [gB, ac, turnAll, turnG, countedP, cellsG, gr1, gr2, placeG, hasG, stepI, bagsG, tallyG, gp0, n77, c15, c51, gG0]
theorem gB_fig (vl vr vk vq vg va : Value) : rowG (countedP vl vr vk vq vg va) gG0 = gRow := by
  simp [rowG, countedP, gG0, figG, solid, numV, sumG, wrapI, IntKind.wrap_i64, gRow]
theorem gB_step (vl vr vk vq vg va ua ub : Value) : stepG (countedP vl vr vk vq vg va) [] (gB ua ub) = ([gG0], [(1, gRow)], 0) := by
  unfold stepG
  have h1 : checkG (countedP vl vr vk vq vg va) [] = 0 := by
    unfold checkG
    rw [counted_check]
    rfl
  have h2 : typesG (countedP vl vr vk vq vg va) (ac (gB ua ub)) = 0 := by rfl
  rw [h1, gB_form, h2, gB_turn]
  simp [changedG, gB_fig]
theorem gG_check (vl vr vk vq vg va : Value) : checkG (countedP vl vr vk vq vg va) [gG0] = 0 := by
  unfold checkG
  rw [counted_check]
  have h : groupB (countedP vl vr vk vq vg va) gG0 = true := by
    simp [groupB, gG0, g7_err, ownT, allT, countedP, fitOne, btw, bagB, bagG, num_check, prevOk, c15, numK]
  rw [if_neg (by simp), if_neg (by simp [countedP]), if_neg (by simp), if_pos (by rw [List.all_cons, h]; rfl)]
theorem gG_view (vl vr vk vq vg va : Value) : viewS (countedP vl vr vk vq vg va) [gG0] = [(gRow, 1)] := by
  unfold viewS
  rw [gG_check, if_pos rfl]
  simp [viewG, insG, foldR, addR, stepI, lookA, hasA, putA, gB_fig]
end Go.Proofs.YtblhidmkalleoaaGreatDoor
namespace Go.Proofs.YtblhidmkalleoaaGreatDoor
open Go.RowKit

set_option maxHeartbeats 1000000 in
set_option maxRecDepth 10000 in
theorem both_any (va vb : Value) (a b : List Val) (w : World) (ha : Sl w va a.length (rowCells a)) (hb : Sl w vb b.length (rowCells b)) (hla : a.length ≤ 1000000) (hlb : b.length ≤ 1000000) :
    Calls Tryz.prog 62 #[va, vb] w fun e w' => ∃ v', e = .returned v' ∧ w'.ownsRow w.heap.size 112 3 v' (a ++ b).length (rowCells (a ++ b)) ∧ Below w.heap.size w w' := by
  have HB := Lib.hid hb
  have HC := Lib.hid (copy_own va a w ha (by omega))
  have HLB := Lib.hid (rowCells_len b)
  obtain ⟨A0, c0, rfl, -⟩ := ha
  obtain ⟨A1, c1, rfl, -⟩ := hb
  go_enter Tryz.func62, Tryz.ntmps62
  go_wp2_with fail
  refine Calls.mono (by with_reducible exact HC.out) ?_
  rintro e w1 ⟨v1, rfl, hown1, hb1⟩
  have HO1 := Lib.hid hown1
  have HS := Lib.hid (HB.out.below hb1)
  have hs1 := hb1.size
  clear hown1
  go_wp2_with (at_builtin; refine wpList_app rfl (.tmp 6) (.tmp 7) 61 rfl w.heap.size 112 3 32 Tryz.underlying61 valJ v1 a.length _ rfl HO1.out _ b.length (rowCells b) rfl HS.out HLB.out (rowCells_one b) (by unfold maxLen; omega) (by omega) hs1 ?_)
  intro v2 w2 hown2 hg2 hat2
  have hb2 := hb1.grown hg2 hs1 (fun j hj => own_ge HO1.out j hj)
  have HO2 : Hid (w2.ownsRow w.heap.size 112 3 v2 (a ++ b).length (rowCells (a ++ b))) := Lib.hid (by rw [List.length_append, rcApp]; exact hown2)
  clear hown2 hg2 hat2
  go_wp2
  go_ret
  exact ⟨_, rfl, HO2.out, hb2⟩

theorem fine_nums (l : List Int) (h : ∀ n ∈ l, -9223372036854775808 ≤ n ∧ n ≤ 9223372036854775807) : Fine (l.map numV) := ⟨fun x hx => by
  obtain ⟨n, hn, rfl⟩ := List.mem_map.1 hx
  exact (num_fine n (h n hn)).1 _ (by simp), fun x hx => by
  obtain ⟨n, hn, rfl⟩ := List.mem_map.1 hx
  exact (num_fine n (h n hn)).2 _ (by simp)⟩
theorem gms_one {w : World} {v : Value} {G : List Gm} (h : Gms w v G) (e : gps G = [gG0]) : ∀ x ∈ G, x.fit := fun x hx => by
  have h1 : x.gp ∈ gps G := List.mem_map.2 ⟨x, hx, rfl⟩
  rw [e, List.mem_singleton] at h1
  have e1 : x.r = [numV 7] := congrArg Gp.r h1
  have e2 : x.bags.map (·.2) = [[], [⟨numV 1, 1⟩, ⟨numV 5, 1⟩]] := congrArg Gp.bags h1
  have e3 : x.n = 2 := congrArg Gp.n h1
  have hl : x.bags.length = 2 := by have := congrArg List.length e2; rwa [List.length_map] at this
  refine ⟨⟨by rw [h1]; exact num_fine 7 (by omega), by rw [h1]; decide, fun b hb y hy => ?_⟩, fun q hq => ?_, by omega, by rw [e1]; simp⟩
  · rw [h1] at hb
    simp only [gG0, List.mem_cons, List.mem_nil_iff, or_false] at hb
    rcases hb with rfl | rfl
    · cases hy
    · simp only [List.mem_cons, List.mem_nil_iff, or_false] at hy
      rcases hy with rfl | rfl
      · exact ⟨num_fine 1 (by omega), by simp⟩
      · exact ⟨num_fine 5 (by omega), by simp⟩
  · have h2 : q.2 ∈ x.bags.map (·.2) := List.mem_map.2 ⟨q, hq, rfl⟩
    rw [e2] at h2
    simp only [List.mem_cons, List.mem_nil_iff, or_false] at h2
    rcases h2 with h2 | h2 <;> rw [h2] <;> simp
theorem three_vals (W : World) (a b c : Int) : Sl (W.alloc (.cells #[.int .i64 2, .int .i64 a, .string ⟨#[]⟩, .int .i64 2, .int .i64 b, .string ⟨#[]⟩, .int .i64 2, .int .i64 c, .string ⟨#[]⟩] 112)) (.slice (some ⟨W.heap.size, 0, none⟩) 3 3) 3 (rowCells [numV a, numV b, numV c]) :=
  Sl.block (Blk.new W 112 #[.int .i64 2, .int .i64 a, .string ⟨#[]⟩, .int .i64 2, .int .i64 b, .string ⟨#[]⟩, .int .i64 2, .int .i64 c, .string ⟨#[]⟩]) 3 3 (Nat.le_refl _) (by decide)

set_option maxHeartbeats 8000000 in
set_option maxRecDepth 10000 in
theorem groupBegun_any (w : World) (hm : Mx w) : Calls Tryz.prog 17 #[] w fun e w' => e = .returned (.bool true) ∧ Below w.heap.size w w' := by
  have HM := Lib.hid hm
  clear hm
  go_enter Tryz.func17, Tryz.ntmps17
  go_wp2_with fail
  refine (lawRow_any 7 1 _).mono ?_
  rintro e w1 ⟨v1, rfl, hs1, B1⟩
  go_wp2_with fail
  refine (lawRow_any 7 2 _).mono ?_
  rintro e w2 ⟨v2, rfl, hs2, hb2⟩
  have B2 := below_trans B1 hb2
  have HBO := Lib.hid (both_any v1 v2 [numV 7, numV 1] [numV 7, numV 2] w2 (hs1.below hb2) hs2 (by simp) (by simp))
  clear hs1 hs2 hb2 B1
  go_wp2_with fail
  refine Calls.mono (by with_reducible exact HBO.out) ?_
  rintro e w3 ⟨v3, rfl, ho3, hb3⟩
  obtain ⟨C3, n3, m3, rfl⟩ := own_slice ho3
  have HS3 := Lib.hid (Sl.of_own ho3)
  have B3 := below_trans B2 hb3
  clear ho3 hb3 B2 HBO
  go_wp2_with fail
  refine (lawRow_any 7 5 _).mono ?_
  rintro e w4 ⟨v4, rfl, hs4, hb4⟩
  have B4 := below_trans B3 hb4
  have HS4 := Lib.hid (HS3.out.below hb4)
  clear hb4 B3 HS3
  go_wp2_with fail
  refine (lawRow_any 7 2 _).mono ?_
  rintro e w5 ⟨v5, rfl, hs5, hb5⟩
  have B5 := below_trans B4 hb5
  have HS5 := Lib.hid (HS4.out.below hb5)
  have HBO := Lib.hid (both_any v4 v5 [numV 7, numV 5] [numV 7, numV 2] w5 (hs4.below hb5) hs5 (by simp) (by simp))
  clear hs4 hs5 hb5 B4 HS4
  go_wp2_with fail
  refine Calls.mono (by with_reducible exact HBO.out) ?_
  rintro e w6 ⟨v6, rfl, ho6, hb6⟩
  obtain ⟨C6, n6, m6, rfl⟩ := own_slice ho6
  have HS6 := Lib.hid (Sl.of_own ho6)
  have B6 := below_trans B5 hb6
  have HC : Hid (Chs (w6.alloc (.cells #[.int .i64 1, .slice C3 n3 m3, .int .i64 1, .slice C6 n6 m6] 73)) (.slice (some ⟨w6.heap.size, 0, none⟩) 2 2) (gB (.slice C3 n3 m3) (.slice C6 n6 m6))) := Lib.hid ⟨sl_pair (a := ⟨.slice C3 n3 m3, gr1, 1⟩) (b := ⟨.slice C6 n6 m6, gr2, 1⟩) (Blk.new w6 73 #[.int .i64 1, .slice C3 n3 m3, .int .i64 1, .slice C6 n6 m6]), fun c hc => by
    simp only [gB, List.mem_cons, List.mem_nil_iff, or_false] at hc
    rcases hc with rfl | rfl
    · exact (HS5.out.below hb6).below (below_alloc _ _)
    · exact HS6.out.below (below_alloc _ _)⟩
  have HF : Hid (FineC (gB (.slice C3 n3 m3) (.slice C6 n6 m6))) := Lib.hid ⟨fun c hc => by
    simp only [gB, List.mem_cons, List.mem_nil_iff, or_false] at hc
    rcases hc with rfl | rfl
    · exact fine_nums [7, 1, 7, 2] (by simp)
    · exact fine_nums [7, 5, 7, 2] (by simp), fun c hc => by
    simp only [gB, List.mem_cons, List.mem_nil_iff, or_false] at hc
    rcases hc with rfl | rfl <;> simp⟩
  have B7 := B6.alloc B6.size (.cells #[.int .i64 1, .slice C3 n3 m3, .int .i64 1, .slice C6 n6 m6] 73)
  clear ho6 hb6 B5 B6 HS5 HS6 HBO
  go_wp2_with fail
  refine (counted_any _).mono ?_
  rintro e w8 ⟨vl, vr, vk, vq, vg, va, rfl, hok, hb8⟩
  have B8 := below_trans B7 hb8
  have HST := Lib.hid (gstep_any (countedP vl vr vk vq vg va) (.slice none 0 0) [] (.slice (some ⟨w6.heap.size, 0, none⟩) 2 2) (gB (.slice C3 n3 m3) (.slice C6 n6 m6)) w8 hok (counted_fit vl vr vk vq vg va) (Gms.nil w8) nofun (HC.out.below hb8) HF.out (HM.out.below B8))
  rw [show gps [] = ([] : List Gp) from rfl, gB_step] at HST
  simp only [countedP] at HST
  clear hok hb8 B7 HC HF
  go_wp2_with fail
  refine Calls.mono (by with_reducible exact HST.out) ?_
  rintro e w9 ⟨v9, u9, G9, l9, rfl, hG9, hC9, hg9, ha9, hb9⟩
  have B9 := below_trans B8 hb9
  have HG9 := Lib.hid hG9
  have HC9 := Lib.hid hC9
  have HE9 := Lib.hid hg9
  have HA9 := Lib.hid ha9
  obtain ⟨D9, d9, rfl, -⟩ := id hG9.sl
  obtain ⟨E9, e9, rfl, -⟩ := id hC9.sl
  clear hG9 hC9 hg9 ha9 hb9 HST B8
  go_wp2_with fail
  refine (counted_any _).mono ?_
  rintro e w10 ⟨ul, ur, uk, uq, ug, ua, rfl, hok, hb10⟩
  have B10 := below_trans B9 hb10
  have HVW := Lib.hid (gview_any (countedP ul ur uk uq ug ua) (.slice D9 G9.length d9) G9 w10 hok (counted_fit ul ur uk uq ug ua) (HG9.out.below hb10) (gms_one HG9.out HE9.out) (HM.out.below B10))
  rw [HE9.out, gG_check, gG_view] at HVW
  simp only [countedP] at HVW
  have HC10 := Lib.hid (HC9.out.below hb10)
  clear hok hb10 B9 HC9 HG9
  go_wp2_with fail
  refine Calls.mono (by with_reducible exact HVW.out) ?_
  rintro e w11 ⟨v11, l11, rfl, hV11, ha11, hb11⟩
  have B11 := below_trans B10 hb11
  have HV11 := Lib.hid hV11
  have HA11 := Lib.hid ha11
  obtain ⟨F11, f11, rfl, -⟩ := id hV11.sl
  have hl9 : l9.length = 1 := by rw [← ac_len, HA9.out]; rfl
  have hx : l9[0]? = some l9[0] := List.getElem?_eq_getElem (by omega)
  have hk : l9[0].k = 1 := by
    have h1 : (ac l9)[0]? = some (1, gRow) := by rw [HA9.out]; rfl
    rw [ac, List.getElem?_map, hx] at h1
    injection h1 with h1
    injection h1
  obtain ⟨g, off, hE, -, hcc⟩ := chn_at HC10.out.sl rfl hx
  subst hE
  have d1 := (hcc _ hb11).1
  rw [hk, Nat.zero_mul, Nat.add_zero] at d1
  rw [hl9]
  clear hcc hx hk hb11 hV11 ha11 HVW B10 HC10
  go_wp2_with fail
  refine (num_any 7 _).mono ?_
  rintro e w12 ⟨rfl, hb12⟩
  go_wp2_with fail
  refine (num_any 2 _).mono ?_
  rintro e w13 ⟨rfl, hb13⟩
  go_wp2_with fail
  refine (num_any 6 _).mono ?_
  rintro e w14 ⟨rfl, hb14⟩
  have B14 := below_trans (below_trans (below_trans B11 hb12) hb13) hb14
  have HV14 := Lib.hid (((HV11.out.below hb12).below hb13).below hb14)
  have HS14 := Lib.hid (three_vals w14 7 2 6)
  have HB16 := Lib.hid (below_trans (below_alloc w14 (.cells #[.int .i64 2, .int .i64 7, .string ⟨#[]⟩, .int .i64 2, .int .i64 2, .string ⟨#[]⟩, .int .i64 2, .int .i64 6, .string ⟨#[]⟩] 112)) (below_alloc _ (.cells #[.slice (some ⟨w14.heap.size, 0, none⟩) 3 3, .int .i64 1] 115)))
  have HVN : Hid (View ((w14.alloc (.cells #[.int .i64 2, .int .i64 7, .string ⟨#[]⟩, .int .i64 2, .int .i64 2, .string ⟨#[]⟩, .int .i64 2, .int .i64 6, .string ⟨#[]⟩] 112)).alloc (.cells #[.slice (some ⟨w14.heap.size, 0, none⟩) 3 3, .int .i64 1] 115)) (.slice (some ⟨w14.heap.size + 1, 0, none⟩) 1 1) [⟨.slice (some ⟨w14.heap.size, 0, none⟩) 3 3, gRow, 1⟩]) := Lib.hid (by
    have h1 := one_cnt (w14.alloc (.cells #[.int .i64 2, .int .i64 7, .string ⟨#[]⟩, .int .i64 2, .int .i64 2, .string ⟨#[]⟩, .int .i64 2, .int .i64 6, .string ⟨#[]⟩] 112)) ⟨.slice (some ⟨w14.heap.size, 0, none⟩) 3 3, gRow, 1⟩
    rw [World.size_alloc] at h1
    exact ⟨h1, fun c hc => by
      rw [List.mem_singleton.1 hc]
      exact HS14.out.below (below_alloc _ _)⟩)
  have HSV := Lib.hid (sameViews_any _ _ l11 _ _ (HV14.out.below HB16.out) HVN.out HA11.out)
  have B16 := below_trans B14 HB16.out
  clear hb12 hb13 hb14 B11 HV11 HV14 HS14 HVN
  go_wp2_with fail
  refine Calls.mono (by with_reducible exact HSV.out) ?_
  rintro e w17 ⟨rfl, hb17⟩
  have B17 := below_trans B16 hb17
  clear hb17 HB16
  go_wp2
  go_ret
  exact ⟨rfl, B17⟩
end Go.Proofs.YtblhidmkalleoaaGreatDoor
namespace Go.Proofs.YtblhidmkalleoaaGreatDoor
open Go.RowKit

/-- A view's rows, of one cell each, and how often. -/
structure Ones (l : List Cnt) (L : List (Val × Int)) : Prop where
  len : l.length = L.length
  each : ∀ (k : Nat) (c : Cnt), l[k]? = some c → ∃ x, c.r = [x] ∧ L[k]? = some (x, c.n)
theorem cnt_cells {w : World} {l : List Cnt} {v : Value} (h : Sl w v l.length (cntCells l)) {A : Option Addr} {n c : Nat} (hv : v = .slice A n c) {k : Nat} {x : Cnt} (hk : l[k]? = some x) :
    ∃ b off, A = some ⟨b, off, none⟩ ∧ b < w.heap.size ∧ ∀ w', Below w.heap.size w w' → w'.cell? ⟨b, off + k * 2, none⟩ = some x.v ∧ w'.cell? ⟨b, off + k * 2 + 1, none⟩ = some (.int .i64 x.n) := by
  obtain ⟨A', c', hv', h1, h2, -, h3⟩ := h
  rw [hv] at hv'
  injection hv' with e1 e2 e3
  subst e1
  have a0 := flat_at Cnt.cells_len l k 0 (by omega)
  have a1 := flat_at Cnt.cells_len l k 1 (by omega)
  rw [hk] at a0 a1
  simp only [Option.bind_some, Nat.add_zero] at a0 a1
  obtain ⟨b, off, hA, hc⟩ := h3 (by intro h0; rw [show l.flatMap Cnt.cells = cntCells l from rfl, h0] at a0; simp [Cnt.cells] at a0)
  have c0 := hc _ _ a0
  have c1 := hc _ _ a1
  exact ⟨b, off, hA, World.block_lt_of_cell? w _ c0, fun w' hb => ⟨cell_below hb c0, cell_below hb c1⟩⟩
theorem blk_farAll {g h : Nat} {t : TypeId} {cs : Array Value} (hne : g ≠ h) : ∀ {l : List Value} {w : World} {i : Nat}, Blk w g t cs → Blk (setAll w h i l) g t cs
  | [], _, _, k => k
  | v :: l, w, i, k => blk_farAll hne (l := l) (w := w.setCell ⟨h, i, none⟩ v) (i := i + 1) (k.far (p := ⟨h, i, none⟩) hne v)
theorem foldl_at {α β : Type} {f : β → α → β} {l : List α} {k : Nat} {x : α} {s : β} (h : l[k]? = some x) : (l.drop k).foldl f s = (l.drop (k + 1)).foldl f (f s x) := by
  obtain ⟨hk, rfl⟩ := List.getElem?_eq_some_iff.1 h
  rw [List.drop_eq_getElem_cons hk]
  rfl

set_option maxHeartbeats 8000000 in
set_option maxRecDepth 10000 in
theorem rfigure_any (fn : Int) (v : Value) (l : List Cnt) (L : List (Val × Int)) (w : World) (hv : View w v l) (hL : Ones l L) :
    Calls Tryz.prog 139 #[.agg #[.int .i64 fn, .int .i64 0], v] w fun e w' => e = .returned (.agg #[.int .i64 (figF fn L).k, .int .i64 (figF fn L).n, .string (figF fn L).s]) ∧ Below w.heap.size w w' := by
  have HV := Lib.hid hv
  have HL := Lib.hid hL
  obtain ⟨R, hR⟩ : ∃ R, R = figF fn L := ⟨_, rfl⟩
  rw [← hR]
  unfold figF at hR
  obtain ⟨Av, cv, rfl, nv, mv, -⟩ := id hv.sl
  unfold maxLen at mv
  have hB := below_trans (below_alloc w (.cells #[.int .i64 fn, .int .i64 0] 106)) (below_alloc _ (.cells #[.int .i64 0, .int .i64 0, .string ⟨#[]⟩] 112))
  have K0 := new_first w 106 #[.int .i64 fn, .int .i64 0] (.cells #[.int .i64 0, .int .i64 0, .string ⟨#[]⟩] 112)
  have K1 := new_second w 112 #[.int .i64 0, .int .i64 0, .string ⟨#[]⟩] (.cells #[.int .i64 fn, .int .i64 0] 106)
  have hsz : ((w.alloc (.cells #[.int .i64 fn, .int .i64 0] 106)).alloc (.cells #[.int .i64 0, .int .i64 0, .string ⟨#[]⟩] 112)).heap.size = w.heap.size + 1 + 1 := by rw [World.size_alloc, World.size_alloc]
  have HLN := Lib.hid hL.len
  clear hv hL
  by_cases hfn : fn = 1
  · have q1 := beqT hfn
    have EE := Lib.hid (hR.trans (if_pos hfn))
    subst hfn
    clear hR q1
    have y0 := K0.cell 0 _ rfl
    have HK1 := Lib.hid K1
    go_enter Tryz.func139, Tryz.ntmps139
    go_wp2_with fail
    go_loopw [5, 6] (fun nv iv wr => ∃ (k : Nat) (s : Int), k ≤ l.length ∧ iv = .int .i64 k ∧ nv = .int .i64 s ∧ Hid (L.foldl cntF 0 = (L.drop k).foldl cntF s) ∧ Below ((w.alloc (.cells #[.int .i64 1, .int .i64 0] 106)).alloc (.cells #[.int .i64 0, .int .i64 0, .string ⟨#[]⟩] 112)).heap.size ((w.alloc (.cells #[.int .i64 1, .int .i64 0] 106)).alloc (.cells #[.int .i64 0, .int .i64 0, .string ⟨#[]⟩] 112)) wr) (fun _ iv _ => l.length - (intOf iv).toNat)
    case atStart => exact ⟨0, 0, by omega, rfl, rfl, Lib.hid rfl, Below.refl _ _⟩
    case round =>
      rename World => wr1
      obtain ⟨k, s, hk, rfl, rfl, HS, hbr⟩ := hrel
      have hBr := below_trans hB hbr
      by_cases hlt : k < l.length
      · have hx := List.getElem?_eq_getElem (l := l) hlt
        generalize l[k] = x at hx
        obtain ⟨bb, ob, hAb, -, hcb⟩ := cnt_cells HV.out.sl rfl hx
        obtain ⟨y, hy, hLy⟩ := HL.out.each k x hx
        obtain ⟨d0, d1⟩ := hcb _ hBr
        subst hAb
        have HN : Hid (L.foldl cntF 0 = (L.drop (k + 1)).foldl cntF (cntF s (y, x.n))) := Lib.hid (by rw [HS.out, foldl_at hLy])
        have hcf : cntF s (y, x.n) = wrap64 (s + x.n) := IntWalk.i64_left _
        rw [hcf] at HN
        have i0 : (0 : Int) ≤ (k : Int) := by omega
        have i1 : (k : Int) < (l.length : Int) := by omega
        clear hx hcb hy hLy HS hcf
        go_wp2
        go_roundw
        case rel => exact ⟨k + 1, _, by omega, by go_num, rfl, HN, hbr⟩
        case measure => simp [intOf]; omega
      · obtain rfl : k = l.length := by omega
        have hq1 : ¬ (l.length : Int) < (l.length : Int) := by omega
        have ES : Hid (R = ⟨2, s, ⟨#[]⟩⟩) := Lib.hid (by rw [EE.out, HS.out, HLN.out, List.drop_length]; rfl)
        have HKE := (HK1.out.below hbr)
        have z0 := HKE.cell 0 _ rfl
        have f0 := HKE.free 0
        have z1 := HKE.cell 1 _ rfl
        have f1 := HKE.free 1
        have z2 := HKE.cell 2 _ rfl
        have f2 := HKE.free 2
        clear HS
        have KZ := (HKE).setAll [.int .i64 2, .int .i64 s, .string ⟨#[]⟩] rfl
        have hbz := below_setAll (l := [.int .i64 2, .int .i64 s, .string ⟨#[]⟩]) (i := 0) hBr (g := w.heap.size + 1) (by omega)
        simp only [setAll, Nat.reduceAdd] at KZ hbz
        have v0 := KZ.cell 0 _ rfl
        have v1 := KZ.cell 1 _ rfl
        have v2 := KZ.cell 2 _ rfl
        clear KZ
        go_wp2
        refine bodyPost_ret (v := .agg #[.int .i64 2, .int .i64 s, .string ⟨#[]⟩]) (by simp [results, Tryz.results139, go_sem, v0, v1, v2]) rfl ?_
        exact ⟨by rw [ES.out], hbz⟩
  · have q1 := beqF hfn
    have EE := Lib.hid (hR.trans (if_neg hfn))
    have HFN := Lib.hid hfn
    have y0 := K0.cell 0 _ rfl
    have HK0 := Lib.hid K0
    have HK1 := Lib.hid K1
    clear hR hfn
    have HB3 := Lib.hid (below_alloc ((w.alloc (.cells #[.int .i64 fn, .int .i64 0] 106)).alloc (.cells #[.int .i64 0, .int .i64 0, .string ⟨#[]⟩] 112)) (.cells #[.int .i64 0, .int .i64 0, .string ⟨#[]⟩] 112))
    have HK2 := Lib.hid (Blk.new ((w.alloc (.cells #[.int .i64 fn, .int .i64 0] 106)).alloc (.cells #[.int .i64 0, .int .i64 0, .string ⟨#[]⟩] 112)) 112 #[.int .i64 0, .int .i64 0, .string ⟨#[]⟩])
    rw [hsz] at HK2
    go_enter Tryz.func139, Tryz.ntmps139
    go_wp2_with fail
    go_loopw [8] (fun iv wr => ∃ (k : Nat) (o : Val), k ≤ l.length ∧ iv = .int .i64 k ∧ Hid (R = (L.drop k).foldl (stepF fn) o) ∧ Hid (Blk wr w.heap.size 106 #[.int .i64 fn, .int .i64 0]) ∧ Hid (Blk wr (w.heap.size + 1) 112 #[.int .i64 0, .int .i64 0, .string ⟨#[]⟩]) ∧ Hid (Blk wr (w.heap.size + 1 + 1) 112 #[.int .i64 o.k, .int .i64 o.n, .string o.s]) ∧ Below w.heap.size w wr) (fun iv _ => l.length - (intOf iv).toNat)
    case atStart => exact ⟨0, nullG, by omega, rfl, EE, Lib.hid (HK0.out.below HB3.out), Lib.hid (HK1.out.below HB3.out), HK2, below_trans hB HB3.out⟩
    case round =>
      rename World => wr1
      clear HK0 HK1 HK2 HB3 hB EE K0 K1 y0
      obtain ⟨k, o, hk, rfl, HS, HK0, HK1, HK2, hBr⟩ := hrel
      have hsz1 := HK2.out.lt
      by_cases hlt : k < l.length
      · have hx := List.getElem?_eq_getElem (l := l) hlt
        generalize l[k] = x at hx
        obtain ⟨bb, ob, hAb, -, hcb⟩ := cnt_cells HV.out.sl rfl hx
        obtain ⟨y, hy, hLy⟩ := HL.out.each k x hx
        have hrow := HV.out.rows x (List.mem_of_getElem? hx)
        have HN : Hid (R = (L.drop (k + 1)).foldl (stepF fn) (stepF fn o (y, x.n))) := Lib.hid (by rw [HS.out, foldl_at hLy])
        obtain ⟨xv, xr, xn⟩ := x
        simp only at hy hcb hrow HN
        subst hy
        obtain ⟨Br, kr, er, -⟩ := id hrow
        subst er
        obtain ⟨br, orr, hBr2, -, hcr⟩ := val_at hrow rfl (show [y][0]? = some y from rfl)
        subst hBr2 hAb
        obtain ⟨yk, yn, ys⟩ := y
        simp only [Nat.zero_mul, Nat.add_zero] at hcr
        have HCR := Lib.hid hcr
        have HCB := Lib.hid hcb
        have HSS := Lib.hid (fun w' (h : Below wr1.heap.size wr1 w') => And.intro ((HK0.out.below h).cell 1 _ rfl) (And.intro (HCB.out w' (below_trans hBr h)).1 (And.intro (HCR.out w' (below_trans hBr h)).1 (And.intro (HCR.out w' (below_trans hBr h)).2.1 (HCR.out w' (below_trans hBr h)).2.2))))
        have hy0 : Below wr1.heap.size wr1 wr1.drew := (Below.refl _ wr1).drew
        have i0 : (0 : Int) ≤ (k : Int) := by omega
        have i1 : (k : Int) < (l.length : Int) := by omega
        clear hx hcb hcr hLy hrow HS
        go_upto_region 12 with fail
        refine tr (S := (fun w' => w'.cell? ⟨w.heap.size, 1, none⟩ = some (.int .i64 0) ∧ w'.cell? ⟨bb, ob + k * 2, none⟩ = some (.slice (some ⟨br, orr, none⟩) [(⟨yk, yn, ys⟩ : Val)].length kr) ∧ w'.cell? ⟨br, orr, none⟩ = some (.int .i64 yk) ∧ w'.cell? ⟨br, orr + 1, none⟩ = some (.int .i64 yn) ∧ w'.cell? ⟨br, orr + 2, none⟩ = some (.string ys))) (HSS.out _ hy0) (fun hHeld => ?_)
        refine tk 0 ?_; refine tk 1 ?_; refine tk 2 ?_; refine tk 3 ?_; refine tk 4 ?_; refine tk 5 ?_; refine tk 6 ?_; refine tk 7 ?_; refine tk 8 ?_
        refine tc 9 ?_
        intro K hK
        go_simp
        refine hK.out _ _ (HSS.out _ (below_trans hy0 (below_alloc _ (.cells #[.int .i64 0, .int .i64 0, .string ⟨#[]⟩] 112)))) (fun hHeld9 => ?_)
        clear hK K
        refine tc 10 ?_
        intro K hK
        go_simp
        refine hK.out _ _ (HSS.out _ (below_trans hy0 (below_alloc _ (.cells #[.int .i64 yk, .int .i64 yn, .string ys] 112)))) (fun hHeld10 => ?_)
        clear hK K
        refine td ?_
        generalize hwx : (wr1.alloc (.cells #[.int .i64 yk, .int .i64 yn, .string ys] 112)).drew = w2
        have hb2 : Below wr1.heap.size wr1 w2 := by rw [← hwx]; exact (below_alloc _ _).drew
        have HX : Hid (Blk w2 wr1.heap.size 112 #[.int .i64 yk, .int .i64 yn, .string ys]) := Lib.hid (by rw [← hwx]; exact (Blk.new wr1 112 #[.int .i64 yk, .int .i64 yn, .string ys]).drew)
        clear hwx
        have hBw := below_trans hBr hb2
        have HL0 := Lib.hid (HK0.out.below hb2)
        have HL1 := Lib.hid (HK1.out.below hb2)
        have HL2 := Lib.hid (HK2.out.below hb2)
        have x0 := HX.out.cell 0 _ rfl
        by_cases hk0 : yk = 0
        · have e0 := beqT hk0
          have HN2 : Hid (R = (L.drop (k + 1)).foldl (stepF fn) o) := Lib.hid (by rw [HN.out, show stepF fn o (⟨yk, yn, ys⟩, xn) = o from if_pos hk0])
          clear hk0
          go_wp2
          go_roundw
          case rel => exact ⟨k + 1, o, by omega, by go_num, HN2, HL0, HL1, HL2, hBw⟩
          case measure => simp [intOf]; omega
        · have e0 := beqF hk0
          have a0 := HL0.out.cell 0 _ rfl
          by_cases hf2 : fn = 2
          · have e2 := beqT hf2
            have HN2 : Hid (R = (L.drop (k + 1)).foldl (stepF fn) ⟨2, wrapI (o.n + wrapI (yn * xn)), ⟨#[]⟩⟩) := Lib.hid (by rw [HN.out, show stepF fn o (⟨yk, yn, ys⟩, xn) = ⟨2, wrapI (o.n + wrapI (yn * xn)), ⟨#[]⟩⟩ from (if_neg hk0).trans (if_pos hf2)])
            have HSX := Lib.hid (fun w' (h : Below w2.heap.size w2 w') => And.intro ((HX.out.below h).cell 1 _ rfl) (HCB.out w' (below_trans hBw h)).2)
            have KD := HL2.out
            have b1 := KD.drew.cell 1 _ rfl
            have t0 := KD.cell 0 _ rfl
            have t2 := KD.cell 2 _ rfl
            have g0 := KD.free 0
            have g1 := KD.free 1
            have g2 := KD.free 2
            have s0 := HL2.out.cell 0 _ rfl
            have j0 := HL2.out.free 0
            have s1 := HL2.out.cell 1 _ rfl
            have j1 := HL2.out.free 1
            have s2 := HL2.out.cell 2 _ rfl
            have j2 := HL2.out.free 2
            have KZ := KD.setAll [.int .i64 2, .int .i64 (IntKind.i64.wrap (o.n + IntKind.i64.wrap (yn * xn))), .string ⟨#[]⟩] rfl
            have M0 := blk_farAll (h := w.heap.size + 1 + 1) (l := [.int .i64 2, .int .i64 (IntKind.i64.wrap (o.n + IntKind.i64.wrap (yn * xn))), .string ⟨#[]⟩]) (i := 0) (by omega) HL0.out
            have M1 := blk_farAll (h := w.heap.size + 1 + 1) (l := [.int .i64 2, .int .i64 (IntKind.i64.wrap (o.n + IntKind.i64.wrap (yn * xn))), .string ⟨#[]⟩]) (i := 0) (by omega) HL1.out
            have MX := blk_farAll (h := w.heap.size + 1 + 1) (l := [.int .i64 2, .int .i64 (IntKind.i64.wrap (o.n + IntKind.i64.wrap (yn * xn))), .string ⟨#[]⟩]) (i := 0) (by omega) HX.out
            have hbz := below_setAll (l := [.int .i64 2, .int .i64 (IntKind.i64.wrap (o.n + IntKind.i64.wrap (yn * xn))), .string ⟨#[]⟩]) (i := 0) hBw (g := w.heap.size + 1 + 1) (by omega)
            simp only [setAll, Nat.reduceAdd] at KZ M0 M1 MX hbz
            have HMX := Lib.hid MX
            have HM0 := Lib.hid M0
            have HM1 := Lib.hid M1
            have HMZ := Lib.hid KZ
            have HBZ := Lib.hid hbz
            clear KZ M0 M1 MX hbz KD
            have hy2 : Below w2.heap.size w2 w2.drew := (Below.refl _ w2).drew
            clear hk0 hf2 HN
            go_upto_region 15 with fail
            refine tr (S := (fun w' => w'.cell? ⟨wr1.heap.size, 1, none⟩ = some (.int .i64 yn) ∧ w'.cell? ⟨bb, ob + k * 2 + 1, none⟩ = some (.int .i64 xn))) (HSX.out _ hy2) (fun hHeld => ?_)
            refine tk 0 ?_; refine tk 2 ?_; refine tk 3 ?_; refine tk 4 ?_; refine tk 5 ?_; refine tk 6 ?_; refine tk 7 ?_; refine tk 8 ?_; refine tk 9 ?_
            refine tc 1 ?_
            intro K hK
            go_simp
            refine hK.out _ _ (HSX.out _ hy2) (fun hHeld1 => ?_)
            clear hK K
            refine tk 10 ?_; refine tk 11 ?_
            refine tc 12 ?_
            intro K hK
            go_simp
            refine hK.out _ _ (And.intro (HMX.out.drew.cell 1 _ rfl) (HCB.out _ HBZ.out.drew).2) (fun hHeld12 => ?_)
            clear hK K
            refine td ?_
            unfold wrapI at HN2
            simp only [IntWalk.i64_left] at HM0 HM1 HMZ HBZ HN2
            go_wp2
            go_roundw
            case rel => exact ⟨k + 1, ⟨2, _, ⟨#[]⟩⟩, by omega, by go_num, HN2, Lib.hid HM0.out.drew, Lib.hid HM1.out.drew, Lib.hid HMZ.out.drew, HBZ.out.drew⟩
            case measure => simp [intOf]; omega
          · have e2 := beqF hf2
            have b0 := HL2.out.cell 0 _ rfl
            by_cases hok : o.k = 0
            · have e3 := beqT hok
              have HN2 : Hid (R = (L.drop (k + 1)).foldl (stepF fn) ⟨yk, yn, ys⟩) := Lib.hid (by rw [HN.out, show stepF fn o (⟨yk, yn, ys⟩, xn) = ⟨yk, yn, ys⟩ from ((if_neg hk0).trans (if_neg hf2)).trans (if_pos (.inl hok))])
              clear hk0 hf2 HN hok
              have a0' := HX.out.cell 0 _ rfl
              have a1' := HX.out.cell 1 _ rfl
              have a2' := HX.out.cell 2 _ rfl
              have t0 := HL2.out.cell 0 _ rfl
              have t1 := HL2.out.cell 1 _ rfl
              have t2 := HL2.out.cell 2 _ rfl
              have g0 := HL2.out.free 0
              have g1 := HL2.out.free 1
              have g2 := HL2.out.free 2
              have KZ := HL2.out.setAll [.int .i64 yk, .int .i64 yn, .string ys] rfl
              have M0 := blk_farAll (h := w.heap.size + 1 + 1) (l := [.int .i64 yk, .int .i64 yn, .string ys]) (i := 0) (by omega) HL0.out
              have M1 := blk_farAll (h := w.heap.size + 1 + 1) (l := [.int .i64 yk, .int .i64 yn, .string ys]) (i := 0) (by omega) HL1.out
              have hbz := below_setAll (l := [.int .i64 yk, .int .i64 yn, .string ys]) (i := 0) hBw (g := w.heap.size + 1 + 1) (by omega)
              simp only [setAll, Nat.reduceAdd] at KZ M0 M1 hbz
              have NM0 := Lib.hid M0
              have NM1 := Lib.hid M1
              have NMZ := Lib.hid KZ
              clear KZ M0 M1
              go_wp2
              go_roundw
              case rel => exact ⟨k + 1, ⟨yk, yn, ys⟩, by omega, by go_num, HN2, NM0, NM1, NMZ, hbz⟩
              case measure => simp [intOf]; omega
            · have e3 := beqF hok
              have x1 := HX.out.cell 1 _ rfl
              have x2 := HX.out.cell 2 _ rfl
              have b1 := HL2.out.cell 1 _ rfl
              have b2 := HL2.out.cell 2 _ rfl
              have HCP := Lib.hid (fun W => rcompare_val ⟨yk, yn, ys⟩ o W)
              obtain ⟨CP, hCP⟩ : ∃ y, cmpV ⟨yk, yn, ys⟩ o = y := ⟨_, rfl⟩
              rw [hCP] at HCP
              simp only at HCP
              have HNC : Hid (R = (L.drop (k + 1)).foldl (stepF fn) (if (fn = 3 ∧ CP < 0) ∨ (fn = 4 ∧ 0 < CP) then ⟨yk, yn, ys⟩ else o)) := Lib.hid (by
                rw [HN.out, show stepF fn o (⟨yk, yn, ys⟩, xn) = if o.k = 0 ∨ (fn = 3 ∧ cmpV ⟨yk, yn, ys⟩ o < 0) ∨ (fn = 4 ∧ 0 < cmpV ⟨yk, yn, ys⟩ o) then ⟨yk, yn, ys⟩ else o from (if_neg hk0).trans (if_neg hf2), hCP]
                congr 1
                simp only [hok, false_or])
              clear hk0 hf2 HN hok hCP
              by_cases hf3 : fn = 3
              · have e4 := beqT hf3
                by_cases hcp : CP < 0
                · have e5 : decide (CP < 0) = true := decide_eq_true hcp
                  have HN2 := Lib.hid (HNC.out.trans (by rw [if_pos (.inl ⟨hf3, hcp⟩)]))
                  clear hf3 hcp HNC
                  go_wp2_with fail
                  refine (HCP.out _).mono ?_
                  rintro e w3 ⟨rfl, hb3⟩
                  have hBz := below_trans hBw hb3
                  have HM0 := Lib.hid (HL0.out.below hb3)
                  have HM1 := Lib.hid (HL1.out.below hb3)
                  have HM2 := Lib.hid (HL2.out.below hb3)
                  have HY := Lib.hid (HX.out.below hb3)
                  have a3 := HM0.out.cell 0 _ rfl
                  have a0' := HY.out.cell 0 _ rfl
                  have a1' := HY.out.cell 1 _ rfl
                  have a2' := HY.out.cell 2 _ rfl
                  have t0 := HM2.out.cell 0 _ rfl
                  have t1 := HM2.out.cell 1 _ rfl
                  have t2 := HM2.out.cell 2 _ rfl
                  have g0 := HM2.out.free 0
                  have g1 := HM2.out.free 1
                  have g2 := HM2.out.free 2
                  have KZ := HM2.out.setAll [.int .i64 yk, .int .i64 yn, .string ys] rfl
                  have M0 := blk_farAll (h := w.heap.size + 1 + 1) (l := [.int .i64 yk, .int .i64 yn, .string ys]) (i := 0) (by omega) HM0.out
                  have M1 := blk_farAll (h := w.heap.size + 1 + 1) (l := [.int .i64 yk, .int .i64 yn, .string ys]) (i := 0) (by omega) HM1.out
                  have hbz := below_setAll (l := [.int .i64 yk, .int .i64 yn, .string ys]) (i := 0) hBz (g := w.heap.size + 1 + 1) (by omega)
                  simp only [setAll, Nat.reduceAdd] at KZ M0 M1 hbz
                  have NM0 := Lib.hid M0
                  have NM1 := Lib.hid M1
                  have NMZ := Lib.hid KZ
                  clear KZ M0 M1
                  go_wp2
                  go_roundw
                  case rel => exact ⟨k + 1, ⟨yk, yn, ys⟩, by omega, by go_num, HN2, NM0, NM1, NMZ, hbz⟩
                  case measure => simp [intOf]; omega
                · have e5 : decide (CP < 0) = false := decide_eq_false hcp
                  have e6 : (fn == 4) = false := beqF (by omega)
                  have HN2 := Lib.hid (HNC.out.trans (by rw [if_neg (by omega)]))
                  clear hf3 hcp HNC
                  go_wp2_with fail
                  refine (HCP.out _).mono ?_
                  rintro e w3 ⟨rfl, hb3⟩
                  have hBz := below_trans hBw hb3
                  have HM0 := Lib.hid (HL0.out.below hb3)
                  have HM1 := Lib.hid (HL1.out.below hb3)
                  have HM2 := Lib.hid (HL2.out.below hb3)
                  have HY := Lib.hid (HX.out.below hb3)
                  have a3 := HM0.out.cell 0 _ rfl
                  go_wp2
                  go_roundw
                  case rel => exact ⟨k + 1, o, by omega, by go_num, HN2, HM0, HM1, HM2, hBz⟩
                  case measure => simp [intOf]; omega
              · have e4 := beqF hf3
                by_cases hf4 : fn = 4
                · have e6 := beqT hf4
                  by_cases hcp : 0 < CP
                  · have e5 : decide (0 < CP) = true := decide_eq_true hcp
                    have HN2 := Lib.hid (HNC.out.trans (by rw [if_pos (.inr ⟨hf4, hcp⟩)]))
                    clear hf3 hf4 hcp HNC
                    go_wp2_with fail
                    refine (HCP.out _).mono ?_
                    rintro e w3 ⟨rfl, hb3⟩
                    have hBz := below_trans hBw hb3
                    have HM0 := Lib.hid (HL0.out.below hb3)
                    have HM1 := Lib.hid (HL1.out.below hb3)
                    have HM2 := Lib.hid (HL2.out.below hb3)
                    have HY := Lib.hid (HX.out.below hb3)
                    have a3 := HM0.out.cell 0 _ rfl
                    have a0' := HY.out.cell 0 _ rfl
                    have a1' := HY.out.cell 1 _ rfl
                    have a2' := HY.out.cell 2 _ rfl
                    have t0 := HM2.out.cell 0 _ rfl
                    have t1 := HM2.out.cell 1 _ rfl
                    have t2 := HM2.out.cell 2 _ rfl
                    have g0 := HM2.out.free 0
                    have g1 := HM2.out.free 1
                    have g2 := HM2.out.free 2
                    have KZ := HM2.out.setAll [.int .i64 yk, .int .i64 yn, .string ys] rfl
                    have M0 := blk_farAll (h := w.heap.size + 1 + 1) (l := [.int .i64 yk, .int .i64 yn, .string ys]) (i := 0) (by omega) HM0.out
                    have M1 := blk_farAll (h := w.heap.size + 1 + 1) (l := [.int .i64 yk, .int .i64 yn, .string ys]) (i := 0) (by omega) HM1.out
                    have hbz := below_setAll (l := [.int .i64 yk, .int .i64 yn, .string ys]) (i := 0) hBz (g := w.heap.size + 1 + 1) (by omega)
                    simp only [setAll, Nat.reduceAdd] at KZ M0 M1 hbz
                    have NM0 := Lib.hid M0
                    have NM1 := Lib.hid M1
                    have NMZ := Lib.hid KZ
                    clear KZ M0 M1
                    go_wp2
                    go_roundw
                    case rel => exact ⟨k + 1, ⟨yk, yn, ys⟩, by omega, by go_num, HN2, NM0, NM1, NMZ, hbz⟩
                    case measure => simp [intOf]; omega
                  · have e5 : decide (0 < CP) = false := decide_eq_false hcp
                    have HN2 := Lib.hid (HNC.out.trans (by rw [if_neg (by omega)]))
                    clear hf3 hf4 hcp HNC
                    go_wp2_with fail
                    refine (HCP.out _).mono ?_
                    rintro e w3 ⟨rfl, hb3⟩
                    have hBz := below_trans hBw hb3
                    have HM0 := Lib.hid (HL0.out.below hb3)
                    have HM1 := Lib.hid (HL1.out.below hb3)
                    have HM2 := Lib.hid (HL2.out.below hb3)
                    have HY := Lib.hid (HX.out.below hb3)
                    have a3 := HM0.out.cell 0 _ rfl
                    go_wp2
                    go_roundw
                    case rel => exact ⟨k + 1, o, by omega, by go_num, HN2, HM0, HM1, HM2, hBz⟩
                    case measure => simp [intOf]; omega
                · have e6 := beqF hf4
                  have HN2 := Lib.hid (HNC.out.trans (by rw [if_neg (by omega)]))
                  clear hf3 hf4 HNC
                  go_wp2
                  go_roundw
                  case rel => exact ⟨k + 1, o, by omega, by go_num, HN2, HL0, HL1, HL2, hBw⟩
                  case measure => simp [intOf]; omega
      · obtain rfl : k = l.length := by omega
        have hq1 : ¬ (l.length : Int) < (l.length : Int) := by omega
        have ES : Hid (R = o) := Lib.hid (by rw [HS.out, HLN.out, List.drop_length]; rfl)
        have z0 := HK1.out.cell 0 _ rfl
        have f0 := HK1.out.free 0
        have z1 := HK1.out.cell 1 _ rfl
        have f1 := HK1.out.free 1
        have z2 := HK1.out.cell 2 _ rfl
        have f2 := HK1.out.free 2
        have u0 := HK2.out.cell 0 _ rfl
        have u1 := HK2.out.cell 1 _ rfl
        have u2 := HK2.out.cell 2 _ rfl
        clear HS
        have KZ := (HK1.out).setAll [.int .i64 o.k, .int .i64 o.n, .string o.s] rfl
        have hbz := below_setAll (l := [.int .i64 o.k, .int .i64 o.n, .string o.s]) (i := 0) hBr (g := w.heap.size + 1) (by omega)
        simp only [setAll, Nat.reduceAdd] at KZ hbz
        have v0 := KZ.cell 0 _ rfl
        have v1 := KZ.cell 1 _ rfl
        have v2 := KZ.cell 2 _ rfl
        clear KZ
        go_wp2
        refine bodyPost_ret (v := .agg #[.int .i64 o.k, .int .i64 o.n, .string o.s]) (by simp [results, Tryz.results139, go_sem, v0, v1, v2]) rfl ?_
        exact ⟨by rw [ES.out], hbz⟩
end Go.Proofs.YtblhidmkalleoaaGreatDoor
