/-
  The parts of a buffer: the iterator. Where an entry stands: the binary search. Is there an entry of that place?
-/
import Derived.Test.YteabfalklgffmaaDoorBufM6
import Derived.RangeFuncNested
import Derived.RangeFuncBound
import Derived.RangeFuncCalls
import Derived.RangeFuncLeaves
import Derived.Shelf.Abstract
import Derived.Shelf.RegionOpen
import Derived.WalkKit
import Derived.OwnWalkIn
import Derived.TacticsInMore
import Derived.LoopNIn
import Derived.LoopIn
import Derived.Test.YteabfalklgffmaaDoorBufM5
import Derived.RangeFuncFrom
set_option linter.unusedSimpArgs false
set_option linter.unusedVariables false
namespace Go.Proofs.YteabfalklgffmaaDoor
open Go.RowKit Go.Shelf
attribute [local go_sem] Oper.semAt_some

/-- The part of a number: Mem, and then the runs. -/
def Buf.part (b : Buf) : Nat → Value × List Ent
  | 0 => (b.vm, b.mem)
  | k + 1 => (b.runs[k]?).getD (.slice none 0 0, [])
def idxP : Nat → Int
  | 0 => -1
  | k + 1 => (k : Int)
def encP (b : Buf) (k : Nat) : Array Value := #[.int .i64 (idxP k), (b.part k).1]
theorem Buf.ok.part {w : World} {b : Buf} (h : b.ok w) (k : Nat) : Ents w (b.part k).1 (b.part k).2 := by
  cases k with
  | zero => exact h.mem
  | succ k =>
    show Ents w ((b.runs[k]?).getD (.slice none 0 0, [])).1 ((b.runs[k]?).getD (.slice none 0 0, [])).2
    cases hx : b.runs[k]? with
    | none => exact Ents.nil w
    | some p => exact h.runs p (List.mem_of_getElem? hx)

set_option maxHeartbeats 1000000 in
theorem parts_any (b : Buf) (w : World) : Calls Tryd.prog 19 #[.agg #[.int .i64 b.limit, b.vm, b.vr]] w fun e w' => e = .returned (.func (.func 42) #[] #[.pointer (some ⟨w.heap.size, 0, none⟩)]) ∧ w' = w.alloc (.cells #[.int .i64 b.limit, b.vm, b.vr] 25) := by
  go_enter Tryd.func19, Tryd.ntmps19
  go_wp2
  go_ret
  exact ⟨rfl, rfl⟩

/-- What a round keeps: what lay below m, and the block B. -/
def KpB (m B : Nat) (W W' : World) : Prop := Below m W W' ∧ W'.heap[B]? = W.heap[B]?
theorem KpB.trans {m B : Nat} {X Y Z : World} (h : KpB m B X Y) (k : KpB m B Y Z) : KpB m B X Z := ⟨h.1.trans k.1, k.2.trans h.2⟩
theorem KpB.refl (m B : Nat) (W : World) : KpB m B W W := ⟨Below.refl _ _, rfl⟩
theorem KpB.of_below {m B : Nat} {W W' : World} (hm : m ≤ W.heap.size) (hB : B < W.heap.size) (h : Below W.heap.size W W') : KpB m B W W' := ⟨h.mono hm, h.block B hB⟩
theorem KpB.set {m B : Nat} {X W : World} (h : KpB m B X W) {p : Addr} (hp : m ≤ p.block) (hne : B ≠ p.block) (u : Value) : KpB m B X (W.setCell p u) := ⟨h.1.setCell hp u, (Below.heap_setCell W p u B hne).trans h.2⟩
theorem KpB.put {m B : Nat} {w : World} (hm : m ≤ w.heap.size) (hB : B < w.heap.size) : ∀ (W : World) (l : Nat) (o o' : Obj), w.heap.size ≤ l → W.heap[l]? = some o → o.isCells = false → o.isWalk = false → KpB m B W (W.putObj l o') := fun W l o o' hl ho hc hw =>
  ⟨belowK_b hm W l o o' hl ho hc hw, (belowK_b (w := w) (n₀ := w.heap.size) (Nat.le_refl _) W l o o' hl ho hc hw).block B hB⟩

set_option maxRecDepth 100000 in
set_option maxHeartbeats 2000000 in
theorem parts1_in (F : Fence) (n : Nat) (hf : F.fn 42) (hro : F.round = none) (hn : 1 ≤ n) (l Bs : Nat) (b : Buf) (w0 : World) (J Jx : List Nat → World → Prop)
    (hY : ∀ pre k W, J pre W → pre.length < b.runs.length + 1 → YieldAt F (n - 1) Tryd.prog l (encP b k) W fun e W' =>
      (e = .returned (.bool true) ∧ J (pre ++ [k]) W' ∧ KpB w0.heap.size Bs W W') ∨ (e = .returned (.bool false) ∧ Jx (pre ++ [k]) W'))
    (W : World) (hB : Blk W Bs 25 #[.int .i64 b.limit, b.vm, b.vr]) (hbw : Below w0.heap.size w0 W) (hb : b.ok w0) (h0 : J [] W) :
    CallsIn F n Tryd.prog 42 #[.func (.yield l) #[] #[], .pointer (some ⟨Bs, 0, none⟩)] W fun e W' => (∃ v, e = .returned v) ∧
      ((∃ ys, ys = List.range (b.runs.length + 1) ∧ J ys W') ∨ (∃ pre, (∃ k, k ≤ b.runs.length + 1 ∧ pre = List.range k) ∧ Jx pre W')) := by
  have HB := Lib.hid hB
  have HO := Lib.hid hb
  obtain ⟨A, c, hvr, hr1, hr2, -⟩ := id hb.sl
  unfold maxLen at hr2
  have y1 := hB.cell 1 _ rfl
  have y2 := hB.cell 2 _ rfl
  have HVR := Lib.hid hvr
  clear hvr
  obtain ⟨fn, tmps, assign, body, hy, hR⟩ := hY [] 0 W h0 (by simp)
  dsimp only [encP, idxP, Buf.part] at hy
  refine callsIn_of_wp Tryd.func42 rfl hf ?_ hro
  simp only [Tryd.ntmps42, List.size_toArray, List.length_cons, List.length_nil, Nat.reduceAdd, Nat.reduceSub, Array.replicate_succ, Array.replicate_zero, List.push_toArray, List.append_toArray, List.nil_append, List.cons_append]
  gi_wp2
  refine hR.mono ?_
  rintro e W1 (⟨rfl, hJ1, hk1⟩ | ⟨rfl, hJx1⟩)
  · have K1 : Blk W1 Bs 25 #[.int .i64 b.limit, b.vm, b.vr] := hk1.2.trans HB.out
    have z2 := K1.cell 2 _ rfl
    rw [HVR.out] at z2
    have hbw1 : Below w0.heap.size w0 W1 := hbw.trans hk1.1
    clear y1 y2 hy
    gi_wp2
    gi_loopw [3, 4, 13] (fun _ _ i wr => ∃ k : Nat, k ≤ b.runs.length ∧ i = .int .i64 k ∧ J (List.range (k + 1)) wr ∧ KpB w0.heap.size Bs W wr) (fun _ _ i _ => b.runs.length - (intOf i).toNat)
    case atStart => exact ⟨0, by omega, rfl, hJ1, hk1⟩
    case round =>
      obtain ⟨k, hk, rfl, hJs, hnx⟩ := hrel
      by_cases hlt : k < b.runs.length
      · have hx := List.getElem?_eq_getElem (l := b.runs) hlt
        generalize b.runs[k] = p at hx
        obtain ⟨g, off, rfl, -, hc⟩ := one_at HO.out.sl HVR.out (k := k) (u := p.1) (by rw [List.getElem?_map, hx]; rfl)
        have d1 := hc wr (hbw.trans hnx.1)
        obtain ⟨fn2, tmps2, assign2, body2, hy2, hR2⟩ := hY (List.range (k + 1)) (k + 1) wr hJs (by simp; omega)
        simp only [encP, idxP, Buf.part, hx, Option.getD_some] at hy2
        clear hx hc
        have k0 : (0 : Int) ≤ (k : Int) := by omega
        have k1 : (k : Int) < (b.runs.length : Int) := by omega
        gi_wp2
        refine hR2.mono ?_
        rintro e W3 (⟨rfl, hJ3, hk3⟩ | ⟨rfl, hJx3⟩)
        · gi_wp2
          go_roundw
          case rel => exact ⟨k + 1, by omega, by simp, by rw [List.range_succ]; exact hJ3, hnx.trans hk3⟩
          case measure => simp [intOf]; omega
        · gi_wp2
          refine bodyPost_ret (results_none rfl _ _ _) rfl ?_
          exact ⟨⟨_, rfl⟩, .inr ⟨_, ⟨k + 2, by omega, (List.range_succ).symm⟩, hJx3⟩⟩
      · obtain rfl : k = b.runs.length := by omega
        gi_wp2
        go_end0
        exact ⟨⟨_, rfl⟩, .inl ⟨_, rfl, hJs⟩⟩
  · gi_wp2
    refine bodyPost_ret (results_none rfl _ _ _) rfl ?_
    exact ⟨⟨_, rfl⟩, .inr ⟨_, ⟨1, by omega, rfl⟩, hJx1⟩⟩

theorem parts_stops (F : Fence) (n : Nat) (hf : F.fn 42) (hro : F.round = none) (hn : 1 ≤ n) (Bs : Nat) (b : Buf) (w : World) (hB : Blk w Bs 25 #[.int .i64 b.limit, b.vm, b.vr])
    (w0 : World) (hbw : Below w0.heap.size w0 w) (hb : b.ok w0) :
    SeqStopsK F n Tryd.prog 42 #[.pointer (some ⟨Bs, 0, none⟩)] (encP b) (KpB w0.heap.size Bs) (fun ys => ys = List.range (b.runs.length + 1)) (fun pre => ∃ k, k ≤ b.runs.length + 1 ∧ pre = List.range k) (b.runs.length + 1) w :=
  fun l J Jx W hW _ _ hY h0 => (parts1_in F n hf hro hn l Bs b w0 J Jx hY W ((hW.block Bs hB.lt).trans hB) (hbw.trans (hW.mono hbw.size)) hb h0).mono fun _ _ h => h

end Go.Proofs.YteabfalklgffmaaDoor
namespace Go.Proofs.YteabfalklgffmaaDoor
open Go.RowKit

theorem up_less {l : List En} {e : En} (h : Up l) {i j : Nat} {x y : En} (hi : l[i]? = some x) (hj : l[j]? = some y) (hle : i ≤ j) (hy : cmpE y e < 0) : cmpE x e < 0 := by
  by_cases he : i = j
  · subst he
    rw [hi] at hj
    injection hj with hj
    rw [hj]; exact hy
  · obtain ⟨h1, e1⟩ := List.getElem?_eq_some_iff.1 hi
    obtain ⟨h2, e2⟩ := List.getElem?_eq_some_iff.1 hj
    have := List.pairwise_iff_getElem.1 h i j h1 h2 (by omega)
    rw [e1, e2] at this
    exact cmpE_trans this hy
theorem ens_len (l : List Ent) : (ens l).length = l.length := by unfold ens; rw [List.length_map]
theorem ens_at {l : List Ent} {k : Nat} {x : Ent} (h : l[k]? = some x) : (ens l)[k]? = some x.e := by unfold ens; rw [List.getElem?_map, h]; rfl

set_option maxHeartbeats 4000000 in
set_option maxRecDepth 10000 in
theorem bsearch_any (v : Value) (l : List Ent) (x : Ent) (w : World) (h : Ents w v l) (hl : l.length ≤ 1000000) (hU : Up (ens l)) :
    Calls Tryd.prog 22 #[v, x.agg, .func (.func 23) #[] #[]] w fun e w' => ∃ i is, e = .returned (.tuple #[.int .i64 (i : Nat), .bool is]) ∧ PosE (ens l) x.e i ∧ is = isE (ens l) x.e ∧ Below w.heap.size w w' := by
  have HV := Lib.hid h
  have HU := Lib.hid hU
  obtain ⟨A, c, rfl, h1, h2, -⟩ := id h.sl
  unfold maxLen at h2
  have HOR := Lib.hid (fun (a : Ent) (w' : World) => order_ent a x w')
  have HX := Lib.hid (Blk.new w 28 #[.string (str x.e.key), .int .i64 x.e.t, .int .i64 x.e.s, x.v, .bool x.e.met])
  have hB := below_alloc w (.cells #[.string (str x.e.key), .int .i64 x.e.t, .int .i64 x.e.s, x.v, .bool x.e.met] 28)
  clear h hU
  unfold Ent.agg at HOR ⊢
  go_enter Tryd.func22, Tryd.ntmps22
  go_wp2_with fail
  go_loopw [9, 10, 11] (fun lo hi _ wr => ∃ a b : Nat, lo = .int .i64 a ∧ hi = .int .i64 b ∧ a ≤ b ∧ b ≤ l.length ∧ Hid (∀ j y, j < a → (ens l)[j]? = some y → cmpE y x.e < 0) ∧ Hid (∀ j y, b ≤ j → (ens l)[j]? = some y → 0 ≤ cmpE y x.e) ∧ Blk wr w.heap.size 28 #[.string (str x.e.key), .int .i64 x.e.t, .int .i64 x.e.s, x.v, .bool x.e.met] ∧ Below w.heap.size w wr) (fun lo hi _ _ => (intOf hi).toNat - (intOf lo).toNat)
  case atStart => exact ⟨0, l.length, rfl, rfl, by omega, by omega, Lib.hid (fun j y h => absurd h (by omega)), Lib.hid (fun j y h hp => by have := (List.getElem?_eq_some_iff.1 hp).1; rw [ens_len] at this; omega), HX.out, hB⟩
  case round =>
    obtain ⟨a, b, rfl, rfl, hab, hbl, HL, HM, hK, hbw⟩ := hrel
    by_cases hlt : a < b
    · obtain ⟨m, hm⟩ : ∃ m, (a + b) / 2 = m := ⟨_, rfl⟩
      have hma : a ≤ m := by omega
      have hmb : m < b := by omega
      have hml : m < l.length := by omega
      have hx := List.getElem?_eq_getElem (l := l) hml
      generalize l[m] = y at hx
      obtain ⟨g, off, rfl, -, hc⟩ := ent_at HV.out.sl rfl hx
      have HC := Lib.hid hc
      have HY := Lib.hid (ens_at hx)
      have HO := Lib.hid (fun w' => HOR.out y w')
      clear hc hx
      have hq : ((a : Int) + (b : Int)) / 2 = (m : Int) := by omega
      have m0 : (0 : Int) ≤ (m : Int) := by omega
      have m1 : (m : Int) < (l.length : Int) := by omega
      obtain ⟨d0, d1, d2, d3, d4⟩ := HC.out _ hbw
      have x0 := hK.cell 0 _ rfl
      have x1 := hK.cell 1 _ rfl
      have x2 := hK.cell 2 _ rfl
      have x3 := hK.cell 3 _ rfl
      have x4 := hK.cell 4 _ rfl
      have HK := Lib.hid hK
      clear hm hK
      go_wp2_with fail
      go_region_held3 (fun w' => w'.cell? ⟨g, off + m * 5, none⟩ = some (.string (str y.e.key)) ∧ w'.cell? ⟨g, off + m * 5 + 1, none⟩ = some (.int .i64 y.e.t) ∧ w'.cell? ⟨g, off + m * 5 + 2, none⟩ = some (.int .i64 y.e.s) ∧ w'.cell? ⟨g, off + m * 5 + 3, none⟩ = some y.v ∧ w'.cell? ⟨g, off + m * 5 + 4, none⟩ = some (.bool y.e.met) ∧
          w'.cell? ⟨w.heap.size, 0, none⟩ = some (.string (str x.e.key)) ∧ w'.cell? ⟨w.heap.size, 1, none⟩ = some (.int .i64 x.e.t) ∧ w'.cell? ⟨w.heap.size, 2, none⟩ = some (.int .i64 x.e.s) ∧ w'.cell? ⟨w.heap.size, 3, none⟩ = some x.v ∧ w'.cell? ⟨w.heap.size, 4, none⟩ = some (.bool x.e.met))
        (first | go_keep | exact ⟨d0, d1, d2, d3, d4, x0, x1, x2, x3, x4⟩ | exact z)
        ((go_at_call 23
          refine (HO.out _).mono ?_
          rintro e w2 ⟨rfl, hb2⟩
          have hbw2 := below_trans hbw.drew hb2
          have K2 := HK.out.drew.below hb2
          obtain ⟨e0, e1, e2, e3, e4⟩ := HC.out _ hbw2
          have z := And.intro e0 (And.intro e1 (And.intro e2 (And.intro e3 (And.intro e4 (And.intro (K2.cell 0 _ rfl) (And.intro (K2.cell 1 _ rfl) (And.intro (K2.cell 2 _ rfl) (And.intro (K2.cell 3 _ rfl) (K2.cell 4 _ rfl)))))))))))
      all_goals
        clear z d0 d1 d2 d3 d4 x0 x1 x2 x3 x4 e0 e1 e2 e3 e4
        by_cases hz : cmpE y.e x.e < 0
        · have HL2 : Hid (∀ j u, j < m + 1 → (ens l)[j]? = some u → cmpE u x.e < 0) := Lib.hid fun j u hj hu => up_less HU.out hu HY.out (by omega) hz
          go_wp2
          go_roundw
          case rel => exact ⟨m + 1, b, by go_num, rfl, by omega, hbl, HL2.out, HM.out, K2, hbw2⟩
          case measure => simp [intOf]; omega
        · have HM2 : Hid (∀ j u, m ≤ j → (ens l)[j]? = some u → 0 ≤ cmpE u x.e) := Lib.hid fun j u hj hu => Int.not_lt.1 fun h0 => hz (up_less HU.out HY.out hu hj h0)
          go_wp2
          go_roundw
          case rel => exact ⟨a, m, rfl, rfl, hma, by omega, HL.out, HM2.out, K2, hbw2⟩
          case measure => simp [intOf]; omega
    · obtain rfl : a = b := by omega
      have HP : Hid (PosE (ens l) x.e a) := Lib.hid ⟨by rw [ens_len]; exact hbl, HL.out, fun j u h1 h2 => Int.not_lt.2 (HM.out j u h1 h2)⟩
      clear HL HM
      have x0 := hK.cell 0 _ rfl
      have x1 := hK.cell 1 _ rfl
      have x2 := hK.cell 2 _ rfl
      have x3 := hK.cell 3 _ rfl
      have x4 := hK.cell 4 _ rfl
      have HK := Lib.hid hK
      clear hK
      by_cases hal : a < l.length
      · have hx := List.getElem?_eq_getElem (l := l) hal
        generalize l[a] = y at hx
        obtain ⟨g, off, rfl, -, hc⟩ := ent_at HV.out.sl rfl hx
        have HC := Lib.hid hc
        have HI : Hid (isE (ens l) x.e = decide (cmpE y.e x.e = 0)) := Lib.hid (by rw [isE_at HU.out HP.out, ens_at hx])
        have HO := Lib.hid (fun w' => HOR.out y w')
        clear hc hx
        have m0 : (0 : Int) ≤ (a : Int) := by omega
        have m1 : (a : Int) < (l.length : Int) := by omega
        have hd : decide ((a : Int) < (l.length : Int)) = true := decide_eq_true m1
        obtain ⟨d0, d1, d2, d3, d4⟩ := HC.out _ hbw
        go_wp2_with fail
        go_region_held3 (fun w' => w'.cell? ⟨g, off + a * 5, none⟩ = some (.string (str y.e.key)) ∧ w'.cell? ⟨g, off + a * 5 + 1, none⟩ = some (.int .i64 y.e.t) ∧ w'.cell? ⟨g, off + a * 5 + 2, none⟩ = some (.int .i64 y.e.s) ∧ w'.cell? ⟨g, off + a * 5 + 3, none⟩ = some y.v ∧ w'.cell? ⟨g, off + a * 5 + 4, none⟩ = some (.bool y.e.met) ∧
            w'.cell? ⟨w.heap.size, 0, none⟩ = some (.string (str x.e.key)) ∧ w'.cell? ⟨w.heap.size, 1, none⟩ = some (.int .i64 x.e.t) ∧ w'.cell? ⟨w.heap.size, 2, none⟩ = some (.int .i64 x.e.s) ∧ w'.cell? ⟨w.heap.size, 3, none⟩ = some x.v ∧ w'.cell? ⟨w.heap.size, 4, none⟩ = some (.bool x.e.met))
          (first | go_keep | exact ⟨d0, d1, d2, d3, d4, x0, x1, x2, x3, x4⟩ | exact z)
          ((go_at_call 23
            refine (HO.out _).mono ?_
            rintro e w2 ⟨rfl, hb2⟩
            have hbw2 := below_trans hbw.drew hb2
            have K2 := HK.out.drew.below hb2
            obtain ⟨e0, e1, e2, e3, e4⟩ := HC.out _ hbw2
            have z := And.intro e0 (And.intro e1 (And.intro e2 (And.intro e3 (And.intro e4 (And.intro (K2.cell 0 _ rfl) (And.intro (K2.cell 1 _ rfl) (And.intro (K2.cell 2 _ rfl) (And.intro (K2.cell 3 _ rfl) (K2.cell 4 _ rfl)))))))))))
        all_goals
          go_wp2
          go_ret2
          exact ⟨a, _, rfl, HP.out, by rw [HI.out]; rfl, hbw2⟩
      · have HI : Hid (isE (ens l) x.e = false) := Lib.hid (by rw [isE_at HU.out HP.out, List.getElem?_eq_none (by rw [ens_len]; omega)])
        have hd : decide ((a : Int) < (l.length : Int)) = false := decide_eq_false (by omega)
        go_wp2_with fail
        go_quiet (fail)
        go_wp2
        go_ret2
        exact ⟨a, _, rfl, HP.out, by rw [HI.out], ⟨hbw.os, hbw.tape, hbw.output, hbw.size, hbw.block⟩⟩

end Go.Proofs.YteabfalklgffmaaDoor
namespace Go.Proofs.YteabfalklgffmaaDoor
open Go.RowKit Go.Shelf
attribute [local go_sem] Oper.semAt_some

def Buf.agg (b : Buf) : Value := .agg #[.int .i64 b.limit, b.vm, b.vr]
theorem blk_own {A B : World} {g : Nat} {t : TypeId} {cs : Array Value} {row : Option Nat} (h : Blk A g t cs) (hg : A.grownBy B row) (hr : ∀ r, row = some r → ∃ o : Obj, A.heap[r]? = some o ∧ o.isCells = false) : Blk B g t cs :=
  (hg.block g h.lt (fun e => by
    obtain ⟨o, ho, hc⟩ := hr g e.symm
    have h' : A.heap[g]? = some (.cells cs t) := h
    rw [h'] at ho
    injection ho with ho
    subst ho
    cases hc)).trans h
theorem keeps_below {W W' : World} (h : Below W.heap.size W W') : KeepsOthers W W' := KeepsOthers.of_grownBy (grown_of_below h none) (fun j o e => by cases e)

theorem parts_eq (b : Buf) : b.bu.parts = (List.range (b.runs.length + 1)).map fun k => ens (b.part k).2 := by
  rw [List.range_succ_eq_map, List.map_cons, List.map_map]
  show ens b.mem :: (b.runs.map fun p => ens p.2) = _
  congr 1
  apply List.ext_getElem
  · simp
  · intro i h1 h2
    have hi : i < b.runs.length := by simpa using h1
    simp [Buf.part, hi]
theorem isE_parts (b : Buf) (e : En) : isE b.bu.all e = (List.range (b.runs.length + 1)).any fun k => isE (ens (b.part k).2) e := by
  unfold Bu.all
  rw [isE_flat, parts_eq, List.any_map]
  rfl

set_option maxRecDepth 100000 in
set_option maxHeartbeats 4000000 in
theorem has_any (b : Buf) (x : Ent) (w : World) (hb : b.ok w) (hU : ∀ k, Up (ens (b.part k).2)) (hl : ∀ k, (b.part k).2.length ≤ 1000000) :
    Calls Tryd.prog 18 #[b.agg, x.agg] w fun e w' => e = .returned (.bool (isE b.bu.all x.e)) ∧ Below w.heap.size w w' := by
  have HO := Lib.hid hb
  have HU := Lib.hid hU
  have HL := Lib.hid hl
  have HBS := Lib.hid (fun k w' (h : Below w.heap.size w w') => bsearch_any (b.part k).1 (b.part k).2 x w' ((hb.part k).below h) (hl k) (hU k))
  have HIS := Lib.hid (isE_parts b x.e)
  unfold Buf.agg
  unfold Ent.agg at HBS ⊢
  clear hb hU hl
  refine (callsIn_wide (n := 3)).1 ?_
  refine callsIn_of_wp_marks Tryd.func18 rfl trivial ?_ rfl
  simp only [Tryd.ntmps18, List.size_toArray, List.length_cons, List.length_nil, Nat.reduceAdd, Nat.reduceSub, Array.replicate_succ, Array.replicate_zero, List.push_toArray, List.append_toArray, List.nil_append, List.cons_append]
  gi_wp2_with (refine ⟨trivial, ?_⟩; gi_at_call 19; refine (callsIn_wide.2 (parts_any b _)).mono ?_; rintro e w' ⟨rfl, rfl⟩)
  have hB0 : Below w.heap.size w ((((w.alloc (.cells #[.int .i64 b.limit, b.vm, b.vr] 25)).alloc (.cells #[.string (str x.e.key), .int .i64 x.e.t, .int .i64 x.e.s, x.v, .bool x.e.met] 28)).alloc (.cells #[.bool false] 4)).alloc (.cells #[.int .i64 b.limit, b.vm, b.vr] 25)) :=
    ((((Below.refl _ w).alloc (Nat.le_refl _) _).alloc (by simp) _).alloc (by simp; omega) _).alloc (by simp; omega) _
  have k1 := (Blk.new (w.alloc (.cells #[.int .i64 b.limit, b.vm, b.vr] 25)) 28 #[.string (str x.e.key), .int .i64 x.e.t, .int .i64 x.e.s, x.v, .bool x.e.met]).alloc (.cells #[.bool false] 4) |>.alloc (.cells #[.int .i64 b.limit, b.vm, b.vr] 25)
  have k2 := (Blk.new ((w.alloc (.cells #[.int .i64 b.limit, b.vm, b.vr] 25)).alloc (.cells #[.string (str x.e.key), .int .i64 x.e.t, .int .i64 x.e.s, x.v, .bool x.e.met] 28)) 4 #[.bool false]).alloc (.cells #[.int .i64 b.limit, b.vm, b.vr] 25)
  have k3 := Blk.new (((w.alloc (.cells #[.int .i64 b.limit, b.vm, b.vr] 25)).alloc (.cells #[.string (str x.e.key), .int .i64 x.e.t, .int .i64 x.e.s, x.v, .bool x.e.met] 28)).alloc (.cells #[.bool false] 4)) 25 #[.int .i64 b.limit, b.vm, b.vr]
  simp only [World.size_alloc] at k1 k2 k3
  obtain ⟨W0, hW0⟩ : ∃ W0, (((w.alloc (.cells #[.int .i64 b.limit, b.vm, b.vr] 25)).alloc (.cells #[.string (str x.e.key), .int .i64 x.e.t, .int .i64 x.e.s, x.v, .bool x.e.met] 28)).alloc (.cells #[.bool false] 4)).alloc (.cells #[.int .i64 b.limit, b.vm, b.vr] 25) = W0 := ⟨_, rfl⟩
  have hsz : W0.heap.size = w.heap.size + 4 := by rw [← hW0]; simp
  rw [hW0] at hB0 k1 k2 k3 ⊢
  refine wpIn_rangeFunc_ownF rfl (by omega) (gf := 42) (lb := #[.pointer (some ⟨w.heap.size + 1 + 1 + 1, 0, none⟩)]) rfl trivial (enters_of Tryd.func42 (by kernel_rfl) rfl)
    (parts_stops Fence.wide _ trivial rfl (by omega) (w.heap.size + 1 + 1 + 1) b W0 k3 w hB0 HO.out) KpB.trans (KpB.put (by omega) (by omega)) (Below.refl _ _) (fun _ => rfl)
    (fun pre W => ((∀ k ∈ pre, isE (ens (b.part k).2) x.e = false) ∧ Blk W (w.heap.size + 1) 28 #[.string (str x.e.key), .int .i64 x.e.t, .int .i64 x.e.s, x.v, .bool x.e.met] ∧ Blk W (w.heap.size + 1 + 1) 4 #[.bool false] ∧ w.heap.size + 4 ≤ W.heap.size) ∧ Below w.heap.size w W)
    (fun c pre W => (c = .ret ∧ (∃ k ∈ pre, isE (ens (b.part k).2) x.e = true) ∧ Blk W (w.heap.size + 1 + 1) 4 #[.bool true]) ∧ Below w.heap.size w W)
    (OwnFrom.and (Own.from (fun s A B row hs hg hr => ⟨hs.1, blk_own hs.2.1 hg hr, blk_own hs.2.2.1 hg hr, Nat.le_trans hs.2.2.2 hg.size⟩) _) (ownFrom_below (Nat.le_refl _) (by omega)))
    (fun c => OwnFrom.and (Own.from (fun s A B row hs hg hr => ⟨hs.1, hs.2.1, blk_own hs.2.2 hg hr⟩) _) (ownFrom_below (Nat.le_refl _) (by omega)))
    ⟨⟨nofun, k1, k2, by omega⟩, hB0⟩
    (fun k => { tmps := #[.agg #[.int .i64 b.limit, b.vm, b.vr], .agg #[.string (str x.e.key), .int .i64 x.e.t, .int .i64 x.e.s, x.v, .bool x.e.met], .pointer (some ⟨w.heap.size, 0, none⟩), .pointer (some ⟨w.heap.size + 1, 0, none⟩), .pointer (some ⟨w.heap.size + 1 + 1, 0, none⟩), undef, (b.part k).1, undef, undef,
      .agg #[.int .i64 b.limit, b.vm, b.vr], .func (.func 42) #[] #[.pointer (some ⟨w.heap.size + 1 + 1 + 1, 0, none⟩)], .int .i64 (idxP k), (b.part k).1, undef, undef, undef, undef, undef, undef, undef], defers := [] }) ?assign ?body ?done ?stop
  case assign =>
    intro l k W K hK
    dsimp only [encP]
    gi_wp2
    exact hK
  case body =>
    rintro l pre k W ⟨⟨hp, hK1, hK2, hWs⟩, hB⟩ _
    have y0 := hK1.cell 0 _ rfl
    have y1 := hK1.cell 1 _ rfl
    have y2 := hK1.cell 2 _ rfl
    have y3 := hK1.cell 3 _ rfl
    have y4 := hK1.cell 4 _ rfl
    have HBK := Lib.hid (HBS.out k W hB)
    cases his : isE (ens (b.part k).2) x.e with
    | false =>
      have HIK := Lib.hid his
      simp only [his] at HBK
      clear his
      gi_wp2_with (refine ⟨trivial, ?_⟩; gi_at_call 22; refine (CallsIn.inRound l (callsIn_wide.2 HBK.out)).mono ?_; rintro e w5 ⟨i, _, rfl, -, rfl, hb5⟩)
      exact ⟨keeps_below hb5, KpB.of_below (by omega) (by omega) hb5, ⟨fun j hj => by
        rcases List.mem_append.1 hj with hj | hj
        · exact hp j hj
        · rw [List.mem_singleton.1 hj]; exact HIK.out, hK1.below hb5, hK2.below hb5, Nat.le_trans hWs hb5.size⟩, below_trans hB hb5⟩
    | true =>
      have HIK := Lib.hid his
      simp only [his] at HBK
      clear his
      gi_wp2_with (refine ⟨trivial, ?_⟩; gi_at_call 22; refine (CallsIn.inRound l (callsIn_wide.2 HBK.out)).mono ?_; rintro e w5 ⟨i, _, rfl, -, rfl, hb5⟩; have z0 := (hK2.below hb5).cell 0 _ rfl; have f0 := (hK2.below hb5).free 0)
      exact ⟨(keeps_below hb5).trans (KeepsOthers.setCell _ _ _), ⟨rfl, ⟨k, by simp, HIK.out⟩, (hK2.below hb5).set_ 0 (.bool true)⟩, (below_trans hB hb5).setCell (p := ⟨w.heap.size + 1 + 1, 0, none⟩) (by show w.heap.size ≤ w.heap.size + 1 + 1; omega) _⟩
  case done =>
    rintro D ys W hD rfl ⟨⟨hne, hK1, hK2, -⟩, hB⟩ hK
    have z0 := hK2.cell 0 _ rfl
    have f0 := hK2.free 0
    gi_wp2
    have hK' := (KeepsOthers.setCell W ⟨w.heap.size + 1 + 1, 0, none⟩ (.bool false)).same D _ hK rfl
    refine ⟨by simp, .inl ⟨_, _, rfl, run_takeDeferred hK', ?_⟩⟩
    have hc5 := cell_kept ((hK2.set_ 0 (.bool false)).cell 0 (.bool false) rfl) (grownBy_putObj' _ D (.deferred none)) (fun r e => by cases e; exact ⟨_, hK', rfl⟩)
    refine ⟨.bool false, ?_, ?_, (hB.setCell (p := ⟨w.heap.size + 1 + 1, 0, none⟩) (by show w.heap.size ≤ w.heap.size + 1 + 1; omega) _).trans (belowK_b (w := W0) (by omega) _ D _ _ hD hK' rfl rfl)⟩
    · simp [results, Tryd.results18, go_sem, hc5]
    · rw [HIS.out, show ((List.range (b.runs.length + 1)).any fun k => isE (ens (b.part k).2) x.e) = false from List.any_eq_false.2 fun k hk => by rw [hne k hk]; simp]
  case stop =>
    rintro D c pre W hD hpre ⟨⟨rfl, hin, hK2⟩, hB⟩ hK
    gi_wp2
    refine ⟨by simp, .inl ⟨_, _, rfl, run_takeDeferred hK, ?_⟩⟩
    have hc5 := cell_kept (hK2.cell 0 (.bool true) rfl) (grownBy_putObj' _ D (.deferred none)) (fun r e => by cases e; exact ⟨_, hK, rfl⟩)
    refine ⟨.bool true, ?_, ?_, hB.trans (belowK_b (w := W0) (by omega) W D _ _ hD hK rfl rfl)⟩
    · simp [results, Tryd.results18, go_sem, hc5]
    · obtain ⟨k, hk, hh⟩ := hin
      obtain ⟨q, hq, rfl⟩ := hpre
      rw [HIS.out, show ((List.range (b.runs.length + 1)).any fun k => isE (ens (b.part k).2) x.e) = true from List.any_eq_true.2 ⟨k, by rw [List.mem_range] at hk ⊢; omega, hh⟩]

end Go.Proofs.YteabfalklgffmaaDoor
