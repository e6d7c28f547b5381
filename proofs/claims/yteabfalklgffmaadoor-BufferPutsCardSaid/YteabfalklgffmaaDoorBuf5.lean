/-
  The parts of a buffer: the iterator.
-/
import Derived.Test.YteabfalklgffmaaDoorBuf4
import Derived.RangeFuncNested
import Derived.RangeFuncBound
import Derived.RangeFuncCalls
import Derived.RangeFuncLeaves
import Derived.Shelf.Abstract
import Derived.Shelf.RegionOpen
import Derived.WalkKit
import Derived.OwnWalkIn
import Derived.TacticsInMore
import Derived.LoopNIn
import Derived.LoopIn
set_option linter.unusedSimpArgs false
set_option linter.unusedVariables false
namespace Go.Proofs.YteabfalklgffmaaDoor
open Go.RowKit Go.Shelf
attribute [local go_sem] Oper.semAt_some

/-- The part of a number: Mem, and then the runs. -/
def Buf.part (b : Buf) : Nat → Value × List Ent
  | 0 => (b.vm, b.mem)
  | k + 1 => (b.runs[k]?).getD (.slice none 0 0, [])
def idxP : Nat → Int
  | 0 => -1
  | k + 1 => (k : Int)
def encP (b : Buf) (k : Nat) : Array Value := #[.int .i64 (idxP k), (b.part k).1]
theorem Buf.ok.part {w : World} {b : Buf} (h : b.ok w) (k : Nat) : Ents w (b.part k).1 (b.part k).2 := by
  cases k with
  | zero => exact h.mem
  | succ k =>
    show Ents w ((b.runs[k]?).getD (.slice none 0 0, [])).1 ((b.runs[k]?).getD (.slice none 0 0, [])).2
    cases hx : b.runs[k]? with
    | none => exact Ents.nil w
    | some p => exact h.runs p (List.mem_of_getElem? hx)

set_option maxHeartbeats 1000000 in
theorem parts_any (b : Buf) (w : World) : Calls Tryd.prog 19 #[.agg #[.int .i64 b.limit, b.vm, b.vr]] w fun e w' => e = .returned (.func (.func 42) #[] #[.pointer (some ⟨w.heap.size, 0, none⟩)]) ∧ w' = w.alloc (.cells #[.int .i64 b.limit, b.vm, b.vr] 25) := by
  go_enter Tryd.func19, Tryd.ntmps19
  go_wp2
  go_ret
  exact ⟨rfl, rfl⟩

/-- What a round keeps: what lay below m, and the block B. -/
def KpB (m B : Nat) (W W' : World) : Prop := Below m W W' ∧ W'.heap[B]? = W.heap[B]?
theorem KpB.trans {m B : Nat} {X Y Z : World} (h : KpB m B X Y) (k : KpB m B Y Z) : KpB m B X Z := ⟨h.1.trans k.1, k.2.trans h.2⟩
theorem KpB.refl (m B : Nat) (W : World) : KpB m B W W := ⟨Below.refl _ _, rfl⟩
theorem KpB.of_below {m B : Nat} {W W' : World} (hm : m ≤ W.heap.size) (hB : B < W.heap.size) (h : Below W.heap.size W W') : KpB m B W W' := ⟨h.mono hm, h.block B hB⟩
theorem KpB.set {m B : Nat} {X W : World} (h : KpB m B X W) {p : Addr} (hp : m ≤ p.block) (hne : B ≠ p.block) (u : Value) : KpB m B X (W.setCell p u) := ⟨h.1.setCell hp u, (Below.heap_setCell W p u B hne).trans h.2⟩
theorem KpB.put {m B : Nat} {w : World} (hm : m ≤ w.heap.size) (hB : B < w.heap.size) : ∀ (W : World) (l : Nat) (o o' : Obj), w.heap.size ≤ l → W.heap[l]? = some o → o.isCells = false → o.isWalk = false → KpB m B W (W.putObj l o') := fun W l o o' hl ho hc hw =>
  ⟨belowK_b hm W l o o' hl ho hc hw, (belowK_b (w := w) (n₀ := w.heap.size) (Nat.le_refl _) W l o o' hl ho hc hw).block B hB⟩

set_option maxRecDepth 100000 in
set_option maxHeartbeats 2000000 in
theorem parts1_in (F : Fence) (n : Nat) (hf : F.fn 42) (hro : F.round = none) (hn : 1 ≤ n) (l Bs : Nat) (b : Buf) (w0 : World) (J Jx : List Nat → World → Prop)
    (hY : ∀ pre k W, J pre W → pre.length < b.runs.length + 1 → YieldAt F (n - 1) Tryd.prog l (encP b k) W fun e W' =>
      (e = .returned (.bool true) ∧ J (pre ++ [k]) W' ∧ KpB w0.heap.size Bs W W') ∨ (e = .returned (.bool false) ∧ Jx (pre ++ [k]) W'))
    (W : World) (hB : Blk W Bs 25 #[.int .i64 b.limit, b.vm, b.vr]) (hbw : Below w0.heap.size w0 W) (hb : b.ok w0) (h0 : J [] W) :
    CallsIn F n Tryd.prog 42 #[.func (.yield l) #[] #[], .pointer (some ⟨Bs, 0, none⟩)] W fun e W' => (∃ v, e = .returned v) ∧
      ((∃ ys, ys = List.range (b.runs.length + 1) ∧ J ys W') ∨ (∃ pre, (∃ k, k ≤ b.runs.length + 1 ∧ pre = List.range k) ∧ Jx pre W')) := by
  have HB := Lib.hid hB
  have HO := Lib.hid hb
  obtain ⟨A, c, hvr, hr1, hr2, -⟩ := id hb.sl
  unfold maxLen at hr2
  have y1 := hB.cell 1 _ rfl
  have y2 := hB.cell 2 _ rfl
  have HVR := Lib.hid hvr
  clear hvr
  obtain ⟨fn, tmps, assign, body, hy, hR⟩ := hY [] 0 W h0 (by simp)
  dsimp only [encP, idxP, Buf.part] at hy
  refine callsIn_of_wp Tryd.func42 rfl hf ?_ hro
  simp only [Tryd.ntmps42, List.size_toArray, List.length_cons, List.length_nil, Nat.reduceAdd, Nat.reduceSub, Array.replicate_succ, Array.replicate_zero, List.push_toArray, List.append_toArray, List.nil_append, List.cons_append]
  gi_wp2
  refine hR.mono ?_
  rintro e W1 (⟨rfl, hJ1, hk1⟩ | ⟨rfl, hJx1⟩)
  · have K1 : Blk W1 Bs 25 #[.int .i64 b.limit, b.vm, b.vr] := hk1.2.trans HB.out
    have z2 := K1.cell 2 _ rfl
    rw [HVR.out] at z2
    have hbw1 : Below w0.heap.size w0 W1 := hbw.trans hk1.1
    clear y1 y2 hy
    gi_wp2
    gi_loopw [3, 4, 13] (fun _ _ i wr => ∃ k : Nat, k ≤ b.runs.length ∧ i = .int .i64 k ∧ J (List.range (k + 1)) wr ∧ KpB w0.heap.size Bs W wr) (fun _ _ i _ => b.runs.length - (intOf i).toNat)
    case atStart => exact ⟨0, by omega, rfl, hJ1, hk1⟩
    case round =>
      obtain ⟨k, hk, rfl, hJs, hnx⟩ := hrel
      by_cases hlt : k < b.runs.length
      · have hx := List.getElem?_eq_getElem (l := b.runs) hlt
        generalize b.runs[k] = p at hx
        obtain ⟨g, off, rfl, -, hc⟩ := one_at HO.out.sl HVR.out (k := k) (u := p.1) (by rw [List.getElem?_map, hx]; rfl)
        have d1 := hc wr (hbw.trans hnx.1)
        obtain ⟨fn2, tmps2, assign2, body2, hy2, hR2⟩ := hY (List.range (k + 1)) (k + 1) wr hJs (by simp; omega)
        simp only [encP, idxP, Buf.part, hx, Option.getD_some] at hy2
        clear hx hc
        have k0 : (0 : Int) ≤ (k : Int) := by omega
        have k1 : (k : Int) < (b.runs.length : Int) := by omega
        gi_wp2
        refine hR2.mono ?_
        rintro e W3 (⟨rfl, hJ3, hk3⟩ | ⟨rfl, hJx3⟩)
        · gi_wp2
          go_roundw
          case rel => exact ⟨k + 1, by omega, by simp, by rw [List.range_succ]; exact hJ3, hnx.trans hk3⟩
          case measure => simp [intOf]; omega
        · gi_wp2
          refine bodyPost_ret (results_none rfl _ _ _) rfl ?_
          exact ⟨⟨_, rfl⟩, .inr ⟨_, ⟨k + 2, by omega, (List.range_succ).symm⟩, hJx3⟩⟩
      · obtain rfl : k = b.runs.length := by omega
        gi_wp2
        go_end0
        exact ⟨⟨_, rfl⟩, .inl ⟨_, rfl, hJs⟩⟩
  · gi_wp2
    refine bodyPost_ret (results_none rfl _ _ _) rfl ?_
    exact ⟨⟨_, rfl⟩, .inr ⟨_, ⟨1, by omega, rfl⟩, hJx1⟩⟩

theorem parts_stops (F : Fence) (n : Nat) (hf : F.fn 42) (hro : F.round = none) (hn : 1 ≤ n) (Bs : Nat) (b : Buf) (w : World) (hB : Blk w Bs 25 #[.int .i64 b.limit, b.vm, b.vr])
    (w0 : World) (hbw : Below w0.heap.size w0 w) (hb : b.ok w0) :
    SeqStopsK F n Tryd.prog 42 #[.pointer (some ⟨Bs, 0, none⟩)] (encP b) (KpB w0.heap.size Bs) (fun ys => ys = List.range (b.runs.length + 1)) (fun pre => ∃ k, k ≤ b.runs.length + 1 ∧ pre = List.range k) (b.runs.length + 1) w :=
  fun l J Jx W hW _ _ hY h0 => (parts1_in F n hf hro hn l Bs b w0 J Jx hY W ((hW.block Bs hB.lt).trans hB) (hbw.trans (hW.mono hbw.size)) hb h0).mono fun _ _ h => h

end Go.Proofs.YteabfalklgffmaaDoor
