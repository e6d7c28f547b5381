/-
  The walk of the reference's Back.
-/
import Derived.Test.YteabfalklgffmaaDoorValue14
namespace Go.Proofs.YteabfalklgffmaaDoor
open Go.RowKit

/-- What both Backs answer: the row, and whether there is one. -/
def rowOf (l : List UInt8) : List Val := (decG 8 l).getD []
theorem rowOf_no {l : List UInt8} (h : decG 8 l = none) : rowOf l = [] ∧ (decG 8 l).isSome = false := by unfold rowOf; rw [h]; exact ⟨rfl, rfl⟩
theorem rowOf_yes {l : List UInt8} {r : List Val} (h : decG 8 l = some r) : rowOf l = r ∧ (decG 8 l).isSome = true := by unfold rowOf; rw [h]; exact ⟨rfl, rfl⟩

set_option maxHeartbeats 4000000 in
set_option maxRecDepth 10000 in
theorem rback_any (s : ByteArray) (w : World) (hs : s.size ≤ 140737488355328) :
    Calls Tryd.prog 51 #[.string s] w fun e w' => ∃ v, e = .returned (.tuple #[v, .bool (decG 8 s.toList).isSome]) ∧ Sl w' v (rowOf s.toList).length (rowCells (rowOf s.toList)) ∧ Below w.heap.size w w' := by
  go_enter Tryd.func51, Tryd.ntmps51
  go_wp2
  go_loopw [4, 5] (fun b y wr => ∃ (x : ByteArray) (r : List Val) (v : Value), v = b ∧ y = .string x ∧ x.size ≤ s.size ∧ r.length ≤ 9 ∧ Hid (LoopRel s.toList x.toList r) ∧ wr.ownsRow w.heap.size 82 3 v r.length (rowCells r) ∧ Below w.heap.size w wr)
    (fun _ y _ => match y with | .string x => x.size | _ => 0)
  case atStart => exact ⟨s, [], _, rfl, rfl, Nat.le_refl _, by simp, lr_start _, World.ownsRow_nil _ _ _ _, Below.refl _ _⟩
  case round =>
    obtain ⟨x, r, v, rfl, rfl, hx, hr, HR, hown, hbw⟩ := hrel
    obtain ⟨A, c, rfl, hrc, -⟩ := Sl.of_own hown
    by_cases hgo : 0 < x.size ∧ r.length < 9
    · obtain ⟨hpos, hr9⟩ := hgo
      have HNE := Lib.hid (show x.toList ≠ [] from by intro h0; have := toList_len x; rw [h0] at this; simp at this; omega)
      obtain ⟨-, -, f3⟩ := front_fine x.toList
      rw [toList_len] at f3
      have hd9 : decide ((r.length : Int) ≤ 8) = true := by simp; omega
      have HC := Lib.hid (fun h => lr_cell HR.out HNE.out hr9 h)
      have HB := Lib.hid (fun h => lr_bad HR.out HNE.out hr9 h)
      have hfa := front_any x wr (by omega)
      have HFA := Lib.hid hfa
      clear hfa
      generalize frontF x.toList = p at f3 HC HB HFA
      obtain ⟨y, n⟩ := p
      simp only at f3 HC HB HFA
      by_cases hn : n = 0
      · subst hn
        obtain ⟨e1, e2⟩ := rowOf_no (back_is_none (HB.out rfl))
        have E1 := Lib.hid e1
        have E2 := Lib.hid e2
        clear e1 e2 HC
        go_wp2_with fail
        refine HFA.out.mono ?_
        rintro e w1 ⟨rfl, hb1⟩
        clear HFA
        go_wp2
        go_ret2
        refine ⟨_, by rw [E2.out]; rfl, ?_, (hbw.trans (hb1.mono hbw.size)).alloc (Nat.le_trans hbw.size hb1.size) _⟩
        rw [E1.out]
        exact Sl.nil_ _
      · have hq : ((n : Int) == 0) = false := by simp; omega
        have R := Lib.hid (HC.out hn)
        clear HC HB hn
        go_wp2_with fail
        refine HFA.out.mono ?_
        rintro e w1 ⟨rfl, hb1⟩
        clear HFA
        have hbt := hbw.trans (hb1.mono hbw.size)
        have hown1 := own_below hown hb1
        go_wp2_with (at_builtin; refine wpList_app rfl (.tmp 24) (.tmp 26) 26 rfl w.heap.size 82 3 32 Tryd.underlying26 valI _ r.length _ rfl ((hown1.alloc _).alloc _) _ 1 [.int .i64 y.k, .int .i64 y.n, .string y.s] rfl (Sl.block (new_second w1 82 #[.int .i64 y.k, .int .i64 y.n, .string y.s] _) 1 1 (Nat.le_refl _) (by decide)) rfl ?_ ?_ ?_ ?_ ?_)
        · intro u hu; simp at hu; rcases hu with rfl | rfl | rfl <;> rfl
        · unfold maxLen; omega
        · omega
        · have := hbt.size; simp; omega
        · intro v2 w3 hown3 hg3 hat3
          have hbw3 := below_app (hbt.alloc hbt.size _) hg3 (own_ge hown)
          have hsz : (x.extract n x.size).size = x.size - n := by rw [ByteArray.size_extract]; omega
          have HX := Lib.hid (extract_drop x n)
          have hq0 : n ≠ 0 := by intro h; rw [h] at hq; simp at hq
          clear hg3 hat3 hown hown1 hq hd9
          go_wp2
          go_roundw
          case rel => exact ⟨_, r ++ [y], _, rfl, rfl, by rw [hsz]; omega, by simp; omega, by rw [HX.out]; exact R.out, by rw [rowCells_snoc, List.length_append]; exact hown3, hbw3⟩
          case measure => simp only [hsz]; omega
    · have HL : Hid (loopG 9 s.toList = some r) := by
        show _ = _
        by_cases h0 : x.size = 0
        · exact lr_done HR.out (List.length_eq_zero_iff.1 (by rw [toList_len]; exact h0))
        · exact lr_full HR.out (by omega)
      have hfine := loopG_fine 9 s.toList r HL.out
      have HF : Hid (Fine r) := Lib.hid ⟨fun x hx => by have := (hfine x hx).2; rw [toList_len] at this; omega, fun x hx => (hfine x hx).1⟩
      have hsl := Sl.of_own hown
      have HS := Lib.hid hsl
      clear hfine hsl
      have hbranch : (x.size = 0 ∧ ¬ 0 < x.size) ∨ (0 < x.size ∧ decide ((r.length : Int) ≤ 8) = false) := by
        by_cases h0 : x.size = 0
        · exact .inl ⟨h0, by omega⟩
        · exact .inr ⟨by omega, by simp; omega⟩
      clear hgo
      by_cases hk : keyErr r = 0
      · have HK := Lib.hid hk
        cases hq : (str (keyRow r)).toList == s.toList
        · obtain ⟨e1, e2⟩ := rowOf_no (back_is_not HL.out (.inr (fun h => by rw [str_toList, h] at hq; simp at hq)))
          have E1 := Lib.hid e1
          have E2 := Lib.hid e2
          clear e1 e2 hk
          rcases hbranch with ⟨h1, h2⟩ | ⟨h1, h2⟩
          all_goals
            go_wp2_with (first
              | (go_at_call 50; refine (keyError_any _ r _ HS.out HF.out.small).mono ?_; rw [HK.out]; rintro e w1 ⟨rfl, hb1⟩)
              | (go_at_call 63; refine (rkey_any _ r _ (HS.out.below hb1) HF.out HK.out).mono ?_; rintro e w2 ⟨rfl, hb2⟩))
            go_ret2
            refine ⟨_, by rw [E2.out]; rfl, ?_, (hbw.trans (hb1.mono hbw.size)).trans (hb2.mono (Nat.le_trans hbw.size hb1.size))⟩
            rw [E1.out]
            exact Sl.nil_ _
        · obtain ⟨e1, e2⟩ := rowOf_yes (back_is HL.out hk (by rw [str_toList] at hq; exact eq_of_beq hq))
          have E1 := Lib.hid e1
          have E2 := Lib.hid e2
          clear e1 e2 hk
          rcases hbranch with ⟨h1, h2⟩ | ⟨h1, h2⟩
          all_goals
            go_wp2_with (first
              | (go_at_call 50; refine (keyError_any _ r _ HS.out HF.out.small).mono ?_; rw [HK.out]; rintro e w1 ⟨rfl, hb1⟩)
              | (go_at_call 63; refine (rkey_any _ r _ (HS.out.below hb1) HF.out HK.out).mono ?_; rintro e w2 ⟨rfl, hb2⟩))
            go_ret2
            refine ⟨_, by rw [E2.out]; rfl, ?_, (hbw.trans (hb1.mono hbw.size)).trans (hb2.mono (Nat.le_trans hbw.size hb1.size))⟩
            rw [E1.out]
            exact (HS.out.below hb1).below hb2
      · obtain ⟨e1, e2⟩ := rowOf_no (back_is_not HL.out (.inl hk))
        have E1 := Lib.hid e1
        have E2 := Lib.hid e2
        have hk' := beqF hk
        have hk2 := bneT hk
        clear e1 e2 hk
        rcases hbranch with ⟨h1, h2⟩ | ⟨h1, h2⟩
        all_goals
          go_wp2_with (go_at_call 50; refine (keyError_any _ r _ HS.out HF.out.small).mono ?_; rintro e w1 ⟨rfl, hb1⟩)
          go_ret2
          refine ⟨_, by rw [E2.out]; rfl, ?_, hbw.trans (hb1.mono hbw.size)⟩
          rw [E1.out]
          exact Sl.nil_ _

end Go.Proofs.YteabfalklgffmaaDoor
