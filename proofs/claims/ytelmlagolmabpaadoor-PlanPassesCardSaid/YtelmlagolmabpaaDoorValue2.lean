/-
  Compare, Rows, and the reference's CompareValue, CompareRows, Same.
-/
import Derived.Test.YtelmlagolmabpaaDoorValue1
import Derived.Test.YtelmlagolmabpaaDoorShelf
namespace Go.Proofs.YtelmlagolmabpaaDoor
open Go.RowKit

def firstNZ (l : List Int) : Int := (l.find? (fun n => n != 0)).getD 0
theorem firstNZ_hit {l : List Int} {k : Nat} {n : Int} (h : ∀ x ∈ l.take k, x = 0) (hk : l[k]? = some n) (hn : n ≠ 0) : firstNZ l = n := by
  obtain ⟨hlt, he⟩ := List.getElem?_eq_some_iff.1 hk
  have e : l = l.take k ++ n :: l.drop (k + 1) := by rw [← he]; simp
  have e2 : l.find? (fun n => n != 0) = (l.take k ++ n :: l.drop (k + 1)).find? (fun n => n != 0) := congrArg (fun l => List.find? (fun n => n != 0) l) e
  have h0 : (l.take k).find? (fun n => n != 0) = none := by
    rw [List.find?_eq_none]
    intro x hx
    simp [h x hx]
  unfold firstNZ
  rw [e2, List.find?_append, h0]
  simp [hn]
theorem firstNZ_none {l : List Int} (h : ∀ x ∈ l, x = 0) : firstNZ l = 0 := by
  unfold firstNZ
  rw [List.find?_eq_none.2 (by intro x hx; simp [h x hx])]
  rfl

def cmpB (a b : ByteArray) : Int := if Op.bytesLess a.toList b.toList then -1 else if a.toList == b.toList then 0 else 1
theorem cmpB_eq (a b : List UInt8) : Lib.compareBytes a b = if Op.bytesLess a b then -1 else if a == b then 0 else 1 := by
  induction a generalizing b with
  | nil => cases b <;> simp [Lib.compareBytes, Op.bytesLess]
  | cons x a ih =>
    cases b with
    | nil => simp [Lib.compareBytes, Op.bytesLess]
    | cons y b =>
      simp only [Lib.compareBytes, Op.bytesLess, ih b]
      by_cases h1 : x < y
      · simp [h1]
      · by_cases h2 : y < x
        · have h3 : x ≠ y := by rintro rfl; exact absurd h2 h1
          simp [h1, h2, h3]
        · have h3 : x = y := by
            apply UInt8.toNat_inj.1
            have a1 : ¬ x.toNat < y.toNat := h1
            have a2 : ¬ y.toNat < x.toNat := h2
            omega
          subst h3
          simp
theorem compare_eq (a b : ByteArray) : Lib.compareBytes a.data.toList b.data.toList = cmpB a b := by
  rw [cmpB_eq, cmpB, ByteArray.toList_eq, ByteArray.toList_eq]

def cmpV (a b : Val) : Int := firstNZ [ordI a.k b.k, ordI a.n b.n, cmpB a.s b.s]

set_option maxHeartbeats 2000000 in
set_option maxRecDepth 10000 in
theorem rcompare_val (a b : Val) (w : World) :
    Calls Tryd.prog 101 #[.agg #[.int .i64 a.k, .int .i64 a.n, .string a.s], .agg #[.int .i64 b.k, .int .i64 b.n, .string b.s]] w fun e w' => e = .returned (.int .i64 (cmpV a b)) ∧ Below w.heap.size w w' := by
  have hB := below_trans (below_alloc w (.cells #[.int .i64 a.k, .int .i64 a.n, .string a.s] 79)) (below_alloc _ (.cells #[.int .i64 b.k, .int .i64 b.n, .string b.s] 79))
  by_cases h1 : ordI a.k b.k = 0
  · by_cases h2 : ordI a.n b.n = 0
    · have e1 := Lib.hid (show cmpV a b = cmpB a.s b.s from by
        unfold cmpV firstNZ
        rw [h1, h2]
        by_cases h3 : cmpB a.s b.s = 0
        · rw [h3]; rfl
        · simp [h3])
      cases h4 : Op.bytesLess a.s.toList b.s.toList
      · cases h5 : a.s.toList == b.s.toList
        · have e2 := Lib.hid (show cmpB a.s b.s = 1 from by unfold cmpB; rw [h4, h5]; rfl)
          go_enter Tryd.func101, Tryd.ntmps101
          go_wp2_with (go_at_call 102; refine (order_any _ _ _).mono ?_; rintro e w' ⟨rfl, rfl⟩)
          go_ret
          exact ⟨by rw [e1.out, e2.out]; rfl, hB⟩
        · have e2 := Lib.hid (show cmpB a.s b.s = 0 from by unfold cmpB; rw [h4, h5]; rfl)
          go_enter Tryd.func101, Tryd.ntmps101
          go_wp2_with (go_at_call 102; refine (order_any _ _ _).mono ?_; rintro e w' ⟨rfl, rfl⟩)
          go_ret
          exact ⟨by rw [e1.out, e2.out]; rfl, hB⟩
      · have e2 := Lib.hid (show cmpB a.s b.s = -1 from by unfold cmpB; rw [h4]; rfl)
        go_enter Tryd.func101, Tryd.ntmps101
        go_wp2_with (go_at_call 102; refine (order_any _ _ _).mono ?_; rintro e w' ⟨rfl, rfl⟩)
        go_ret
        exact ⟨by rw [e1.out, e2.out]; rfl, hB⟩
    · have e1 := Lib.hid (show cmpV a b = ordI a.n b.n from by unfold cmpV firstNZ; rw [h1]; simp [h2])
      have h2' := beqF h2
      clear h2
      go_enter Tryd.func101, Tryd.ntmps101
      go_wp2_with (go_at_call 102; refine (order_any _ _ _).mono ?_; rintro e w' ⟨rfl, rfl⟩)
      go_ret
      exact ⟨by rw [e1.out]; rfl, hB⟩
  · have e1 := Lib.hid (show cmpV a b = ordI a.k b.k from by unfold cmpV firstNZ; simp [h1])
    have h1' := beqF h1
    clear h1
    go_enter Tryd.func101, Tryd.ntmps101
    go_wp2_with (go_at_call 102; refine (order_any _ _ _).mono ?_; rintro e w' ⟨rfl, rfl⟩)
    go_ret
    exact ⟨by rw [e1.out]; rfl, hB⟩

end Go.Proofs.YtelmlagolmabpaaDoor
