/-
  The reference's Same, KeyError; a number's eight bytes.
-/
import Derived.Test.YtelmlagolmabpaaDoorValue3
namespace Go.Proofs.YtelmlagolmabpaaDoor
open Go.RowKit

def veq (x y : Val) : Bool := x.k == y.k && (x.n == y.n && x.s.toList == y.s.toList)
def sameR (a b : List Val) : Bool := a.length == b.length && (List.zip a b).all (fun p => veq p.1 p.2)
theorem veq_iff (x y : Val) : veq x y = true ↔ x = y := by
  obtain ⟨k, n, s⟩ := x
  obtain ⟨k', n', s'⟩ := y
  simp only [veq, Bool.and_eq_true, beq_iff_eq, Val.mk.injEq]
  rw [ByteArray.toList_eq, ByteArray.toList_eq]
  obtain ⟨⟨x⟩⟩ := s
  obtain ⟨⟨y⟩⟩ := s'
  simp
theorem samer_len {a b : List Val} (h : a.length ≠ b.length) : sameR a b = false := by simp [sameR, h]
theorem samer_no {a b : List Val} {k : Nat} {s t : Val} (ha : a[k]? = some s) (hb : b[k]? = some t) (h : veq s t = false) : sameR a b = false := by
  unfold sameR
  rw [Bool.and_eq_false_iff]
  right
  rw [List.all_eq_false]
  refine ⟨(s, t), List.mem_of_getElem? (i := k) ?_, by simp [h]⟩
  simp [List.getElem?_zip_eq_some, ha, hb]
theorem samer_yes {a b : List Val} (hl : a.length = b.length) (h : ∀ (j : Nat) (s t : Val), a[j]? = some s → b[j]? = some t → veq s t = true) : sameR a b = true := by
  unfold sameR
  rw [hl]
  simp only [beq_self_eq_true, Bool.true_and, List.all_eq_true]
  intro p hp
  obtain ⟨j, hj⟩ := List.getElem?_of_mem hp
  obtain ⟨p1, p2⟩ := p
  rw [List.getElem?_zip_eq_some] at hj
  exact h j p1 p2 hj.1 hj.2
theorem sameR_iff (a b : List Val) : sameR a b = true ↔ a = b := by
  constructor
  · intro h
    have hl : a.length = b.length := by
      rcases Nat.decEq a.length b.length with h' | h'
      · rw [samer_len h'] at h; cases h
      · exact h'
    apply List.ext_getElem? 
    intro i
    rcases Nat.lt_or_ge i a.length with hi | hi
    · have h1 := List.getElem?_eq_getElem (l := a) hi
      have h2 := List.getElem?_eq_getElem (l := b) (show i < b.length by omega)
      rw [h1, h2]
      cases hv : veq a[i] b[i]
      · rw [samer_no h1 h2 hv] at h; cases h
      · rw [(veq_iff _ _).1 hv]
    · rw [List.getElem?_eq_none hi, List.getElem?_eq_none (by omega)]
  · rintro rfl
    refine samer_yes rfl fun j s t h1 h2 => ?_
    rw [h1] at h2
    injection h2 with h2
    exact (veq_iff _ _).2 h2

set_option maxHeartbeats 1000000 in
set_option maxRecDepth 10000 in
theorem same_any (va vb : Value) (a b : List Val) (w : World) (ha : Sl w va a.length (rowCells a)) (hb : Sl w vb b.length (rowCells b)) :
    Calls Tryd.prog 79 #[va, vb] w fun e w' => e = .returned (.bool (sameR a b)) ∧ Below w.heap.size w w' := by
  have Ha := Lib.hid ha
  have Hb := Lib.hid hb
  obtain ⟨A, ca, rfl, ha1, ha2, -⟩ := ha
  obtain ⟨B, cb, rfl, hb1, hb2, -⟩ := hb
  unfold maxLen at ha2 hb2
  by_cases hl : a.length = b.length
  · have HL := Lib.hid hl
    have hl' : ((a.length : Int) == (b.length : Int)) = true := by simp [hl]
    have hle : a.length ≤ b.length := by omega
    clear hl
    go_enter Tryd.func79, Tryd.ntmps79
    go_wp2
    clear hl'
    go_loopw [5] (fun i wr => ∃ k : Nat, k ≤ a.length ∧ i = .int .i64 k ∧ Hid (∀ (j : Nat) (s t : Val), j < k → a[j]? = some s → b[j]? = some t → veq s t = true) ∧ Below w.heap.size w wr) (fun i _ => a.length - (intOf i).toNat)
    case atStart => exact ⟨0, by omega, rfl, fun j s t hj => absurd hj (by omega), Below.refl _ _⟩
    case round =>
      obtain ⟨k, hk, rfl, H, hbw⟩ := hrel
      by_cases hlt : k < a.length
      · have hx := List.getElem?_eq_getElem (l := a) hlt
        have hy := List.getElem?_eq_getElem (l := b) (show k < b.length by omega)
        generalize a[k] = x at hx
        generalize b[k] = y at hy
        obtain ⟨g, off, rfl, -, hc⟩ := val_at Ha.out rfl hx
        obtain ⟨g', off', rfl, -, hd⟩ := val_at Hb.out rfl hy
        obtain ⟨c1, c2, c3⟩ := hc _ hbw
        obtain ⟨d1, d2, d3⟩ := hd _ hbw
        have HX := Lib.hid hx
        have HY := Lib.hid hy
        have k0 : (0 : Int) ≤ (k : Int) := by omega
        have k1 : (k : Int) < (a.length : Int) := by omega
        have k2 : (k : Int) < (b.length : Int) := by omega
        have hneq : ∀ W, (binOp .neq 79 (.agg #[.int .i64 x.k, .int .i64 x.n, .string x.s]) (.agg #[.int .i64 y.k, .int .i64 y.n, .string y.s])).run Tryd.prog W = .ok (.bool (!veq x y)) W := fun W => run_neq_val ..
        clear hx hy hc hd
        cases hq : veq x y
        all_goals
          rw [hq] at hneq
          simp only [Bool.not_true, Bool.not_false] at hneq
          have HQ := Lib.hid hq
          clear hq
        · go_wp2_with fail
          go_quiet (fail)
          go_wp2
          go_ret
          exact ⟨ret_bool (samer_no HX.out HY.out HQ.out).symm, below_drewN hbw _⟩
        · go_wp2_with fail
          go_quiet (fail)
          go_wp2
          go_roundw
          case rel =>
            refine ⟨k + 1, by omega, by go_num, fun j s' t' hj h1 h2 => ?_, below_drewN hbw _⟩
            rcases Nat.lt_or_ge j k with hjk | hjk
            · exact H.out j s' t' hjk h1 h2
            · obtain rfl : j = k := by omega
              rw [HX.out] at h1
              rw [HY.out] at h2
              injection h1 with h1
              injection h2 with h2
              rw [← h1, ← h2]
              exact HQ.out
          case measure => simp [intOf]; omega
      · obtain rfl : k = a.length := by omega
        go_wp2
        go_ret
        refine ⟨ret_bool (samer_yes HL.out ?_).symm, hbw⟩
        intro j s t h1 h2
        exact H.out j s t (List.getElem?_eq_some_iff.1 h1).1 h1 h2
  · have hl' : ((a.length : Int) == (b.length : Int)) = false := by simp; omega
    have e1 := Lib.hid (samer_len hl)
    clear hl
    go_enter Tryd.func79, Tryd.ntmps79
    go_wp2
    go_ret
    exact ⟨ret_bool e1.out.symm, Below.refl _ _⟩

def keyErr (l : List Val) : Int := if 8 < l.length then 2 else firstNZ (l.map checkV)
/-- Every text is one of the model's. -/
def Small (l : List Val) : Prop := ∀ x ∈ l, x.s.size ≤ 9223372036854775807

set_option maxHeartbeats 1000000 in
set_option maxRecDepth 10000 in
theorem keyError_any (v : Value) (l : List Val) (w : World) (h : Sl w v l.length (rowCells l)) (hsm : Small l) :
    Calls Tryd.prog 64 #[v] w fun e w' => e = .returned (.int .i64 (keyErr l)) ∧ Below w.heap.size w w' := by
  have HH := Lib.hid h
  have HSM := Lib.hid hsm
  obtain ⟨A, c, rfl, h1, h2, -⟩ := h
  clear hsm
  unfold maxLen at h2
  by_cases hn : 8 < l.length
  · have e1 := Lib.hid (show keyErr l = 2 from if_pos hn)
    go_enter Tryd.func64, Tryd.ntmps64
    go_wp2
    go_ret
    exact ⟨by rw [e1.out]; rfl, Below.refl _ _⟩
  · have HN := Lib.hid (show keyErr l = firstNZ (l.map checkV) from if_neg hn)
    go_enter Tryd.func64, Tryd.ntmps64
    go_wp2
    go_loopw [3, 4] (fun i _ wr => ∃ k : Nat, k ≤ l.length ∧ i = .int .i64 k ∧ Hid (∀ x ∈ (l.map checkV).take k, x = 0) ∧ Below w.heap.size w wr) (fun i _ _ => l.length - (intOf i).toNat)
    case atStart => exact ⟨0, by omega, rfl, by simp [Hid], Below.refl _ _⟩
    case round =>
      obtain ⟨k, hk, rfl, H, hbw⟩ := hrel
      by_cases hlt : k < l.length
      · have hx := List.getElem?_eq_getElem (l := l) hlt
        generalize l[k] = x at hx
        obtain ⟨g, off, rfl, -, hc⟩ := val_at HH.out rfl hx
        obtain ⟨c1, c2, c3⟩ := hc _ hbw
        have hxs := HSM.out x (List.mem_of_getElem? hx)
        have HG := Lib.hid (show (l.map checkV)[k]? = some (checkV x) from by rw [List.getElem?_map, hx]; rfl)
        clear hx hc
        by_cases hq : checkV x = 0
        · have HQ := Lib.hid hq
          go_wp2_with (go_at_call 95; refine (rcheck_val x _ hxs).mono ?_; rintro e w1 ⟨rfl, hb1⟩)
          go_roundw
          case rel =>
            refine ⟨k + 1, by omega, by go_num, ?_, hbw.trans (hb1.mono hbw.size)⟩
            show ∀ y ∈ (l.map checkV).take (k + 1), y = 0
            rw [List.take_add_one, HG.out]
            intro y hy
            rcases List.mem_append.1 hy with hy | hy
            · exact H.out y hy
            · simp at hy; rw [hy]; exact HQ.out
          case measure => simp [intOf]; omega
        · have e1 := Lib.hid (firstNZ_hit H.out HG.out hq)
          have hq' := beqF hq
          clear hq
          go_wp2_with (go_at_call 95; refine (rcheck_val x _ hxs).mono ?_; rintro e w1 ⟨rfl, hb1⟩)
          go_ret
          exact ⟨by rw [HN.out, e1.out]; rfl, hbw.trans (hb1.mono hbw.size)⟩
      · obtain rfl : k = l.length := by omega
        have e1 := Lib.hid (firstNZ_none (l := l.map checkV) (by have := H.out; rwa [List.take_of_length_le (by simp)] at this))
        go_wp2
        go_ret
        exact ⟨by rw [HN.out, e1.out]; rfl, hbw⟩

end Go.Proofs.YtelmlagolmabpaaDoor
