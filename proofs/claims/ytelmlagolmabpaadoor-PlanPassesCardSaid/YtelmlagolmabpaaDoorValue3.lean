/-
  Rows, and the reference's CompareRows and Same.
-/
import Derived.Test.YtelmlagolmabpaaDoorValue2
namespace Go.Proofs.YtelmlagolmabpaaDoor
open Go.RowKit

theorem val_at {w : World} {l : List Val} {v : Value} (h : Sl w v l.length (rowCells l)) {A : Option Addr} {n c : Nat} (hv : v = .slice A n c) {k : Nat} {x : Val} (hk : l[k]? = some x) :
    ∃ b off, A = some ⟨b, off, none⟩ ∧ b < w.heap.size ∧ ∀ w', Below w.heap.size w w' →
      w'.cell? ⟨b, off + k * 3, none⟩ = some (.int .i64 x.k) ∧ w'.cell? ⟨b, off + k * 3 + 1, none⟩ = some (.int .i64 x.n) ∧ w'.cell? ⟨b, off + k * 3 + 2, none⟩ = some (.string x.s) := by
  obtain ⟨A', c', hv', h1, h2, -, h3⟩ := h
  rw [hv] at hv'
  injection hv' with e1 e2 e3
  subst e1
  have a1 := flat_at Val.cells_len l k 0 (by omega)
  have a2 := flat_at Val.cells_len l k 1 (by omega)
  have a3 := flat_at Val.cells_len l k 2 (by omega)
  rw [hk] at a1 a2 a3
  simp only [Option.bind_some, Nat.add_zero] at a1 a2 a3
  obtain ⟨b, off, hA, hc⟩ := h3 (by intro h0; rw [show l.flatMap Val.cells = rowCells l from rfl, h0] at a1; simp [Val.cells] at a1)
  have c1 := hc _ _ a1
  have c2 := hc _ _ a2
  have c3 := hc _ _ a3
  exact ⟨b, off, hA, World.block_lt_of_cell? w _ c1, fun w' hb => ⟨cell_below hb c1, cell_below hb c2, cell_below hb c3⟩⟩

def rowsF : List Val → List Val → Int
  | [], [] => 0
  | [], _ :: _ => -1
  | _ :: _, [] => 1
  | x :: r, y :: t => if cmpV x y ≠ 0 then cmpV x y else rowsF r t
theorem rowsF_step {a b : List Val} {k : Nat} {x y : Val} (ha : a[k]? = some x) (hb : b[k]? = some y) :
    rowsF (a.drop k) (b.drop k) = if cmpV x y ≠ 0 then cmpV x y else rowsF (a.drop (k + 1)) (b.drop (k + 1)) := by
  obtain ⟨h1, rfl⟩ := List.getElem?_eq_some_iff.1 ha
  obtain ⟨h2, rfl⟩ := List.getElem?_eq_some_iff.1 hb
  rw [List.drop_eq_getElem_cons h1, List.drop_eq_getElem_cons h2]
  rfl
theorem rowsF_end {a b : List Val} {k : Nat} (ha : k ≤ a.length) (hb : k ≤ b.length) (h : k = a.length ∨ k = b.length) : rowsF (a.drop k) (b.drop k) = ordI a.length b.length := by
  unfold ordI
  rcases h with rfl | rfl
  · rw [List.drop_length]
    by_cases h1 : a.length < b.length
    · rw [List.drop_eq_getElem_cons h1, if_pos (by omega)]; rfl
    · rw [List.drop_eq_nil_of_le (by omega), if_neg (by omega), if_neg (by omega)]; rfl
  · rw [List.drop_length]
    by_cases h1 : b.length < a.length
    · rw [List.drop_eq_getElem_cons h1, if_neg (by omega), if_pos (by omega)]; rfl
    · rw [List.drop_eq_nil_of_le (by omega), if_neg (by omega), if_neg (by omega)]; rfl

set_option maxHeartbeats 2000000 in
set_option maxRecDepth 10000 in
theorem rrows_any (va vb : Value) (a b : List Val) (w : World) (ha : Sl w va a.length (rowCells a)) (hb : Sl w vb b.length (rowCells b)) :
    Calls Tryd.prog 81 #[va, vb] w fun e w' => e = .returned (.int .i64 (rowsF a b)) ∧ Below w.heap.size w w' := by
  have Ha := Lib.hid ha
  have Hb := Lib.hid hb
  obtain ⟨A, ca, rfl, ha1, ha2, -⟩ := ha
  obtain ⟨B, cb, rfl, hb1, hb2, -⟩ := hb
  unfold maxLen at ha2 hb2
  go_enter Tryd.func81, Tryd.ntmps81
  go_wp2
  go_loopw [5, 6] (fun i _ wr => ∃ k : Nat, k ≤ a.length ∧ k ≤ b.length ∧ i = .int .i64 k ∧ Hid (rowsF a b = rowsF (a.drop k) (b.drop k)) ∧ Below w.heap.size w wr) (fun i _ _ => a.length - (intOf i).toNat)
  case atStart => exact ⟨0, by omega, by omega, rfl, rfl, Below.refl _ _⟩
  case round =>
    obtain ⟨k, hka, hkb, rfl, H, hbw⟩ := hrel
    by_cases hlt : k < a.length ∧ k < b.length
    · obtain ⟨hla, hlb⟩ := hlt
      have hx := List.getElem?_eq_getElem (l := a) hla
      have hy := List.getElem?_eq_getElem (l := b) hlb
      generalize a[k] = x at hx
      generalize b[k] = y at hy
      obtain ⟨g, off, rfl, -, hc⟩ := val_at Ha.out rfl hx
      obtain ⟨g', off', rfl, -, hd⟩ := val_at Hb.out rfl hy
      have z0 := And.intro (hc _ hbw) (hd _ hbw)
      obtain ⟨⟨c1, c2, c3⟩, d1, d2, d3⟩ := z0
      have hst := rowsF_step hx hy
      have HST := Lib.hid hst
      have HC := Lib.hid hc
      have HD := Lib.hid hd
      have k0 : (0 : Int) ≤ (k : Int) := by omega
      have k1 : (k : Int) < (a.length : Int) := by omega
      have k2 : (k : Int) < (b.length : Int) := by omega
      clear hst hx hy hc hd
      go_wp2_with fail
      go_region_held3 (fun w' => (w'.cell? ⟨g, off + k * 3, none⟩ = some (.int .i64 x.k) ∧ w'.cell? ⟨g, off + k * 3 + 1, none⟩ = some (.int .i64 x.n) ∧ w'.cell? ⟨g, off + k * 3 + 2, none⟩ = some (.string x.s)) ∧
          w'.cell? ⟨g', off' + k * 3, none⟩ = some (.int .i64 y.k) ∧ w'.cell? ⟨g', off' + k * 3 + 1, none⟩ = some (.int .i64 y.n) ∧ w'.cell? ⟨g', off' + k * 3 + 2, none⟩ = some (.string y.s))
        (first | go_keep | exact z1)
        ((go_at_call 101
          refine (rcompare_val x y _).mono ?_
          rintro e w1 ⟨rfl, hb1⟩
          have hb1' := hbw.drew.trans (hb1.mono (by exact hbw.size))
          have z1 := And.intro (HC.out _ hb1') (HD.out _ hb1')))
      by_cases hq : cmpV x y = 0
      · have e1 : Hid (rowsF a b = rowsF (a.drop (k + 1)) (b.drop (k + 1))) := by
          show _ = _
          rw [H.out, HST.out, if_neg (by simpa using hq)]
        go_wp2
        go_roundw
        case rel => exact ⟨k + 1, by omega, by omega, by go_num, e1, hb1'⟩
        case measure => simp [intOf]; omega
      · have e1 := Lib.hid (show rowsF a b = cmpV x y from by rw [H.out, HST.out, if_pos hq])
        have hq' := beqF hq
        clear hq
        go_wp2
        go_ret
        exact ⟨by rw [e1.out]; rfl, hb1'⟩
    · have hor : k = a.length ∨ k = b.length := by omega
      have e1 := Lib.hid (show rowsF a b = ordI a.length b.length from by rw [H.out, rowsF_end hka hkb hor])
      clear hlt
      by_cases hka' : k < a.length
      · have hkb' : ¬ (k : Int) < (b.length : Int) := by omega
        clear hor
        go_wp2_with (go_at_call 102; refine (order_any _ _ _).mono ?_; rintro e w' ⟨rfl, rfl⟩)
        go_ret
        exact ⟨by rw [e1.out]; rfl, hbw⟩
      · clear hor
        go_wp2_with (go_at_call 102; refine (order_any _ _ _).mono ?_; rintro e w' ⟨rfl, rfl⟩)
        go_ret
        exact ⟨by rw [e1.out]; rfl, hbw⟩

end Go.Proofs.YtelmlagolmabpaaDoor
