/-
  Contracts: disk.Crash, and the reference's CrashIn.
-/
import Derived.Test.YteamepgonmdilaaDisk8
namespace Go.Proofs.Yteamepgonmdilaa
open Go.RowKit

def crashS (n : Int) (s : Slot) : Slot := ⟨if s.has = false ∨ n < 0 then s.safe else if n < (s.wait.size : Int) then s.wait.extract 0 n.toNat else s.wait, ⟨#[]⟩, false⟩
def cutAt (cuts : List Int) (i : Nat) : Int := cuts.getD i 0
def crashF (cuts : List Int) (l : List Slot) : List Slot := l.mapIdx fun i s => crashS (cutAt cuts i) s
def intCells (l : List Int) : List Value := l.map (.int .i64)

theorem crashF_len (cuts : List Int) (l : List Slot) : (crashF cuts l).length = l.length := by simp [crashF]
theorem crashF_take (cuts : List Int) (l : List Slot) (s : Slot) (k : Nat) (hk : l[k]? = some s) : slotCells ((crashF cuts l).take (k + 1)) = slotCells ((crashF cuts l).take k) ++ (crashS (cutAt cuts k) s).cells := by
  rw [List.take_add_one]
  have : (crashF cuts l)[k]? = some (crashS (cutAt cuts k) s) := by simp [crashF, List.getElem?_mapIdx, hk]
  rw [this]
  simp [slotCells]

set_option maxHeartbeats 400000 in
theorem settle_new (s : Slot) (w : World) :
    Calls Try.prog 37 #[.pointer (some ⟨w.heap.size, 0, none⟩)] (w.alloc (.cells #[.string s.safe, .string s.wait, .bool true] 57)) fun e w' => e = .returned (.tuple #[]) ∧ w.alloc (.cells #[.string s.wait, .string ⟨#[]⟩, .bool false] 57) = w' := by
  go_enter Try.func37, Try.ntmps37
  go_wp2
  go_end0
  exact ⟨rfl, rfl⟩

theorem int_at {w : World} {l : List Int} {v : Value} (h : Sl w v l.length (intCells l)) {A : Option Addr} {n c : Nat} (hv : v = .slice A n c) {k : Nat} (hk : k < l.length) :
    ∃ b off, A = some ⟨b, off, none⟩ ∧ b < w.heap.size ∧ ∀ w', Below w.heap.size w w' → w'.cell? ⟨b, off + k, none⟩ = some (.int .i64 (l.getD k 0)) := by
  obtain ⟨A', c', hv', h1, h2, -, h3⟩ := h
  rw [hv] at hv'
  injection hv' with e1 e2 e3
  subst e1
  have a1 : (intCells l)[k]? = some (.int .i64 (l.getD k 0)) := by simp [intCells, hk]
  obtain ⟨b, off, hA, hc⟩ := h3 (by intro h0; rw [h0] at a1; simp at a1)
  have c1 := hc _ _ a1
  exact ⟨b, off, hA, World.block_lt_of_cell? w _ c1, fun w' hb => cell_below hb c1⟩

def crashR (cuts : List Int) (l : List Slot) : List Slot × Int := if checkD l ≠ 0 then ([], checkD l) else (crashF cuts l, 0)

set_option maxHeartbeats 4000000 in
theorem crash_any (v cv : Value) (l : List Slot) (cuts : List Int) (w : World) (h : Sl w v l.length (slotCells l)) (hcv : Sl w cv cuts.length (intCells cuts)) :
    Calls Try.prog 32 #[.agg #[v], cv] w (DiskRet w (crashR cuts l)) := by
  have HH := Lib.hid h
  have HCV := Lib.hid hcv
  have h' := Lib.hid (h.below ((below_alloc w (.cells #[v] 37)).alloc (by simp) (.cells #[.slice none 0 0] 37)))
  obtain ⟨A, c, rfl, h1, h2, -⟩ := h
  obtain ⟨Ac, cc, rfl, h3, h4, -⟩ := hcv
  unfold maxLen at h2 h4
  have hB0 := below_trans (below_alloc w (.cells #[.slice A l.length c] 37)) (below_alloc _ (.cells #[.slice none 0 0] 37))
  by_cases hc : checkD l = 0
  · have e1 := Lib.hid (show crashR cuts l = (crashF cuts l, 0) from if_neg (by simpa using hc))
    have hlen := checkD_len hc
    go_enter Try.func32, Try.ntmps32
    go_wp2_with fail
    refine (check_any _ l _ h'.out).mono ?_
    rintro e w1 ⟨rfl, hb⟩
    have b0 := (new_first w 37 #[.slice A l.length c] (.cells #[.slice none 0 0] 37)).below hb
    have b1 := (new_second w 37 #[.slice none 0 0] (.cells #[.slice A l.length c] 37)).below hb
    have x0 := (b0.alloc (.cells #[.slice none 0 0] 37)).cell 0 _ rfl
    have hs1 := b1.lt
    have hB1 := below_trans hB0 hb
    go_wp2_with fail
    clear x0
    go_loopw [8, 9, 10, 20, 34, 43] (fun _ _ _ i _ _ wr => ∃ (k : Nat) (v : Value), k ≤ l.length ∧ i = .int .i64 k ∧ Blk wr w1.heap.size 37 #[v] ∧ wr.ownsRow (w1.heap.size + 1) 57 3 v k (slotCells ((crashF cuts l).take k)) ∧
        Below w1.heap.size w1 wr)
      (fun _ _ _ i _ _ _ => l.length - (intOf i).toNat)
    case atStart => exact ⟨0, _, by omega, rfl, Blk.new _ _ _, by simpa [slotCells] using World.ownsRow_nil _ _ _ _, below_alloc _ _⟩
    case round =>
      obtain ⟨k, v, hk, rfl, hv, hown, hbw⟩ := hrel
      have hsz := hv.lt
      have hBw := below_trans hB1 hbw
      by_cases hlt : k < l.length
      · obtain ⟨A', cp, hvf, -⟩ := Sl.of_own hown
        subst hvf
        have x3 := hv.cell 0 _ rfl
        have f3 := hv.free 0
        have xa := (hv.alloc (.cells #[.string ⟨#[]⟩, .string ⟨#[]⟩, .bool false] 57)).cell 0 _ rfl
        obtain ⟨b, off, x, rfl, hx, hb, hc⟩ := slot_at HH.out rfl hlt
        obtain ⟨c1, c2, c3⟩ := hc _ hBw
        have HX := Lib.hid hx
        clear hx hc
        have htk := Lib.hid (crashF_take cuts l x k HX.out)
        have hn : (∃ n, cutAt cuts k = n ∧ ((k < cuts.length ∧ ∃ b off, Ac = some ⟨b, off, none⟩ ∧ ∀ w', Below w.heap.size w w' → w'.cell? ⟨b, off + k, none⟩ = some (.int .i64 n)) ∨ (cuts.length ≤ k ∧ n = 0))) := by
          rcases Nat.lt_or_ge k cuts.length with hkc | hkc
          · obtain ⟨b', off', hA, _, hc'⟩ := int_at HCV.out rfl hkc
            exact ⟨_, rfl, .inl ⟨hkc, b', off', hA, hc'⟩⟩
          · exact ⟨0, by simp [cutAt, hkc], .inr ⟨hkc, rfl⟩⟩
        obtain ⟨n, hcn, hn⟩ := hn
        rw [hcn] at htk
        clear hcn
        rcases hn with ⟨hkc, b', off', rfl, hc'⟩ | ⟨hkc, rfl⟩
        · have d1 := fun o => hc' _ (hBw.alloc hBw.size o)
          clear hc'
          cases hh : x.has
          · rw [hh] at c3
            have HT := Lib.hid (show slotCells ((crashF cuts l).take (k + 1)) = slotCells ((crashF cuts l).take k) ++ [.string x.safe, .string ⟨#[]⟩, .bool false] from by rw [htk.out]; simp [crashS, Slot.cells, hh])
            clear htk hh
            go_wp2_with (first
              | (go_at_call 37; refine (settle_new x _).mono ?_; rintro e w2 ⟨rfl, rfl⟩)
              | (at_builtin; refine wpList_app rfl _ _ 35 rfl (w1.heap.size + 1) 57 3 40 Try.underlying35 slotI _ k _ rfl ((hown.alloc _).alloc _) _ 1 [.string x.safe, .string ⟨#[]⟩, .bool false] rfl (Sl.block (new_second wr 57 #[.string x.safe, .string ⟨#[]⟩, .bool false] (.cells #[.string x.safe, .string ⟨#[]⟩, .bool false] 57)) 1 1 (Nat.le_refl _) (by decide)) rfl ?_ ?_ ?_ ?_ ?_))
            · first | exact ⟨rfl, rfl, rfl⟩ | (intro u hu; simp at hu; rcases hu with rfl | rfl | rfl <;> rfl)
            · unfold maxLen; omega
            · omega
            · first | omega | (simp; omega)
            · intro v1 w3 hown1 hgrow hat
              rw [← HT.out] at hown1
              obtain ⟨g, cap1, rfl, hg1, hg2⟩ := hown1.form (by omega)
              have y3 := ((hv.alloc _).alloc _).grown hgrow (fun e => by have := own_ge hown _ e; omega)
              have x3' := y3.cell 0 _ rfl
              have f3' := y3.free 0
              clear x3 f3
              go_wp2
              go_roundw
              case rel => exact ⟨k + 1, _, by omega, by go_num, y3.set_ 0 _, own_far hown1 (by simp; omega) _, (((hbw.alloc hbw.size _).alloc (by simp; omega) _).grown hgrow (by simp; omega) (fun q e => by have := own_ge hown _ e; omega)).setCell (by simp) _⟩
              case measure => simp [intOf]; omega
          · rw [hh] at c3
            by_cases hneg : n < 0
            · have HT := Lib.hid (show slotCells ((crashF cuts l).take (k + 1)) = slotCells ((crashF cuts l).take k) ++ [.string x.safe, .string ⟨#[]⟩, .bool false] from by rw [htk.out]; simp [crashS, Slot.cells, hneg])
              clear htk hh
              go_wp2_with (first
                | (go_at_call 37; refine (settle_new x _).mono ?_; rintro e w2 ⟨rfl, rfl⟩)
                | (at_builtin; refine wpList_app rfl _ _ 35 rfl (w1.heap.size + 1) 57 3 40 Try.underlying35 slotI _ k _ rfl ((hown.alloc _).alloc _) _ 1 [.string x.safe, .string ⟨#[]⟩, .bool false] rfl (Sl.block (new_second wr 57 #[.string x.safe, .string ⟨#[]⟩, .bool false] (.cells #[.string x.safe, .string ⟨#[]⟩, .bool false] 57)) 1 1 (Nat.le_refl _) (by decide)) rfl ?_ ?_ ?_ ?_ ?_))
              · first | exact ⟨rfl, rfl, rfl⟩ | (intro u hu; simp at hu; rcases hu with rfl | rfl | rfl <;> rfl)
              · unfold maxLen; omega
              · omega
              · first | omega | (simp; omega)
              · intro v1 w3 hown1 hgrow hat
                rw [← HT.out] at hown1
                obtain ⟨g, cap1, rfl, hg1, hg2⟩ := hown1.form (by omega)
                have y3 := ((hv.alloc _).alloc _).grown hgrow (fun e => by have := own_ge hown _ e; omega)
                have x3' := y3.cell 0 _ rfl
                have f3' := y3.free 0
                clear x3 f3
                go_wp2
                go_roundw
                case rel => exact ⟨k + 1, _, by omega, by go_num, y3.set_ 0 _, own_far hown1 (by simp; omega) _, (((hbw.alloc hbw.size _).alloc (by simp; omega) _).grown hgrow (by simp; omega) (fun q e => by have := own_ge hown _ e; omega)).setCell (by simp) _⟩
                case measure => simp [intOf]; omega
            · obtain ⟨m, rfl⟩ := Int.eq_ofNat_of_zero_le (show 0 ≤ n by omega)
              by_cases hlw : m < x.wait.size
              · have HT := Lib.hid (show slotCells ((crashF cuts l).take (k + 1)) = slotCells ((crashF cuts l).take k) ++ [.string (x.wait.extract 0 m), .string ⟨#[]⟩, .bool false] from by rw [htk.out]; simp [crashS, Slot.cells, hh, hlw, show ¬ ((m : Int) < 0) from by omega])
                have hlw' : (m : Int) < (x.wait.size : Int) := by omega
                clear htk hh
                go_wp2_with (first
                  | (go_at_call 37; refine (settle_new x _).mono ?_; rintro e w2 ⟨rfl, rfl⟩)
                  | (at_builtin; refine wpList_app rfl _ _ 35 rfl (w1.heap.size + 1) 57 3 40 Try.underlying35 slotI _ k _ rfl ((hown.alloc _).alloc _) _ 1 [.string (x.wait.extract 0 m), .string ⟨#[]⟩, .bool false] rfl (Sl.block (new_second wr 57 #[.string (x.wait.extract 0 m), .string ⟨#[]⟩, .bool false] (.cells #[.string (x.wait.extract 0 m), .string ⟨#[]⟩, .bool false] 57)) 1 1 (Nat.le_refl _) (by decide)) rfl ?_ ?_ ?_ ?_ ?_))
                · first | exact ⟨rfl, rfl, rfl⟩ | (intro u hu; simp at hu; rcases hu with rfl | rfl | rfl <;> rfl)
                · unfold maxLen; omega
                · omega
                · first | omega | (simp; omega)
                · intro v1 w3 hown1 hgrow hat
                  rw [← HT.out] at hown1
                  obtain ⟨g, cap1, rfl, hg1, hg2⟩ := hown1.form (by omega)
                  have y3 := ((hv.alloc _).alloc _).grown hgrow (fun e => by have := own_ge hown _ e; omega)
                  have x3' := y3.cell 0 _ rfl
                  have f3' := y3.free 0
                  clear x3 f3
                  go_wp2
                  go_roundw
                  case rel => exact ⟨k + 1, _, by omega, by go_num, y3.set_ 0 _, own_far hown1 (by simp; omega) _, (((hbw.alloc hbw.size _).alloc (by simp; omega) _).grown hgrow (by simp; omega) (fun q e => by have := own_ge hown _ e; omega)).setCell (by simp) _⟩
                  case measure => simp [intOf]; omega
              · have HT := Lib.hid (show slotCells ((crashF cuts l).take (k + 1)) = slotCells ((crashF cuts l).take k) ++ [.string x.wait, .string ⟨#[]⟩, .bool false] from by rw [htk.out]; simp [crashS, Slot.cells, hh, hlw, show ¬ ((m : Int) < 0) from by omega])
                have hlw' : ¬ (m : Int) < (x.wait.size : Int) := by omega
                clear htk hh
                go_wp2_with (first
                  | (go_at_call 37; refine (settle_new x _).mono ?_; rintro e w2 ⟨rfl, rfl⟩)
                  | (at_builtin; refine wpList_app rfl _ _ 35 rfl (w1.heap.size + 1) 57 3 40 Try.underlying35 slotI _ k _ rfl ((hown.alloc _).alloc _) _ 1 [.string x.wait, .string ⟨#[]⟩, .bool false] rfl (Sl.block (new_second wr 57 #[.string x.wait, .string ⟨#[]⟩, .bool false] (.cells #[.string x.wait, .string ⟨#[]⟩, .bool false] 57)) 1 1 (Nat.le_refl _) (by decide)) rfl ?_ ?_ ?_ ?_ ?_))
                · first | exact ⟨rfl, rfl, rfl⟩ | (intro u hu; simp at hu; rcases hu with rfl | rfl | rfl <;> rfl)
                · unfold maxLen; omega
                · omega
                · first | omega | (simp; omega)
                · intro v1 w3 hown1 hgrow hat
                  rw [← HT.out] at hown1
                  obtain ⟨g, cap1, rfl, hg1, hg2⟩ := hown1.form (by omega)
                  have y3 := ((hv.alloc _).alloc _).grown hgrow (fun e => by have := own_ge hown _ e; omega)
                  have x3' := y3.cell 0 _ rfl
                  have f3' := y3.free 0
                  clear x3 f3
                  go_wp2
                  go_roundw
                  case rel => exact ⟨k + 1, _, by omega, by go_num, y3.set_ 0 _, own_far hown1 (by simp; omega) _, (((hbw.alloc hbw.size _).alloc (by simp; omega) _).grown hgrow (by simp; omega) (fun q e => by have := own_ge hown _ e; omega)).setCell (by simp) _⟩
                  case measure => simp [intOf]; omega
        · have hkc' : ¬ (k : Int) < (cuts.length : Int) := by omega
          cases hh : x.has
          · rw [hh] at c3
            have HT := Lib.hid (show slotCells ((crashF cuts l).take (k + 1)) = slotCells ((crashF cuts l).take k) ++ [.string x.safe, .string ⟨#[]⟩, .bool false] from by rw [htk.out]; simp [crashS, Slot.cells, hh])
            clear htk hh
            go_wp2_with (first
              | (go_at_call 37; refine (settle_new x _).mono ?_; rintro e w2 ⟨rfl, rfl⟩)
              | (at_builtin; refine wpList_app rfl _ _ 35 rfl (w1.heap.size + 1) 57 3 40 Try.underlying35 slotI _ k _ rfl ((hown.alloc _).alloc _) _ 1 [.string x.safe, .string ⟨#[]⟩, .bool false] rfl (Sl.block (new_second wr 57 #[.string x.safe, .string ⟨#[]⟩, .bool false] (.cells #[.string x.safe, .string ⟨#[]⟩, .bool false] 57)) 1 1 (Nat.le_refl _) (by decide)) rfl ?_ ?_ ?_ ?_ ?_))
            · first | exact ⟨rfl, rfl, rfl⟩ | (intro u hu; simp at hu; rcases hu with rfl | rfl | rfl <;> rfl)
            · unfold maxLen; omega
            · omega
            · first | omega | (simp; omega)
            · intro v1 w3 hown1 hgrow hat
              rw [← HT.out] at hown1
              obtain ⟨g, cap1, rfl, hg1, hg2⟩ := hown1.form (by omega)
              have y3 := ((hv.alloc _).alloc _).grown hgrow (fun e => by have := own_ge hown _ e; omega)
              have x3' := y3.cell 0 _ rfl
              have f3' := y3.free 0
              clear x3 f3
              go_wp2
              go_roundw
              case rel => exact ⟨k + 1, _, by omega, by go_num, y3.set_ 0 _, own_far hown1 (by simp; omega) _, (((hbw.alloc hbw.size _).alloc (by simp; omega) _).grown hgrow (by simp; omega) (fun q e => by have := own_ge hown _ e; omega)).setCell (by simp) _⟩
              case measure => simp [intOf]; omega
          · rw [hh] at c3
            obtain ⟨m, hm⟩ : ∃ m : Nat, m = 0 := ⟨_, rfl⟩
            by_cases hlw : 0 < x.wait.size
            · have HT := Lib.hid (show slotCells ((crashF cuts l).take (k + 1)) = slotCells ((crashF cuts l).take k) ++ [.string ByteArray.empty, .string ⟨#[]⟩, .bool false] from by rw [htk.out]; simp [crashS, Slot.cells, hh, hlw])
              have hlw' : (0 : Int) < (x.wait.size : Int) := by omega
              clear htk hh
              go_wp2_with (first
                | (go_at_call 37; refine (settle_new x _).mono ?_; rintro e w2 ⟨rfl, rfl⟩)
                | (at_builtin; refine wpList_app rfl _ _ 35 rfl (w1.heap.size + 1) 57 3 40 Try.underlying35 slotI _ k _ rfl ((hown.alloc _).alloc _) _ 1 [.string ByteArray.empty, .string ⟨#[]⟩, .bool false] rfl (Sl.block (new_second wr 57 #[.string ByteArray.empty, .string ⟨#[]⟩, .bool false] (.cells #[.string ByteArray.empty, .string ⟨#[]⟩, .bool false] 57)) 1 1 (Nat.le_refl _) (by decide)) rfl ?_ ?_ ?_ ?_ ?_))
              · first | exact ⟨rfl, rfl, rfl⟩ | (intro u hu; simp at hu; rcases hu with rfl | rfl | rfl <;> rfl)
              · unfold maxLen; omega
              · omega
              · first | omega | (simp; omega)
              · intro v1 w3 hown1 hgrow hat
                rw [← HT.out] at hown1
                obtain ⟨g, cap1, rfl, hg1, hg2⟩ := hown1.form (by omega)
                have y3 := ((hv.alloc _).alloc _).grown hgrow (fun e => by have := own_ge hown _ e; omega)
                have x3' := y3.cell 0 _ rfl
                have f3' := y3.free 0
                clear x3 f3
                go_wp2
                go_roundw
                case rel => exact ⟨k + 1, _, by omega, by go_num, y3.set_ 0 _, own_far hown1 (by simp; omega) _, (((hbw.alloc hbw.size _).alloc (by simp; omega) _).grown hgrow (by simp; omega) (fun q e => by have := own_ge hown _ e; omega)).setCell (by simp) _⟩
                case measure => simp [intOf]; omega
            · have HT := Lib.hid (show slotCells ((crashF cuts l).take (k + 1)) = slotCells ((crashF cuts l).take k) ++ [.string x.wait, .string ⟨#[]⟩, .bool false] from by rw [htk.out]; simp [crashS, Slot.cells, hh, hlw])
              have hlw' : ¬ (0 : Int) < (x.wait.size : Int) := by omega
              clear htk hh
              go_wp2_with (first
                | (go_at_call 37; refine (settle_new x _).mono ?_; rintro e w2 ⟨rfl, rfl⟩)
                | (at_builtin; refine wpList_app rfl _ _ 35 rfl (w1.heap.size + 1) 57 3 40 Try.underlying35 slotI _ k _ rfl ((hown.alloc _).alloc _) _ 1 [.string x.wait, .string ⟨#[]⟩, .bool false] rfl (Sl.block (new_second wr 57 #[.string x.wait, .string ⟨#[]⟩, .bool false] (.cells #[.string x.wait, .string ⟨#[]⟩, .bool false] 57)) 1 1 (Nat.le_refl _) (by decide)) rfl ?_ ?_ ?_ ?_ ?_))
              · first | exact ⟨rfl, rfl, rfl⟩ | (intro u hu; simp at hu; rcases hu with rfl | rfl | rfl <;> rfl)
              · unfold maxLen; omega
              · omega
              · first | omega | (simp; omega)
              · intro v1 w3 hown1 hgrow hat
                rw [← HT.out] at hown1
                obtain ⟨g, cap1, rfl, hg1, hg2⟩ := hown1.form (by omega)
                have y3 := ((hv.alloc _).alloc _).grown hgrow (fun e => by have := own_ge hown _ e; omega)
                have x3' := y3.cell 0 _ rfl
                have f3' := y3.free 0
                clear x3 f3
                go_wp2
                go_roundw
                case rel => exact ⟨k + 1, _, by omega, by go_num, y3.set_ 0 _, own_far hown1 (by simp; omega) _, (((hbw.alloc hbw.size _).alloc (by simp; omega) _).grown hgrow (by simp; omega) (fun q e => by have := own_ge hown _ e; omega)).setCell (by simp) _⟩
                case measure => simp [intOf]; omega
      · obtain rfl : k = l.length := by omega
        have hfull : (crashF cuts l).take l.length = crashF cuts l := List.take_of_length_le (by rw [crashF_len]; omega)
        rw [hfull] at hown
        have b2 := b1.below hbw
        have x2 := Blk.cell b2 0 _ rfl
        have f2 := Blk.free b2 0
        have hsl := Sl.of_own hown
        have hge := own_ge hown
        obtain ⟨A', cp, hvf, -⟩ := id hsl
        subst hvf
        have x3 := hv.cell 0 _ rfl
        have HG := Lib.hid hge
        clear hge
        go_wp2
        refine bodyPost_ret (v := .tuple #[.agg #[.slice A' l.length cp], .int .i64 0]) (by simp [results, Try.results32, go_sem, x2]) rfl ?_
        rw [e1.out]
        refine ⟨_, rfl, ?_, fresh_mono HG.out (by omega), hBw.setCell (by simp) _⟩
        rw [crashF_len]
        exact hsl.setCell (fresh_ne HG.out (by simp; omega)) _
  · have e1 := Lib.hid (show crashR cuts l = ([], checkD l) from if_pos hc)
    have hne : (checkD l == 0) = false := by simpa using hc
    clear hc
    go_enter Try.func32, Try.ntmps32
    go_wp2_with fail
    refine (check_any _ l _ h'.out).mono ?_
    rintro e w1 ⟨rfl, hb⟩
    have b1 := (new_second w 37 #[.slice none 0 0] (.cells #[.slice A l.length c] 37)).below hb
    have x1 := b1.cell 0 _ rfl
    have f1 := b1.free 0
    go_wp2
    refine bodyPost_ret (v := .tuple #[.agg #[.slice none 0 0], .int .i64 (checkD l)]) (by simp [results, Try.results32, go_sem, x1]) rfl ?_
    rw [e1.out]
    exact ⟨_, rfl, Sl.nil_ _, fresh_nil _, (below_trans hB0 hb).setCell (by simp) _⟩

end Go.Proofs.Yteamepgonmdilaa
