/-
  A text in a key: what value.text reads.
-/
import Derived.Test.YteamepgonmdilaaDoorValue9
namespace Go.Proofs.YteamepgonmdilaaDoor
open Go.RowKit

def txtF : List UInt8 → Nat → Option (List UInt8 × Nat)
  | [], _ => none
  | _ :: _, 0 => none
  | c :: r, m + 1 =>
    if c ≠ 0 then (txtF r m).map fun p => (c :: p.1, p.2 + 1)
    else match r with
      | [] => none
      | d :: r' => if d = 1 then some ([], 2) else if d = 255 then (txtF r' m).map fun p => (0 :: p.1, p.2 + 2) else none
theorem txt_plain {c : UInt8} (r : List UInt8) (m : Nat) (hc : c ≠ 0) : txtF (c :: r) (m + 1) = (txtF r m).map fun p => (c :: p.1, p.2 + 1) := by
  rw [txtF.eq_def]; simp [hc]
theorem txt_end (m : Nat) : txtF [0] (m + 1) = none := by rw [txtF.eq_def]; rfl
theorem txt_stop (r : List UInt8) (m : Nat) : txtF (0 :: 1 :: r) (m + 1) = some ([], 2) := by rw [txtF.eq_def]; rfl
theorem txt_zero (r : List UInt8) (m : Nat) : txtF (0 :: 255 :: r) (m + 1) = (txtF r m).map fun p => (0 :: p.1, p.2 + 2) := by rw [txtF.eq_def]; rfl
theorem txt_bad {d : UInt8} (r : List UInt8) (m : Nat) (h1 : d ≠ 1) (h2 : d ≠ 255) : txtF (0 :: d :: r) (m + 1) = none := by rw [txtF.eq_def]; simp [h1, h2]
theorem txt_full (l : List UInt8) : txtF l 0 = none := by cases l <;> rfl
theorem txt_nil (m : Nat) : txtF [] m = none := by cases m <;> rfl

/-- The result of the whole, of what has been read and what is still to come. -/
def TxtRel (l : List UInt8) (i : Nat) (b : List UInt8) : Prop := txtF l 65 = (txtF (l.drop i) (65 - b.length)).map fun p => (b ++ p.1, i + p.2)
theorem rel_start (l : List UInt8) : TxtRel l 0 [] := by
  unfold TxtRel
  simp
theorem rel_plain {l : List UInt8} {i : Nat} {b : List UInt8} {c : UInt8} (h : TxtRel l i b) (hd : l[i]? = some c) (hc : c ≠ 0) (hb : b.length ≤ 64) : TxtRel l (i + 1) (b ++ [c]) := by
  unfold TxtRel at *
  obtain ⟨hlt, rfl⟩ := List.getElem?_eq_some_iff.1 hd
  rw [h, List.drop_eq_getElem_cons hlt, show 65 - b.length = (64 - b.length) + 1 from by omega, txt_plain _ _ hc, Option.map_map]
  rw [show 65 - (b ++ [l[i]]).length = 64 - b.length from by simp]
  congr 1
  funext p
  simp [Nat.add_assoc, Nat.add_comm 1]
theorem rel_zero {l : List UInt8} {i : Nat} {b : List UInt8} (h : TxtRel l i b) (hd : l[i]? = some 0) (hd2 : l[i + 1]? = some 255) (hb : b.length ≤ 64) : TxtRel l (i + 2) (b ++ [0]) := by
  unfold TxtRel at *
  obtain ⟨hlt, e1⟩ := List.getElem?_eq_some_iff.1 hd
  obtain ⟨hlt2, e2⟩ := List.getElem?_eq_some_iff.1 hd2
  rw [h, List.drop_eq_getElem_cons hlt, List.drop_eq_getElem_cons hlt2, e1, e2, show 65 - b.length = (64 - b.length) + 1 from by omega, txt_zero, Option.map_map]
  rw [show 65 - (b ++ [(0 : UInt8)]).length = 64 - b.length from by simp]
  congr 1
  funext p
  simp [Nat.add_assoc, Nat.add_comm 2]
theorem rel_end1 {l : List UInt8} {i : Nat} {b : List UInt8} (h : TxtRel l i b) (hi : l.length ≤ i) : txtF l 65 = none := by
  rw [h, List.drop_eq_nil_of_le hi, txt_nil]; rfl
theorem rel_end2 {l : List UInt8} {i : Nat} {b : List UInt8} (h : TxtRel l i b) (hb : 64 < b.length) : txtF l 65 = none := by
  rw [h, show 65 - b.length = 0 from by omega, txt_full]; rfl
theorem rel_end3 {l : List UInt8} {i : Nat} {b : List UInt8} (h : TxtRel l i b) (hd : l[i]? = some 0) (hi : l.length = i + 1) (hb : b.length ≤ 64) : txtF l 65 = none := by
  obtain ⟨hlt, e1⟩ := List.getElem?_eq_some_iff.1 hd
  rw [h, List.drop_eq_getElem_cons hlt, e1, List.drop_eq_nil_of_le (by omega), show 65 - b.length = (64 - b.length) + 1 from by omega, txt_end]; rfl
theorem rel_end4 {l : List UInt8} {i : Nat} {b : List UInt8} {d : UInt8} (h : TxtRel l i b) (hd : l[i]? = some 0) (hd2 : l[i + 1]? = some d) (h1 : d ≠ 1) (h2 : d ≠ 255) (hb : b.length ≤ 64) : txtF l 65 = none := by
  obtain ⟨hlt, e1⟩ := List.getElem?_eq_some_iff.1 hd
  obtain ⟨hlt2, e2⟩ := List.getElem?_eq_some_iff.1 hd2
  rw [h, List.drop_eq_getElem_cons hlt, List.drop_eq_getElem_cons hlt2, e1, e2, show 65 - b.length = (64 - b.length) + 1 from by omega, txt_bad _ _ h1 h2]; rfl
theorem rel_stop {l : List UInt8} {i : Nat} {b : List UInt8} (h : TxtRel l i b) (hd : l[i]? = some 0) (hd2 : l[i + 1]? = some 1) (hb : b.length ≤ 64) : txtF l 65 = some (b, i + 2) := by
  obtain ⟨hlt, e1⟩ := List.getElem?_eq_some_iff.1 hd
  obtain ⟨hlt2, e2⟩ := List.getElem?_eq_some_iff.1 hd2
  rw [h, List.drop_eq_getElem_cons hlt, List.drop_eq_getElem_cons hlt2, e1, e2, show 65 - b.length = (64 - b.length) + 1 from by omega, txt_stop]; simp

def textR (l : List UInt8) : ByteArray × Int × Bool := match txtF l 65 with
  | some p => (str p.1, (p.2 : Int), true)
  | none => (⟨#[]⟩, 0, false)
theorem textR_no {l : List UInt8} (h : txtF l 65 = none) : textR l = (⟨#[]⟩, 0, false) := by unfold textR; rw [h]
theorem textR_yes {l b : List UInt8} {n : Nat} (h : txtF l 65 = some (b, n)) : textR l = (str b, (n : Int), true) := by unfold textR; rw [h]

/-- string(b) of a row of the call's own. -/
theorem run_str_own {wr : World} {base n : Nat} {A : Option Addr} {c : Nat} {l : List UInt8} (h : wr.ownsRow base 5 1 (.slice A n c) n (bytesV l)) (hn : n = l.length) :
    (convert 46 9 (.slice A n c)).run Tryd.prog wr = .ok (.string (str l)) wr := by
  obtain ⟨A', c', e, -, -, -, hcell⟩ := Sl.of_own h
  injection e with e1 e2 e3
  subst e1 e3
  cases l with
  | nil =>
    have hn0 : n = 0 := hn
    subst hn0
    cases A with
    | none =>
      rw [run_convert_bytes_nil wr 46 5 Tryd.underlying46 Tryd.underlying5 0 c 9 Tryd.underlying9]
      rfl
    | some a => exact run_convert_bytes_back wr 46 9 5 a c [] Tryd.underlying46 Tryd.underlying5 Tryd.underlying9 (by simp)
  | cons q r =>
    obtain ⟨gb, go, rfl, hcc⟩ := hcell (by simp [bytesV])
    subst hn
    exact run_str wr gb go c (q :: r) hcc

theorem byte_ne {c : UInt8} {n : Nat} (hn : n < 256) (h : c ≠ UInt8.ofNat n) : ((c.toNat : Int) == (n : Int)) = false := by
  simp only [beq_eq_false_iff_ne]
  intro e
  apply h
  apply UInt8.toNat_inj.1
  rw [UInt8.toNat_ofNat', Nat.mod_eq_of_lt hn]
  omega

set_option maxHeartbeats 2000000 in
theorem text_any (s : ByteArray) (w : World) (hs : s.size ≤ 4611686018427387904) :
    Calls Tryd.prog 28 #[.string s] w fun e w' => e = .returned (.tuple #[.string (textR s.toList).1, .int .i64 (textR s.toList).2.1, .bool (textR s.toList).2.2]) ∧ Below w.heap.size w w' := by
  go_enter Tryd.func28, Tryd.ntmps28
  go_wp2
  go_loopw [5, 6] (fun b i wr => ∃ (k : Nat) (v : Value) (x : List UInt8), v = b ∧ k ≤ s.size ∧ i = .int .i64 k ∧ x.length ≤ 65 ∧ Hid (TxtRel s.toList k x) ∧ wr.ownsRow w.heap.size 5 1 v x.length (bytesV x) ∧ Below w.heap.size w wr)
    (fun _ i _ => s.size - (intOf i).toNat)
  case atStart => exact ⟨0, _, [], rfl, by omega, rfl, by simp, rel_start _, World.ownsRow_nil _ _ _ _, Below.refl _ _⟩
  case round =>
    obtain ⟨k, v, x, rfl, hk, rfl, hx, HR, hown, hbw⟩ := hrel
    obtain ⟨A, c, rfl, hxc, -⟩ := Sl.of_own hown
    by_cases hlt : k < s.size
    · by_cases hx64 : x.length ≤ 64
      · have hat := toList_at s k hlt
        have HA := Lib.hid hat
        clear hat
        by_cases hc0 : s[k] = 0
        · have HA0 := Lib.hid (show s.toList[k]? = some 0 from by rw [HA.out, hc0])
          by_cases hk1 : k + 1 < s.size
          · have HD := Lib.hid (toList_at s (k + 1) hk1)
            by_cases hd1 : s[k + 1] = 1
            · have HD1 := Lib.hid (show s.toList[k + 1]? = some 1 from by rw [HD.out, hd1])
              have e1 := Lib.hid (textR_yes (rel_stop HR.out HA0.out HD1.out hx64))
              have hcv := run_str_own hown rfl
              go_wp2
              go_ret3
              exact ⟨by rw [e1.out]; rfl, hbw⟩
            · by_cases hd2 : s[k + 1] = 255
              · have HD1 := Lib.hid (show s.toList[k + 1]? = some 255 from by rw [HD.out, hd2])
                clear hd1
                go_wp2_with (at_builtin; refine wpList_app rfl (.tmp 54) (.tmp 55) 46 rfl w.heap.size 5 1 1 Tryd.underlying46 byteI _ x.length _ rfl (hown.alloc _) _ 1 [.int .u8 0] rfl (Sl.block (Blk.new wr 5 #[.int .u8 0]) 1 1 (Nat.le_refl _) (by decide)) rfl ?_ ?_ ?_ ?_ ?_)
                · intro u hu; simp at hu; subst hu; rfl
                · unfold maxLen; omega
                · omega
                · have := hbw.size; simp; omega
                · intro v2 w3 hown3 hg3 hat3
                  have hbw3 := below_app hbw hg3 (own_ge hown)
                  have R := rel_zero HR.out HA0.out HD1.out hx64
                  have HRR := Lib.hid R
                  clear R
                  go_wp2
                  go_roundw
                  case rel => exact ⟨k + 2, _, x ++ [0], rfl, by omega, by go_num, by simp; omega, HRR.out, by simpa [bytesV, byteV] using hown3, hbw3⟩
                  case measure => simp [intOf]; omega
              · have hb1 := (show ((s[k + 1].toNat : Int) == 1) = false from byte_ne (n := 1) (by omega) hd1)
                have hb2 := (show ((s[k + 1].toNat : Int) == 255) = false from byte_ne (n := 255) (by omega) hd2)
                have e1 := Lib.hid (textR_no (rel_end4 HR.out HA0.out HD.out hd1 hd2 hx64))
                have hb3 : ((s[k + 1].toNat : Int) != 1) = true := by simp only [bne, hb1]; rfl
                have hb4 : ((s[k + 1].toNat : Int) != 255) = true := by simp only [bne, hb2]; rfl
                have hb5 : (((k : Int) + 1) == (s.size : Int)) = false := by simp; omega
                clear hd1 hd2
                go_wp2
                go_ret3
                exact ⟨by rw [e1.out]; rfl, hbw⟩
          · have hke : k + 1 = s.size := by omega
            have e1 := Lib.hid (textR_no (rel_end3 HR.out HA0.out (by rw [toList_len]; omega) hx64))
            have hb0 : (((k : Int) + 1) == (s.size : Int)) = true := by simp; omega
            clear hke
            go_wp2
            go_ret3
            exact ⟨by rw [e1.out]; rfl, hbw⟩
        · have hb := byte_ne (n := 0) (by omega) hc0
          have HC := Lib.hid hc0
          clear hc0
          go_wp2_with (at_builtin; refine wpList_app rfl (.tmp 22) (.tmp 26) 46 rfl w.heap.size 5 1 1 Tryd.underlying46 byteI _ x.length _ rfl (hown.alloc _) _ 1 [.int .u8 (s[k].toNat : Int)] rfl (Sl.block (Blk.new wr 5 #[.int .u8 (s[k].toNat : Int)]) 1 1 (Nat.le_refl _) (by decide)) rfl ?_ ?_ ?_ ?_ ?_)
          · intro u hu; simp at hu; subst hu; rfl
          · unfold maxLen; omega
          · omega
          · have := hbw.size; simp; omega
          · intro v2 w3 hown3 hg3 hat3
            have hbw3 := below_app hbw hg3 (own_ge hown)
            have R := rel_plain HR.out HA.out HC.out hx64
            have HRR := Lib.hid R
            clear R hb
            go_wp2
            go_roundw
            case rel => exact ⟨k + 1, _, x ++ [s[k]], rfl, by omega, by go_num, by simp; omega, HRR.out, by simpa [bytesV, byteV] using hown3, hbw3⟩
            case measure => simp [intOf]; omega
      · have e1 := Lib.hid (textR_no (rel_end2 HR.out (by omega)))
        go_wp2
        go_ret3
        exact ⟨by rw [e1.out]; rfl, hbw⟩
    · have e1 := Lib.hid (textR_no (rel_end1 HR.out (by rw [toList_len]; omega)))
      go_wp2
      go_ret3
      exact ⟨by rw [e1.out]; rfl, hbw⟩

end Go.Proofs.YteamepgonmdilaaDoor
