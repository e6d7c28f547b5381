/-
  The walks of the reference's cellKey and Key.
-/
import Derived.Test.YtelmlagolmabpaaDoorValue6
namespace Go.Proofs.YtelmlagolmabpaaDoor
open Go.RowKit

theorem strL0 (W : World) : (convert 116 9 (.slice (some ⟨W.heap.size, 0, none⟩) 1 1)).run Tryd.prog (W.alloc (.cells #[.int .u8 0] 5)) = .ok (.string (str [0])) (W.alloc (.cells #[.int .u8 0] 5)) := run_str1 W 0
theorem strL1 (W : World) : (convert 116 9 (.slice (some ⟨W.heap.size, 0, none⟩) 1 1)).run Tryd.prog (W.alloc (.cells #[.int .u8 1] 5)) = .ok (.string (str [1])) (W.alloc (.cells #[.int .u8 1] 5)) := run_str1 W 1
theorem strL2 (W : World) : (convert 116 9 (.slice (some ⟨W.heap.size, 0, none⟩) 1 1)).run Tryd.prog (W.alloc (.cells #[.int .u8 2] 5)) = .ok (.string (str [2])) (W.alloc (.cells #[.int .u8 2] 5)) := run_str1 W 2
theorem strL3 (W : World) : (convert 116 9 (.slice (some ⟨W.heap.size, 0, none⟩) 1 1)).run Tryd.prog (W.alloc (.cells #[.int .u8 3] 5)) = .ok (.string (str [3])) (W.alloc (.cells #[.int .u8 3] 5)) := run_str1 W 3

theorem strA0 (w : World) (o : Obj) : (convert 116 9 (.slice (some ⟨w.heap.size + 1, 0, none⟩) 1 1)).run Tryd.prog ((w.alloc o).alloc (.cells #[.int .u8 0] 5)) = .ok (.string (str [0])) ((w.alloc o).alloc (.cells #[.int .u8 0] 5)) := by
  have := strL0 (w.alloc o)
  rwa [World.size_alloc] at this
theorem strB0 (w : World) (o o' : Obj) : (convert 116 9 (.slice (some ⟨w.heap.size + 1 + 1, 0, none⟩) 1 1)).run Tryd.prog (((w.alloc o).alloc o').alloc (.cells #[.int .u8 0] 5)) = .ok (.string (str [0])) (((w.alloc o).alloc o').alloc (.cells #[.int .u8 0] 5)) := by
  have := strL0 ((w.alloc o).alloc o')
  rwa [World.size_alloc, World.size_alloc] at this
theorem strA1 (w : World) (o : Obj) : (convert 116 9 (.slice (some ⟨w.heap.size + 1, 0, none⟩) 1 1)).run Tryd.prog ((w.alloc o).alloc (.cells #[.int .u8 1] 5)) = .ok (.string (str [1])) ((w.alloc o).alloc (.cells #[.int .u8 1] 5)) := by
  have := strL1 (w.alloc o)
  rwa [World.size_alloc] at this
theorem strB1 (w : World) (o o' : Obj) : (convert 116 9 (.slice (some ⟨w.heap.size + 1 + 1, 0, none⟩) 1 1)).run Tryd.prog (((w.alloc o).alloc o').alloc (.cells #[.int .u8 1] 5)) = .ok (.string (str [1])) (((w.alloc o).alloc o').alloc (.cells #[.int .u8 1] 5)) := by
  have := strL1 ((w.alloc o).alloc o')
  rwa [World.size_alloc, World.size_alloc] at this
theorem strA2 (w : World) (o : Obj) : (convert 116 9 (.slice (some ⟨w.heap.size + 1, 0, none⟩) 1 1)).run Tryd.prog ((w.alloc o).alloc (.cells #[.int .u8 2] 5)) = .ok (.string (str [2])) ((w.alloc o).alloc (.cells #[.int .u8 2] 5)) := by
  have := strL2 (w.alloc o)
  rwa [World.size_alloc] at this
theorem strB2 (w : World) (o o' : Obj) : (convert 116 9 (.slice (some ⟨w.heap.size + 1 + 1, 0, none⟩) 1 1)).run Tryd.prog (((w.alloc o).alloc o').alloc (.cells #[.int .u8 2] 5)) = .ok (.string (str [2])) (((w.alloc o).alloc o').alloc (.cells #[.int .u8 2] 5)) := by
  have := strL2 ((w.alloc o).alloc o')
  rwa [World.size_alloc, World.size_alloc] at this
theorem strA3 (w : World) (o : Obj) : (convert 116 9 (.slice (some ⟨w.heap.size + 1, 0, none⟩) 1 1)).run Tryd.prog ((w.alloc o).alloc (.cells #[.int .u8 3] 5)) = .ok (.string (str [3])) ((w.alloc o).alloc (.cells #[.int .u8 3] 5)) := by
  have := strL3 (w.alloc o)
  rwa [World.size_alloc] at this
theorem strB3 (w : World) (o o' : Obj) : (convert 116 9 (.slice (some ⟨w.heap.size + 1 + 1, 0, none⟩) 1 1)).run Tryd.prog (((w.alloc o).alloc o').alloc (.cells #[.int .u8 3] 5)) = .ok (.string (str [3])) (((w.alloc o).alloc o').alloc (.cells #[.int .u8 3] 5)) := by
  have := strL3 ((w.alloc o).alloc o')
  rwa [World.size_alloc, World.size_alloc] at this

/-- A cell that may be. -/
theorem good_cases (v : Val) (h : checkV v = 0) :
    (v.k = 0 ∧ keyCell v = [0]) ∨ (v.k = 1 ∧ v.n = 0 ∧ keyCell v = [1, 0]) ∨ (v.k = 1 ∧ v.n = 1 ∧ keyCell v = [1, 1]) ∨ (v.k = 2 ∧ keyCell v = 2 :: be8 (bias v.n)) ∨
    (v.k = 3 ∧ v.s.size ≤ 64 ∧ keyCell v = 3 :: (esc v.s.toList ++ [0, 1])) := by
  unfold keyCell
  rcases val_cases v with ⟨h1, -, hc⟩ | ⟨h1, -, -, hc⟩ | ⟨h1, -, -, hc⟩ | ⟨h1, -, -, hc⟩ | ⟨h1, -, -, hc⟩ | ⟨h1, h2, -, hc⟩ | ⟨h1, -, -, hc⟩ | ⟨h1, h2, -, hc⟩ | ⟨h1, -, hc⟩ | ⟨h1, -, hc⟩ | ⟨h1, -, hc⟩ | ⟨h1, -, -, hc⟩ | ⟨h1, -, h2, hc⟩ | ⟨h1, hc⟩ | ⟨h1, hc⟩
  all_goals
    first | (rw [h] at hc; exact absurd hc (by decide)) | skip
  · simp [h1]
  · simp [h1, h2]
  · simp [h1, h2]
  · simp [h1]
  · simp [h1]; omega

set_option maxHeartbeats 2000000 in
set_option maxRecDepth 10000 in
theorem cellKey_any (v : Val) (w : World) (hc : checkV v = 0) (h1 : -9223372036854775808 ≤ v.n) (h2 : v.n ≤ 9223372036854775807) :
    Calls Tryd.prog 96 #[.agg #[.int .i64 v.k, .int .i64 v.n, .string v.s]] w fun e w' => e = .returned (.string (str (keyCell v))) ∧ Below w.heap.size w w' := by
  have H := good_cases v hc
  obtain ⟨k, n, s⟩ := v
  simp only at H h1 h2 ⊢
  clear hc
  generalize keyCell ⟨k, n, s⟩ = kc at H ⊢
  have hB := fun o1 o2 => below_trans (below_alloc w o1) (below_alloc _ o2)
  rcases H with ⟨rfl, rfl⟩ | ⟨rfl, rfl, rfl⟩ | ⟨rfl, rfl, rfl⟩ | ⟨rfl, rfl⟩ | ⟨rfl, hs, rfl⟩
  · have hs0 := strA0 w
    go_enter Tryd.func96, Tryd.ntmps96
    go_wp2
    go_ret
    exact ⟨rfl, hB _ _⟩
  · have hs0 := strB0 w
    have hs1 := strA1 w
    have z1 := str_size [1]
    have z2 := str_size [0]
    simp only [List.length_cons, List.length_nil, Nat.zero_add] at z1 z2
    go_enter Tryd.func96, Tryd.ntmps96
    go_wp2
    go_ret
    exact ⟨by rw [show str [1, 0] = str [1] ++ str [0] from (str_append [1] [0]).symm]; rfl, below_trans (hB _ _) (below_alloc _ _)⟩
  · have hs1 := strA1 w
    have hs0 := strB1 w
    have z1 := str_size [1]
    simp only [List.length_cons, List.length_nil, Nat.zero_add] at z1
    go_enter Tryd.func96, Tryd.ntmps96
    go_wp2
    go_ret
    exact ⟨by rw [show str [1, 1] = str [1] ++ str [1] from (str_append [1] [1]).symm]; rfl, below_trans (hB _ _) (below_alloc _ _)⟩
  · have hs2 := strA2 w
    have z1 := str_size [2]
    have z2 := str_size (be8 (bias n))
    rw [be8_len] at z2
    have hx := xor_bias n h1 h2
    generalize hq : bits .xor .i64 n (-9223372036854775808) = q at hx
    have HX := Lib.hid hx
    simp only [List.length_cons, List.length_nil, Nat.zero_add] at z1
    go_enter Tryd.func96, Tryd.ntmps96
    go_wp2_with fail
    refine (eight_any q (bias n) _ HX.out).mono ?_
    rintro e w1 ⟨rfl, hb1⟩
    go_wp2
    go_ret
    exact ⟨by rw [show str (2 :: be8 (bias n)) = str [2] ++ str (be8 (bias n)) from (str_append [2] _).symm]; rfl, below_trans (hB _ _) hb1⟩
  · have hs3 := strA3 w
    have z1 := str_size [3]
    simp only [List.length_cons, List.length_nil, Nat.zero_add] at z1
    go_enter Tryd.func96, Tryd.ntmps96
    go_wp2
    go_loop [3, 4] (fun x i => ∃ (j : Nat) (y : ByteArray), j ≤ s.size ∧ i = .int .i64 j ∧ x = .string y ∧ y.size ≤ 1 + 2 * j ∧ Hid (y = str (3 :: esc (s.toList.take j)))) (fun _ i => s.size - (intOf i).toNat)
    case atStart => exact ⟨0, str [3], by omega, rfl, rfl, by omega, rfl⟩
    case round =>
      obtain ⟨j, y, hj, rfl, rfl, hy, HY⟩ := hrel
      by_cases hlt : j < s.size
      · have hex := extract_one s j hlt
        have he1 : (s.extract j (j + 1)).size ≤ 1 := by rw [hex, str_size]; simp
        have HEX := Lib.hid hex
        have HTK := Lib.hid (esc_take s j hlt)
        clear hex
        cases hz : (((s[j].toNat : Int)) == 0)
        · have hz2 : s[j] ≠ 0 := by intro h0; rw [h0] at hz; simp at hz
          have HZ := Lib.hid hz2
          clear hz2
          go_wp2
          go_round
          case rel =>
            refine ⟨j + 1, _, by omega, by go_num, rfl, ?_, ?_⟩
            · rw [ByteArray.size_append]; omega
            · show _ = _
              rw [HY.out, HEX.out, str_append, HTK.out, if_neg HZ.out]
              rfl
          case measure => simp [intOf]; omega
        · have hz2 : s[j] = 0 := by
            apply UInt8.toNat_inj.1
            have : (s[j].toNat : Int) = 0 := by simpa using hz
            have h0 : (0 : UInt8).toNat = 0 := rfl
            omega
          have HZ := Lib.hid hz2
          clear hz2
          go_wp2
          go_round
          case rel =>
            refine ⟨j + 1, _, by omega, by go_num, rfl, ?_, ?_⟩
            · rw [ByteArray.size_append, ByteArray.size_append]
              have : (⟨#[255]⟩ : ByteArray).size = 1 := rfl
              omega
            · show _ = _
              rw [HY.out, HEX.out, HZ.out, show (⟨#[255]⟩ : ByteArray) = str [255] from rfl, str_append, str_append, HTK.out, if_pos HZ.out]
              simp
          case measure => simp [intOf]; omega
      · obtain rfl : j = s.size := by omega
        have hfull : s.toList.take s.size = s.toList := List.take_of_length_le (by rw [toList_len]; omega)
        go_wp2
        go_ret
        refine ⟨?_, hB _ _⟩
        rw [show str (3 :: (esc s.toList ++ [0, 1])) = y ++ str [0, 1] from by rw [HY.out, str_append, hfull]; simp]
        rfl


/-- All that is asked of a row whose key is made: it may be, and its numbers are of 64 bits. -/
structure Fine (l : List Val) : Prop where
  small : Small l
  nums : ∀ x ∈ l, -9223372036854775808 ≤ x.n ∧ x.n ≤ 9223372036854775807
theorem keyErr_zero {l : List Val} (h : keyErr l = 0) : l.length ≤ 8 ∧ ∀ x ∈ l, checkV x = 0 := by
  unfold keyErr at h
  by_cases hn : 8 < l.length
  · rw [if_pos hn] at h; omega
  · rw [if_neg hn] at h
    refine ⟨by omega, fun x hx => ?_⟩
    obtain ⟨i, hi⟩ := List.getElem?_of_mem hx
    unfold firstNZ at h
    cases hf : (l.map checkV).find? (fun n => n != 0) with
    | none =>
      rw [List.find?_eq_none] at hf
      have := hf (checkV x) (List.mem_map.2 ⟨x, hx, rfl⟩)
      simpa using this
    | some y =>
      rw [hf] at h
      have := List.find?_some hf
      simp at this h
      exact absurd h this
theorem good_size {v : Val} (h : checkV v = 0) : v.s.size ≤ 64 := by
  have he : v.s.toList.isEmpty = true → v.s.size ≤ 64 := by
    intro h0
    rw [← toList_len]
    cases hl : v.s.toList with
    | nil => simp
    | cons a r => rw [hl] at h0; simp at h0
  rcases val_cases v with ⟨-, -, hc⟩ | ⟨-, -, -, hc⟩ | ⟨-, -, h3, hc⟩ | ⟨-, -, -, hc⟩ | ⟨-, -, -, hc⟩ | ⟨-, -, h3, hc⟩ | ⟨-, -, -, hc⟩ | ⟨-, -, h3, hc⟩ | ⟨-, -, hc⟩ | ⟨-, h3, hc⟩ | ⟨-, -, hc⟩ | ⟨-, -, -, hc⟩ | ⟨-, -, h3, hc⟩ | ⟨-, hc⟩ | ⟨-, hc⟩
  all_goals
    first | (rw [h] at hc; exact absurd hc (by decide)) | exact he h3 | exact h3
theorem keyRow_take (l : List Val) (k : Nat) (x : Val) (hk : l[k]? = some x) : keyRow (l.take (k + 1)) = keyRow (l.take k) ++ keyCell x := by
  rw [List.take_add_one, hk]
  simp [keyRow]

set_option maxHeartbeats 1000000 in
set_option maxRecDepth 10000 in
theorem rkey_any (v : Value) (l : List Val) (w : World) (h : Sl w v l.length (rowCells l)) (hf : Fine l) (he : keyErr l = 0) :
    Calls Tryd.prog 67 #[v] w fun e w' => e = .returned (.string (str (keyRow l))) ∧ Below w.heap.size w w' := by
  have HH := Lib.hid h
  have HF := Lib.hid hf
  obtain ⟨A, c, rfl, h1, h2, -⟩ := h
  obtain ⟨hl8, hg⟩ := keyErr_zero he
  have HG := Lib.hid hg
  clear hf he hg
  unfold maxLen at h2
  go_enter Tryd.func67, Tryd.ntmps67
  go_wp2
  go_loopw [3, 4] (fun s i wr => ∃ (k : Nat) (y : ByteArray), k ≤ l.length ∧ i = .int .i64 k ∧ s = .string y ∧ y.size ≤ 131 * k ∧ Hid (y = str (keyRow (l.take k))) ∧ Below w.heap.size w wr) (fun _ i _ => l.length - (intOf i).toNat)
  case atStart => exact ⟨0, ⟨#[]⟩, by omega, rfl, rfl, by simp [ByteArray.size], rfl, Below.refl _ _⟩
  case round =>
    obtain ⟨k, y, hk, rfl, rfl, hy, HY, hbw⟩ := hrel
    by_cases hlt : k < l.length
    · have hx := List.getElem?_eq_getElem (l := l) hlt
      generalize l[k] = x at hx
      obtain ⟨g, off, rfl, -, hc⟩ := val_at HH.out rfl hx
      obtain ⟨c1, c2, c3⟩ := hc _ hbw
      have hmem := List.mem_of_getElem? hx
      have hz := HG.out x hmem
      have HZ := Lib.hid hz
      have hn := HF.out.nums x hmem
      have hks : (str (keyCell x)).size ≤ 131 := by rw [str_size]; exact keyCell_len x (good_size hz)
      have HT := Lib.hid (keyRow_take l k x hx)
      clear hx hc hz hmem
      obtain ⟨n1, n2⟩ := hn
      go_wp2_with (go_at_call 96; refine (cellKey_any x _ HZ.out n1 n2).mono ?_; rintro e w1 ⟨rfl, hb1⟩)
      go_roundw
      case rel =>
        refine ⟨k + 1, _, by omega, by go_num, rfl, ?_, ?_, hbw.trans (hb1.mono hbw.size)⟩
        · rw [ByteArray.size_append]; omega
        · show _ = _
          rw [HY.out, str_append, HT.out]
      case measure => simp [intOf]; omega
    · obtain rfl : k = l.length := by omega
      go_wp2
      go_ret
      have hx : y = str (keyRow l) := by rw [HY.out, List.take_of_length_le (Nat.le_refl _)]
      exact ⟨by rw [hx]; rfl, hbw⟩

end Go.Proofs.YtelmlagolmabpaaDoor
