/-
  The walk of the reference's front.
-/
import Derived.Test.YteabfalklgffmaaDoorValue12
namespace Go.Proofs.YteabfalklgffmaaDoor
open Go.RowKit

theorem front_hd {s : ByteArray} (h : 0 < s.size) : s.toList = s[0] :: s.toList.drop 1 := by
  have h1 := toList_at s 0 h
  cases hq : s.toList with
  | nil => rw [hq] at h1; simp at h1
  | cons a b =>
    rw [hq] at h1
    simp only [List.getElem?_cons_zero, Option.some.injEq] at h1
    rw [h1]; rfl

theorem drop_at (s : ByteArray) (k : Nat) (h : k < s.size) : s.toList.drop k = s[k] :: s.toList.drop (k + 1) := by
  obtain ⟨hlt, e⟩ := List.getElem?_eq_some_iff.1 (toList_at s k h)
  rw [List.drop_eq_getElem_cons hlt, e]
theorem take_snoc9 (s : ByteArray) (k : Nat) (h1 : 1 ≤ k) (hk : k < s.size) : be8N ((s.toList.drop 1).take k) = be8N ((s.toList.drop 1).take (k - 1)) * 256 + s[k].toNat := by
  obtain ⟨j, rfl⟩ : ∃ j, k = j + 1 := ⟨k - 1, by omega⟩
  have e : (s.toList.drop 1)[j]? = some s[j + 1] := by rw [List.getElem?_drop, Nat.add_comm]; exact toList_at s (j + 1) hk
  rw [List.take_add_one, e, Option.toList_some, be8N_snoc]
  rfl
theorem xor_back (M : Nat) (h : M < 18446744073709551616) : bits .xor .i64 (wrap64 (M : Int)) (-9223372036854775808) = (M : Int) - 9223372036854775808 := by
  have r : -9223372036854775808 ≤ wrap64 (M : Int) ∧ wrap64 (M : Int) ≤ 9223372036854775807 := by unfold wrap64; omega
  have h1 := xor_bias (wrap64 (M : Int)) r.1 r.2
  obtain ⟨q, hq⟩ : ∃ q, bits .xor .i64 (wrap64 (M : Int)) (-9223372036854775808) = IntKind.i64.wrap q := ⟨_, rfl⟩
  rw [hq] at h1 ⊢
  have ra : -9223372036854775808 ≤ IntKind.i64.wrap q ∧ IntKind.i64.wrap q ≤ 9223372036854775807 := by rw [IntKind.wrap_i64]; omega
  generalize IntKind.i64.wrap q = a at h1 ra
  have hb : (bias (wrap64 (M : Int)) : Int) = wrap64 (M : Int) + 9223372036854775808 := by unfold bias; omega
  rw [hb, IntKind.wrap_u64] at h1
  by_cases hM : M < 9223372036854775808
  · have e : wrap64 (M : Int) = M := by unfold wrap64; omega
    rw [e] at h1; omega
  · have e : wrap64 (M : Int) = M - 18446744073709551616 := by unfold wrap64; omega
    rw [e] at h1; omega

set_option maxHeartbeats 4000000 in
set_option maxRecDepth 10000 in
theorem front_any (s : ByteArray) (w : World) (hs : s.size ≤ 140737488355328) :
    Calls Tryd.prog 62 #[.string s] w fun e w' => e = .returned (.tuple #[.agg #[.int .i64 (frontF s.toList).1.k, .int .i64 (frontF s.toList).1.n, .string (frontF s.toList).1.s], .int .i64 ((frontF s.toList).2 : Int)]) ∧ Below w.heap.size w w' := by
  have hB1 := fun o1 => below_alloc w o1
  have hB2 := fun o1 o2 => below_trans (below_alloc w o1) (below_alloc _ o2)
  by_cases hs0 : s.size = 0
  · have hl : s.toList = [] := List.length_eq_zero_iff.1 (by rw [toList_len]; exact hs0)
    have e1 := Lib.hid (show frontF s.toList = (⟨0, 0, ⟨#[]⟩⟩, 0) from by rw [hl]; rfl)
    have hd : ((s.size : Int) == 0) = true := by simp [hs0]
    clear hl hs0
    go_enter Tryd.func62, Tryd.ntmps62
    go_wp2
    rw [e1.out]
    exact bodyPost_ret (v := .tuple #[.agg #[.int .i64 0, .int .i64 0, .string ⟨#[]⟩], .int .i64 0]) (by simp [results, Tryd.results62, go_sem]) rfl ⟨rfl, hB1 _⟩
  · have hpos : 0 < s.size := by omega
    have hd : ((s.size : Int) == 0) = false := by simp [hs0]
    have HCO := Lib.hid (front_hd hpos)
    by_cases hc0 : s[0] = 0
    · have e1 := Lib.hid (show frontF s.toList = (⟨0, 0, ⟨#[]⟩⟩, 1) from by rw [HCO.out, hc0]; rfl)
      clear hs0
      go_enter Tryd.func62, Tryd.ntmps62
      go_wp2
      rw [e1.out]
      exact bodyPost_ret (v := .tuple #[.agg #[.int .i64 0, .int .i64 0, .string ⟨#[]⟩], .int .i64 1]) (by simp [results, Tryd.results62, go_sem]) rfl ⟨rfl, hB2 _ _⟩
    · have hb0 := byte_ne (n := 0) (by omega) hc0
      have hlt : s[0].toNat < 256 := s[0].toNat_lt
      have hw64 := u8_wrap s[0]
      by_cases hc3 : 3 < s[0].toNat
      · have hq1 : ((s[0].toNat : Int) == 1) = false := by simp; omega
        have hq2 : ((s[0].toNat : Int) == 2) = false := by simp; omega
        have hq3 : ((s[0].toNat : Int) == 3) = false := by simp; omega
        have e1 := Lib.hid (show frontF s.toList = (⟨(s[0].toNat : Int), 0, ⟨#[]⟩⟩, 0) from by
          rw [HCO.out, frontF.eq_def]
          simp only
          rw [if_neg hc0, if_neg (by intro h; rw [h] at hq1; simp at hq1), if_neg (by intro h; rw [h] at hq2; simp at hq2), if_neg (by intro h; rw [h] at hq3; simp at hq3)])
        clear hc0 hs0
        go_enter Tryd.func62, Tryd.ntmps62
        go_wp2
        rw [e1.out]
        exact bodyPost_ret (v := .tuple #[.agg #[.int .i64 (s[0].toNat : Int), .int .i64 0, .string ⟨#[]⟩], .int .i64 0]) (by simp [results, Tryd.results62, go_sem]) rfl ⟨rfl, hB2 _ _⟩
      · by_cases hc1 : s[0] = 1
        · clear hb0 hlt hw64 hc0 hc3
          by_cases hs1 : 1 < s.size
          · have hq64 := u8_wrap s[1]
            have e1 := Lib.hid (show frontF s.toList = (⟨1, (s[1].toNat : Int), ⟨#[]⟩⟩, 2) from by rw [HCO.out, hc1, drop_at s 1 hs1]; rfl)
            clear hs0
            go_enter Tryd.func62, Tryd.ntmps62
            go_wp2
            rw [e1.out]
            exact bodyPost_ret (v := .tuple #[.agg #[.int .i64 1, .int .i64 (s[1].toNat : Int), .string ⟨#[]⟩], .int .i64 2]) (by simp [results, Tryd.results62, go_sem]) rfl ⟨rfl, hB2 _ _⟩
          · have e1 := Lib.hid (show frontF s.toList = (⟨1, 0, ⟨#[]⟩⟩, 0) from by rw [HCO.out, hc1, List.drop_eq_nil_of_le (by rw [toList_len]; omega)]; rfl)
            clear hs0
            go_enter Tryd.func62, Tryd.ntmps62
            go_wp2
            rw [e1.out]
            exact bodyPost_ret (v := .tuple #[.agg #[.int .i64 1, .int .i64 0, .string ⟨#[]⟩], .int .i64 0]) (by simp [results, Tryd.results62, go_sem]) rfl ⟨rfl, hB2 _ _⟩
        · by_cases hc2 : s[0] = 2
          · clear hb0 hlt hw64 hc0 hc3 hc1
            by_cases hs8 : 8 < s.size
            · have HF := Lib.hid (show frontF s.toList = (⟨2, ((be8N ((s.toList.drop 1).take 8) : Nat) : Int) - 9223372036854775808, ⟨#[]⟩⟩, 9) from by rw [HCO.out, hc2, front2, if_pos (by rw [List.length_drop, toList_len]; omega)]; rfl)
              clear hs0
              go_enter Tryd.func62, Tryd.ntmps62
              go_wp2
              go_loop [5, 6] (fun n i => ∃ k M : Nat, 1 ≤ k ∧ k ≤ 9 ∧ i = .int .i64 k ∧ n = .int .i64 (IntKind.i64.wrap (M : Int)) ∧ Hid (M = be8N ((s.toList.drop 1).take (k - 1)))) (fun _ i => 9 - (intOf i).toNat)
              case atStart => exact ⟨1, 0, by omega, by omega, rfl, rfl, rfl⟩
              case round =>
                obtain ⟨k, M, hk1, hk9, rfl, rfl, HM⟩ := hrel
                by_cases hk : k < 9
                · have hks : k < s.size := by omega
                  have k0 : (0 : Int) ≤ (k : Int) := by omega
                  have hw := u8_wrap s[k]
                  have HT := Lib.hid (take_snoc9 s k hk1 hks)
                  have HV := Lib.hid (show bits BinOp.or IntKind.i64 (wrap64 (wrap64 (M : Int) * 256)) (s[k].toNat : Int) = IntKind.i64.wrap ((M * 256 + s[k].toNat : Nat) : Int) from by rw [wrap_256, or_byte])
                  go_wp2
                  go_round
                  case rel => exact ⟨k + 1, M * 256 + s[k].toNat, by omega, by omega, by go_num, by rw [← HV.out], by show _ = _; rw [Nat.add_sub_cancel, HT.out, HM.out]⟩
                  case measure => simp [intOf]; omega
                · obtain rfl : k = 9 := by omega
                  obtain ⟨g1, g2⟩ := be8_back ((s.toList.drop 1).take 8) (by rw [List.length_take, List.length_drop, toList_len]; omega)
                  have hM : be8N ((s.toList.drop 1).take 8) = M := HM.out.symm
                  rw [hM] at g2 HF
                  have hX := xor_back M g2
                  clear hM g1 g2
                  go_wp2
                  rw [HF.out]
                  exact bodyPost_ret (v := .tuple #[.agg #[.int .i64 2, .int .i64 ((M : Int) - 9223372036854775808), .string ⟨#[]⟩], .int .i64 9]) (by simp [results, Tryd.results62, go_sem]) rfl ⟨rfl, hB2 _ _⟩
            · have e1 := Lib.hid (show frontF s.toList = (⟨2, 0, ⟨#[]⟩⟩, 0) from by rw [HCO.out, hc2, front2, if_neg (by rw [List.length_drop, toList_len]; omega)])
              clear hs0
              go_enter Tryd.func62, Tryd.ntmps62
              go_wp2
              rw [e1.out]
              exact bodyPost_ret (v := .tuple #[.agg #[.int .i64 2, .int .i64 0, .string ⟨#[]⟩], .int .i64 0]) (by simp [results, Tryd.results62, go_sem]) rfl ⟨rfl, hB2 _ _⟩
          · have hce : s[0] = 3 := by
              have h1 : s[0].toNat ≠ 0 := fun h => hc0 (UInt8.toNat_inj.1 h)
              have h2 : s[0].toNat ≠ 1 := fun h => hc1 (UInt8.toNat_inj.1 h)
              have h3 : s[0].toNat ≠ 2 := fun h => hc2 (UInt8.toNat_inj.1 h)
              apply UInt8.toNat_inj.1
              show s[0].toNat = 3
              omega
            clear hb0 hlt hw64 hc0 hc1 hc2 hc3
            have HF : Hid (frontF s.toList = frontF (3 :: s.toList.drop 1)) := Lib.hid (by rw [← hce, ← HCO.out])
            clear hs0
            go_enter Tryd.func62, Tryd.ntmps62
            go_wp2
            go_loopw [7, 8] (fun b i wr => ∃ (k : Nat) (v : Value) (x : List UInt8), v = b ∧ 1 ≤ k ∧ k ≤ s.size ∧ i = .int .i64 k ∧ x.length + 1 ≤ k ∧ Hid (TgRel s.toList k x) ∧ wr.ownsRow (w.heap.size + 2) 5 1 v x.length (bytesV x) ∧
              Blk wr w.heap.size 82 #[.int .i64 0, .int .i64 0, .string ⟨#[]⟩] ∧ Blk wr (w.heap.size + 1) 82 #[.int .i64 3, .int .i64 0, .string ⟨#[]⟩] ∧ Below w.heap.size w wr)
              (fun _ i _ => s.size - (intOf i).toNat)
            case atStart => exact ⟨1, _, [], rfl, by omega, by omega, rfl, by simp, tgr_start _, World.ownsRow_nil _ _ _ _, new_first _ _ _ _, new_second _ _ _ _, hB2 _ _⟩
            case round =>
              obtain ⟨k, v, x, rfl, hk1, hk, rfl, hx, HR, hown, K1, K2, hbw⟩ := hrel
              obtain ⟨A, c, rfl, hxc, -⟩ := Sl.of_own hown
              have hne1 : (Value.slice A x.length c).ownBlock ≠ some w.heap.size := fun h => by have := own_ge hown _ h; omega
              have hne2 : (Value.slice A x.length c).ownBlock ≠ some (w.heap.size + 1) := fun h => by have := own_ge hown _ h; omega
              have hz2 := K2.lt
              by_cases hlt : k + 1 < s.size
              · have hat := toList_at s k (by omega)
                have HA := Lib.hid hat
                have HD := Lib.hid (toList_at s (k + 1) hlt)
                have k0 : (0 : Int) ≤ (k : Int) := by omega
                clear hat
                by_cases hc0 : s[k] = 0
                · have HA0 := Lib.hid (show s.toList[k]? = some 0 from by rw [HA.out, hc0])
                  by_cases hd1 : s[k + 1] = 1
                  · have HD1 := Lib.hid (show s.toList[k + 1]? = some 1 from by rw [HD.out, hd1])
                    have e1 := Lib.hid (show frontF s.toList = (⟨3, 0, str x⟩, k + 2) from by rw [HF.out, front3_yes (tgr_stop HR.out hk1 HA0.out HD1.out)]; congr 1; omega)
                    have hcv := run_str_own hown rfl
                    have z0 := K1.cell 0 _ rfl
                    have z1 := K1.cell 1 _ rfl
                    have z2 := K1.cell 2 _ rfl
                    have zf := K1.free
                    have y0 := K2.cell 0 _ rfl
                    have y1 := K2.cell 1 _ rfl
                    have y2 := K2.cell 2 _ rfl
                    have yf := K2.free
                    have L1 := (((((K1.far (p := ⟨w.heap.size + 1, 2, none⟩) (by simp) (.string (str x))).set_ 0 (.int .i64 3)).set_ 1 (.int .i64 0)).set_ 2 (.string (str x))))
                    have x0 := L1.cell 0 _ rfl
                    have x1 := L1.cell 1 _ rfl
                    have x2 := L1.cell 2 _ rfl
                    have XX := Lib.hid (And.intro x0 (And.intro x1 x2))
                    clear L1 x0 x1 x2
                    go_wp2
                    rw [e1.out]
                    obtain ⟨x0, x1, x2⟩ := XX.out
                    exact bodyPost_ret (v := .tuple #[.agg #[.int .i64 3, .int .i64 0, .string (str x)], .int .i64 ((k : Int) + 2)]) (by simp [results, Tryd.results62, go_sem, x0, x1, x2]) rfl
                      ⟨by congr 1, ((((hbw.setCell (p := ⟨w.heap.size + 1, 2, none⟩) (by simp) _).setCell (p := ⟨w.heap.size, 0, none⟩) (by simp) _).setCell (p := ⟨w.heap.size, 1, none⟩) (by simp) _).setCell (p := ⟨w.heap.size, 2, none⟩) (by simp) _)⟩
                  · have hb1 := byte_ne (n := 1) (by omega) hd1
                    have R0 := tgr_zero HR.out hk1 HA0.out HD.out hd1
                    have R := Lib.hid R0
                    clear R0 hd1
                    go_wp2_with (at_builtin; refine wpList_app rfl (.tmp 82) (.tmp 83) 87 rfl (w.heap.size + 2) 5 1 1 Tryd.underlying87 byteI _ x.length _ rfl (hown.alloc _) _ 1 [.int .u8 0] rfl (Sl.block (Blk.new wr 5 #[.int .u8 0]) 1 1 (Nat.le_refl _) (by decide)) rfl ?_ ?_ ?_ ?_ ?_)
                    · intro u hu; simp at hu; subst hu; rfl
                    · unfold maxLen; omega
                    · omega
                    · simp; omega
                    · intro v2 w3 hown3 hg3 hat3
                      have hbw3 := below_app hbw hg3 (fun k hk => Nat.le_trans (Nat.le_add_right _ 2) (own_ge hown k hk))
                      have J1 := (K1.alloc (.cells #[.int .u8 0] 5)).grown hg3 hne1
                      have J2 := (K2.alloc (.cells #[.int .u8 0] 5)).grown hg3 hne2
                      go_wp2
                      go_roundw
                      case rel => exact ⟨k + 2, _, x ++ [0], rfl, by omega, by omega, by go_num, by simp; omega, R.out, by simpa [bytesV, byteV] using hown3, J1, J2, hbw3⟩
                      case measure => simp [intOf]; omega
                · have hb := byte_ne (n := 0) (by omega) hc0
                  have R := Lib.hid (tgr_plain HR.out hk1 HA.out hc0 (by rw [toList_len]; omega))
                  clear hc0
                  go_wp2_with (at_builtin; refine wpList_app rfl (.tmp 65) (.tmp 69) 87 rfl (w.heap.size + 2) 5 1 1 Tryd.underlying87 byteI _ x.length _ rfl (hown.alloc _) _ 1 [.int .u8 (s[k].toNat : Int)] rfl (Sl.block (Blk.new wr 5 #[.int .u8 (s[k].toNat : Int)]) 1 1 (Nat.le_refl _) (by decide)) rfl ?_ ?_ ?_ ?_ ?_)
                  · intro u hu; simp at hu; subst hu; rfl
                  · unfold maxLen; omega
                  · omega
                  · simp; omega
                  · intro v2 w3 hown3 hg3 hat3
                    have hbw3 := below_app hbw hg3 (fun k hk => Nat.le_trans (Nat.le_add_right _ 2) (own_ge hown k hk))
                    have J1 := (K1.alloc (.cells #[.int .u8 (s[k].toNat : Int)] 5)).grown hg3 hne1
                    have J2 := (K2.alloc (.cells #[.int .u8 (s[k].toNat : Int)] 5)).grown hg3 hne2
                    go_wp2
                    go_roundw
                    case rel => exact ⟨k + 1, _, x ++ [s[k]], rfl, by omega, by omega, by go_num, by simp; omega, R.out, by simpa [bytesV, byteV] using hown3, J1, J2, hbw3⟩
                    case measure => simp [intOf]; omega
              · have e1 := Lib.hid (show frontF s.toList = (⟨3, 0, ⟨#[]⟩⟩, 0) from by rw [HF.out, front3_no (tgr_end HR.out (by rw [toList_len]; omega))])
                have z0 := K1.cell 0 _ rfl
                have z1 := K1.cell 1 _ rfl
                have z2 := K1.cell 2 _ rfl
                have zf := K1.free
                have y0 := K2.cell 0 _ rfl
                have y1 := K2.cell 1 _ rfl
                have y2 := K2.cell 2 _ rfl
                have L1 := (((K1.set_ 0 (.int .i64 3)).set_ 1 (.int .i64 0)).set_ 2 (.string ⟨#[]⟩))
                have x0 := L1.cell 0 _ rfl
                have x1 := L1.cell 1 _ rfl
                have x2 := L1.cell 2 _ rfl
                have XX := Lib.hid (And.intro x0 (And.intro x1 x2))
                clear L1 x0 x1 x2
                go_wp2
                rw [e1.out]
                obtain ⟨x0, x1, x2⟩ := XX.out
                exact bodyPost_ret (v := .tuple #[.agg #[.int .i64 3, .int .i64 0, .string ⟨#[]⟩], .int .i64 0]) (by simp [results, Tryd.results62, go_sem, x0, x1, x2]) rfl
                  ⟨rfl, (((hbw.setCell (p := ⟨w.heap.size, 0, none⟩) (by simp) _).setCell (p := ⟨w.heap.size, 1, none⟩) (by simp) _).setCell (p := ⟨w.heap.size, 2, none⟩) (by simp) _)⟩

end Go.Proofs.YteabfalklgffmaaDoor
