/-
  Piles: keys. Piles: view. Add, and the reference's AddTo. The reference's AddTo.
-/
import Derived.Test.YtelmlagolmabpaaDoorChg5
import Derived.Test.YtelmlagolmabpaaDoorChg6
import Derived.Test.YtelmlagolmabpaaDoorSorts
import Derived.Shelf.Slices.In.SortNone
import Derived.Maps.RangeWalk
import Derived.Sort.KeysCollected
import Derived.Sort.OwnSorted
import Derived.Test.YtelmlagolmabpaaDoorChgM4
import Derived.Test.YtelmlagolmabpaaDoorValue12
import Derived.Test.YtelmlagolmabpaaDoorChg3
import Derived.Test.YtelmlagolmabpaaDoorChg4
import Derived.Test.YtelmlagolmabpaaDoorChg11
set_option linter.unusedSimpArgs false
set_option linter.unusedVariables false
namespace Go.Proofs.YtelmlagolmabpaaDoor
open Go.RowKit Go.Maps Go.Sort
open Go.Lib (compareBytes)

theorem strI : EInfo Tryd.prog 9 1 16 := by
  have h : (Tryd.prog.info? 9).map (fun i => (i.zero, i.size, i.bytes)) = some (some (.string ⟨#[]⟩), 1, 16) := by kernel_rfl
  obtain ⟨i, hi, h1, h2, h3⟩ := info_parts h
  exact ⟨i, _, hi, h1, h2, h3, rfl, by omega⟩
theorem one_str (W : World) (x : List UInt8) : Sl (W.alloc (.cells #[encStr x] 9)) (.slice (some ⟨W.heap.size, 0, none⟩) 1 1) 1 [encStr x] := Sl.block (Blk.new W 9 #[encStr x]) 1 1 (Nat.le_refl _) (by decide)

theorem sort_some (blk cap : Nat) (ss : List (List UInt8)) (w : World) (hH : Holds encStr w blk 0 ss.toArray) (hblk : blk < w.heap.size) (hsz : ss.length < 4611686018427387904) :
    Calls Tryd.prog 106 #[.slice (some ⟨blk, 0, none⟩) ss.length cap] w fun e w' =>
      e = .returned (.tuple #[]) ∧ ∃ n os, w' = grow (putRow encStr (Sort.ahead w n) blk 0 (ss.mergeSort leB).toArray) os :=
  Any.slices_Sort_string Tryd.lays190 blk 0 cap ss w hH hblk hsz
theorem sort_none (w : World) : Calls Tryd.prog 106 #[.slice none 0 0] w fun e w' => e = .returned (.tuple #[]) ∧ w' = w :=
  Any.slices_Sort_string_none Tryd.lays190 none 0 w
theorem bytes_lt (a b : List UInt8) (h : compareBytes a b < 0) : a < b := by
  induction a generalizing b with
  | nil =>
    cases b with
    | nil => simp [compareBytes] at h
    | cons y b => exact List.Lex.nil
  | cons x a ih =>
    cases b with
    | nil => simp [compareBytes] at h
    | cons y b =>
      by_cases h1 : x < y
      · exact List.Lex.rel h1
      · by_cases h2 : y < x
        · rw [cb_gt _ _ h2] at h; omega
        · have : x = y := by
            rw [u8_lt] at h1 h2
            exact UInt8.toNat_inj.1 (by omega)
          subst this
          rw [cb_same] at h
          exact List.Lex.cons (ih _ h)
/-- The keys, as they stand in the datum, rise. -/
theorem keys_rise {A : AV} (h : Rises A) : ((strKeys (mkD A)).Pairwise fun a b => leB a b = true) := by
  show (((A.map ent).map fun p => strOf p.1).Pairwise _)
  rw [List.map_map, List.pairwise_map]
  refine (h.rise.imp_of_mem fun {p q} hp hq hlt => ?_)
  have h1 := kOf_before (h.good p hp) (h.good q hq)
  rw [decide_eq_true hlt] at h1
  have h2 : bytesBefore (keyRow p.1) (keyRow q.1) = true := h1
  rw [before_eq] at h2
  show decide (keyRow p.1 ≤ keyRow q.1) = true
  exact decide_eq_true (List.le_of_lt (bytes_lt _ _ (of_decide_eq_true h2)))
theorem keys_of {A : AV} : strKeys (mkD A) = A.map fun p => keyRow p.1 := by
  show ((A.map ent).map fun p => strOf p.1) = _
  rw [List.map_map]
  rfl
theorem keys_sorted {A : AV} {ss : List (List UInt8)} (h : Rises A) (hp : ss.Perm (strKeys (mkD A))) : ss.mergeSort leB = A.map fun p => keyRow p.1 := by
  rw [mergeSort_of_perm hp, List.mergeSort_of_pairwise (keys_rise h), keys_of]
theorem str_enc (k : List UInt8) : encStr k = .string (str k) := rfl

set_option maxHeartbeats 4000000 in
set_option maxRecDepth 100000 in
theorem keys_any {M N : Nat} {A : AV} (w : World) (hp : Pile w M N A) (hA : Rises A) (hn : A.length ≤ 1000000) :
    Calls Tryd.prog 97 #[.map (some M)] w fun e w' => ∃ v, e = .returned v ∧ w'.ownsRow w.heap.size 9 1 v A.length (A.map fun p => .string (str (keyRow p.1))) ∧ Below w.heap.size w w' := by
  have HA := Lib.hid hA
  obtain ⟨n, -, hown⟩ := hp
  have HO := Lib.hid hown
  have HSZ := Lib.hid (mkD_size A)
  have hbl := hown.lt
  clear hA
  go_enter Tryd.func97, Tryd.ntmps97
  go_wp2_with (first
    | (at_range; refine wpList_range_own _ rfl _ 89 rfl 9 3 lawS Tryd.underlying89 (plainElem (H := Unit) Tryd.prog 3) M n (mkD A) rfl hown ?_; intro w0 hrg0 hg0 hs0)
    | go_in)
  go_frame
  have hb0 : Below w.heap.size w w0 := (Below.refl _ _).grown hg0 (Nat.le_refl _) (fun j hj => by cases hj)
  clear hs0 hg0
  go_loopw [3] (fun v wr => ∃ (left : Lit → Bool) (cnt : Nat) (ss : List (List UInt8)), wr.ranges Tryd.prog 9 (plainElem (H := Unit) Tryd.prog 3) M w.heap.size n (mkD A) left cnt ∧ ss.length + cnt ≤ A.length ∧
      wr.ownsRow w.heap.size 9 1 v ss.length (ss.map encStr) ∧ Hid (Collected (mkD A) left ss) ∧ Below w.heap.size w wr)
    (fun _ wr => wr.rangeLeft M w.heap.size)
  case atStart =>
    exact ⟨_, _, [], hrg0, by rw [HSZ.out]; simp, World.ownsRow_nil _ _ _ _, Lib.hid (Collected.start _), hb0⟩
  case round =>
    obtain ⟨left, cnt, ss, hrg, hcs, hrow, hC, hnx⟩ := hrel
    go_wp2_with (first
      | (at_next; refine wpList_next_ranges _ rfl _ rfl 9 lawS (plainElem (H := Unit) Tryd.prog 3) encStr (Value.int .i64) (fun key kl hk => by obtain ⟨x, hx, _⟩ := Maps.keyOf_str Tryd.underlying9 hk; exact ⟨x, hx⟩) (fun v y hv => by obtain ⟨c, rfl, _⟩ := plainElem_int_inv Tryd.underlying3 hv; exact ⟨c, rfl⟩) M w.heap.size n _ _ _ rfl hrg ?_ ?_)
      | go_in)
    · intro hc0 hl0
      have HP := Lib.hid (hC.out.perm HO.out lawS Tryd.underlying9 hl0)
      have HS := Lib.hid (keys_sorted HA.out HP.out)
      have HL : Hid (ss.length = A.length) := Lib.hid (by have := HP.out.length_eq; rw [keys_of, List.length_map] at this; exact this)
      clear hc0 hl0
      rcases hrow.2 with ⟨rfl, hz⟩ | ⟨g, cap, cur, rfl, hbase, hb, h1, h2, h3, h4⟩
      · have hA0 : A = [] := List.length_eq_zero_iff.1 (by rw [← HL.out]; exact hz)
        subst hA0
        clear hz
        go_wp2_with fail
        refine (sort_none _).mono ?_
        rintro e w' ⟨rfl, rfl⟩
        go_wp2
        go_ret
        exact ⟨_, rfl, World.ownsRow_nil _ _ _ _, hnx⟩
      · have hH : Holds encStr wr g 0 ss.toArray := holds_of_block hb (by simpa using h4)
        have hgl : g < wr.heap.size := (Array.getElem?_eq_some_iff.1 hb).1
        have HH := Lib.hid hH
        have HB := Lib.hid hb
        have H3 := Lib.hid h3
        clear hH h4 hb h3
        go_wp2_with fail
        refine (sort_some g cap ss wr HH.out hgl (by omega)).mono ?_
        rintro e w' ⟨rfl, nn, os, hw'⟩
        have hr2 : w'.ownsRow w.heap.size 9 1 (.slice (some ⟨g, 0, none⟩) ss.length cap) ss.length (A.map fun p => .string (str (keyRow p.1))) := by
          rw [hw']
          have := ownsRow_sorted (w := wr) (n := nn) (os := os) (ts := ss.mergeSort leB) (ss := ss) (by simp) hbase HB.out h1 h2 H3.out
          rw [show (ss.mergeSort leB).map encStr = A.map fun p => .string (str (keyRow p.1)) from by rw [HS.out, List.map_map]; rfl] at this
          exact this
        have hb2 : Below w.heap.size w w' := by rw [hw']; exact hnx.grown (grownBy_sorted _) hnx.size (fun j hj => by cases hj; exact hbase)
        have HR2 := Lib.hid hr2
        clear hw' hr2
        go_wp2
        go_ret
        refine ⟨_, rfl, ?_, hb2⟩
        rw [← HL.out]
        exact HR2.out
    · intro x c kl yd yp w2 cnt2 hkey hlk hv hat hrg2 hlt hg2 hs2 hen
      obtain ⟨x', ex, rfl, _⟩ := Maps.keyOf_str Tryd.underlying9 hkey
      obtain rfl : x = x' := encStr_inj ex
      have hrow2 := hrow.kept hg2 (Or.inr (row_ne_iter hrow hrg).symm)
      have hb2 : Below w.heap.size w w2 := hnx.grown hg2 hnx.size (fun j hj => by cases hj; exact Nat.le_refl _)
      have HC2 := Lib.hid (hC.out.step hlk hat)
      have HRW := Lib.hid hrow2
      have HRG := Lib.hid hrg2
      have HLF := Lib.hid (hrg.left_eq)
      clear hs2 hv hat hkey hlk hg2 hrow2 hrow hrg2 hrg hC ex
      have HRW1 := Lib.hid (HRW.out.alloc (.cells #[encStr x] 9))
      have HRG1 := Lib.hid (HRG.out.alloc (.cells #[encStr x] 9))
      go_wp2_with (at_builtin; refine wpList_app rfl (.tmp 11) (.tmp 13) 121 rfl w.heap.size 9 1 16 Tryd.underlying121 strI _ ss.length _ rfl HRW1.out _ 1 [encStr x] rfl (one_str w2 x) rfl (by simp [Value.oneCell', encStr]) ?_ ?_ (by have := hb2.size; simp; omega) ?_)
      · unfold maxLen; omega
      · omega
      · intro v' w3 hown' hg3 hat3
        have hrg3 := HRG1.out.kept hg3 (row_ne_low HRW1.out hbl) (row_ne_iter HRW1.out HRG1.out)
        have hb3 := (hb2.alloc hb2.size _).grown hg3 (by have := hb2.size; simp; omega) (fun j hj => (HRW.out.lt j hj).1)
        clear hat3 hg3
        go_wp2
        go_roundw
        case rel =>
          exact ⟨_, cnt2, ss ++ [x], hrg3, by simp; omega, by simpa using hown', HC2, hb3⟩
        case measure => rw [hrg3.left_eq, HLF.out]; exact hlt
end Go.Proofs.YtelmlagolmabpaaDoor
namespace Go.Proofs.YtelmlagolmabpaaDoor
open Go.RowKit Go.Maps Go.Sort

theorem back_good {r : List Val} (h : GoodR r) : backR (str (keyRow r)).toList = (r, 0) := by rw [str_toList]; exact backR_yes (dec_make r 8 h.few h.good)
theorem look_at {A : AV} {k : Nat} {p : List Val × Int} (h : Rises A) (hk : A[k]? = some p) : lookA A p.1 = p.2 := by
  induction A generalizing k with
  | nil => simp at hk
  | cons x t ih =>
    obtain ⟨x, m⟩ := x
    have hx : GoodR x := h.good (x, m) (by simp)
    cases k with
    | zero =>
      simp at hk
      subst hk
      unfold lookA
      rw [if_pos (rowsF_self hx)]
    | succ k =>
      have hm := List.mem_of_getElem? (by simpa using hk)
      have := (List.pairwise_cons.1 h.rise).1 p hm
      simp only at this
      unfold lookA
      rw [if_neg (by omega)]
      exact ih h.tail (by simpa using hk)

theorem own_le {w : World} {a b : Nat} {e : TypeId} {size n : Nat} {v : Value} {xs : List Value} (h : w.ownsRow b e size v n xs) (hab : a ≤ b) : w.ownsRow a e size v n xs := by
  refine ⟨h.1, ?_⟩
  rcases h.2 with h' | ⟨g, cap, cur, h', hb, r⟩
  · exact .inl h'
  · exact .inr ⟨g, cap, cur, h', Nat.le_trans hab hb, r⟩
theorem OwnV.le {w : World} {a b : Nat} {v : Value} {l : List Cnt} (h : OwnV w b v l) (hab : a ≤ b) : OwnV w a v l := ⟨own_le h.own hab, h.rows, h.far⟩

set_option maxHeartbeats 4000000 in
set_option maxRecDepth 100000 in
theorem view_any {M N : Nat} {A : AV} (w : World) (hp : Pile w M N A) (hA : Rises A) (hn : A.length ≤ 1000000) :
    Calls Tryd.prog 74 #[.map (some M)] w fun e w' => ∃ v l, e = .returned v ∧ OwnV w' w.heap.size v l ∧ av l = A ∧ Below w.heap.size w w' := by
  have HA := Lib.hid hA
  have HP := Lib.hid hp
  clear hA
  go_enter Tryd.func74, Tryd.ntmps74
  go_wp2_with fail
  refine (keys_any _ hp HA.out hn).mono ?_
  rintro e w1 ⟨vk, rfl, hown, hb1⟩
  have HS := Lib.hid (Sl.of_own hown)
  rw [show A.length = (A.map fun p => Value.string (str (keyRow p.1))).length from by rw [List.length_map]] at HS
  clear hown hp
  generalize hks : (A.map fun p => Value.string (str (keyRow p.1))) = ks at HS
  have HKS := Lib.hid hks
  have hkl : ks.length = A.length := by rw [← hks, List.length_map]
  obtain ⟨Ak, ck, rfl, hc1, hc2, -, hcell⟩ := id HS.out
  have HC := Lib.hid hcell
  have HKL := Lib.hid hkl
  unfold maxLen at hc2
  rw [hkl] at hc1
  clear hks hcell hkl
  rw [HKL.out]
  go_wp2_with fail
  go_loopw [3, 5, 6, 7, 11] (fun out _ _ _ i wr => ∃ (k : Nat) (u : Value) (s : List Cnt), u = out ∧ k ≤ A.length ∧ i = .int .i64 k ∧ s.length = k ∧ Hid (av s = A.take k) ∧ Hid (OwnV wr w1.heap.size u s) ∧ Below w1.heap.size w1 wr) (fun _ _ _ _ i _ => A.length - (intOf i).toNat)
  case atStart => exact ⟨0, _, [], rfl, by omega, rfl, rfl, rfl, OwnV.nil w1 w1.heap.size, Below.refl _ _⟩
  case round =>
    obtain ⟨k, u, s, rfl, hk, rfl, hsl, HAV, HO, hbw⟩ := hrel
    by_cases hlt : k < A.length
    · have hx := List.getElem?_eq_getElem (l := A) hlt
      generalize A[k] = x at hx
      have HG := Lib.hid (HA.out.good x (List.mem_of_getElem? hx))
      have HLK := Lib.hid (look_at HA.out hx)
      have HT := Lib.hid (show A.take (k + 1) = A.take k ++ [x] from by rw [List.take_add_one, hx]; rfl)
      obtain ⟨g, off, rfl, hcc⟩ := HC.out (by intro h0; have := HKL.out; rw [h0] at this; simp at this; omega)
      have d1 := cell_below hbw (hcc k (.string (str (keyRow x.1))) (by rw [← HKS.out, List.getElem?_map, hx]; rfl))
      have HKY := Lib.hid (keyS HG.out)
      have HBK := Lib.hid (back_good HG.out)
      have hsz : (str (keyRow x.1)).size ≤ 4611686018427387904 := by rw [str_size]; have := keyRow_short HG.out; omega
      have HWP := Lib.hid (HP.out.below (below_trans hb1 hbw))
      have HGA := Lib.hid HA.out.good
      generalize str (keyRow x.1) = ky at d1 HKY HBK hsz
      clear hx hcc
      have k0 : (0 : Int) ≤ (k : Int) := by omega
      have k1 : (k : Int) < (A.length : Int) := by omega
      subst hsl
      have hu : Hid (∀ j, u.ownBlock = some j → j < wr.heap.size) := Lib.hid (own_lt HO.out.own)
      go_wp2_with fail
      refine (back_any2 _ _ hsz).mono ?_
      rw [HBK.out]
      rintro e w2 ⟨vb, rfl, hs2, hf2, hb2⟩
      have HS2 := Lib.hid hs2
      have HF2 := Lib.hid hf2
      obtain ⟨A2, c2, rfl, -⟩ := id hs2
      have hbw2 := below_trans hbw hb2
      obtain ⟨n2, -, hmap⟩ := HWP.out.below hb2
      clear hs2 hf2
      go_wp2_with (first
        | (at_lookup; refine wpList_lookup_own_int _ rfl _ _ 89 rfl 9 3 .i64 lawS Tryd.underlying89 Tryd.underlying3 (zeroS _) M n2 _ rfl hmap _ _ rfl HKY.out ?_; intro c hat hwc; obtain rfl := lit_inj (hat.symm.trans (mkD_at HGA.out HG.out)); rw [HLK.out]; clear hat hwc)
        | (at_builtin; refine wpList_app rfl (.tmp 20) (.tmp 26) 51 rfl w1.heap.size 99 2 32 Tryd.underlying51 cntI u s.length _ rfl ((HO.out.below hb2).alloc _).own _ 1 (Cnt.cells ⟨.slice A2 x.1.length c2, x.1, x.2⟩) rfl (one_cnt w2 ⟨.slice A2 x.1.length c2, x.1, x.2⟩) rfl (cnt_one HS2.out) (by unfold maxLen; omega) (by omega) (by have := hbw2.size; simp; omega) ?_; intro v4 w4 hown4 hg4 hat4))
      have HN : Hid (OwnV w4 w1.heap.size v4 (s ++ [⟨.slice A2 x.1.length c2, x.1, x.2⟩])) := Lib.hid (((HO.out.below hb2).alloc _).snoc hown4 hg4 hat4 (HS2.out.below (below_alloc _ _)) (fun j hj => ⟨Nat.lt_of_lt_of_le (HF2.out j hj).2 (by simp), fun e => Nat.lt_irrefl _ (Nat.lt_of_lt_of_le (hu.out j e) (HF2.out j hj).1)⟩))
      have HAN : Hid (av (s ++ [⟨.slice A2 x.1.length c2, x.1, x.2⟩]) = A.take (s.length + 1)) := Lib.hid (by rw [HT.out, ← HAV.out]; simp [av])
      have hbw4 : Below w1.heap.size w1 w4 := below_grown (hbw2.alloc hbw2.size _) hg4 (own_ge HO.out.own)
      clear hown4 hg4 hat4 hmap
      go_wp2
      go_roundw
      case rel => exact ⟨s.length + 1, _, _, rfl, by omega, by go_num, by simp, HAN.out, HN.out, hbw4⟩
      case measure => simp [intOf]; omega
    · obtain rfl : k = A.length := by omega
      go_wp2
      go_ret
      refine ⟨_, s, rfl, HO.out.le hb1.size, ?_, below_trans hb1 hbw⟩
      rw [HAV.out, List.take_of_length_le (Nat.le_refl _)]

end Go.Proofs.YtelmlagolmabpaaDoor
namespace Go.Proofs.YtelmlagolmabpaaDoor
open Go.RowKit Go.Maps

theorem addR_rises {A : AV} {r : List Val} {n : Int} (h : Rises A) (hr : GoodR r) : Rises (addR A r n).1 := by
  unfold addR
  split
  · exact h
  · split
    · exact h
    · split
      · exact rises_del h
      · exact rises_put h hr
theorem putA_len (A : AV) (r : List Val) (n : Int) : (putA A r n).length ≤ A.length + 1 := by
  induction A with
  | nil => simp [putA]
  | cons x t ih =>
    obtain ⟨x, m⟩ := x
    unfold putA
    split
    · simp
    · split
      · simp; omega
      · simp
theorem delA_len (A : AV) (r : List Val) : (delA A r).length ≤ A.length := by
  induction A with
  | nil => simp [delA]
  | cons x t ih =>
    obtain ⟨x, m⟩ := x
    unfold delA
    split
    · simp
    · simp; omega
theorem addR_len (A : AV) (r : List Val) (n : Int) : (addR A r n).1.length ≤ A.length + 1 := by
  unfold addR
  split
  · simp
  · split
    · simp
    · split
      · have := delA_len A r; simp; omega
      · exact putA_len _ _ _
theorem look_num {A : AV} (r : List Val) (h : ∀ p ∈ A, 1 ≤ p.2 ∧ p.2 ≤ 1073741824) : 0 ≤ lookA A r ∧ lookA A r ≤ 1073741824 := by
  induction A with
  | nil => simp [lookA]
  | cons x t ih =>
    obtain ⟨x, m⟩ := x
    have := h (x, m) (by simp)
    have i := ih fun p hp => h p (by simp [hp])
    simp only at this
    unfold lookA
    split
    · omega
    · exact i

def addS (l : List Cnt) (r : List Val) (n : Int) : AV × Int :=
  if chkV l ≠ 0 then ([], chkV l) else if keyErr r ≠ 0 then ([], keyErr r) else if n < -1073741824 ∨ 1073741824 < n then ([], 3)
  else if (addR (av l) r n).2 ≠ 0 then ([], (addR (av l) r n).2) else ((addR (av l) r n).1, 0)
theorem View.nil (w : World) : View w (.slice none 0 0) [] := ⟨Sl.nil_ w, nofun⟩

set_option maxHeartbeats 4000000 in
set_option maxRecDepth 10000 in
theorem cadd_any (v vr : Value) (l : List Cnt) (r : List Val) (n : Int) (w : World) (h : View w v l) (hf : FineV l) (hs : Sl w vr r.length (rowCells r)) (hfr : Fine r) (hn : -9223372036854775808 ≤ n ∧ n ≤ 9223372036854775807) (hm : Mx w) :
    Calls Tryd.prog 40 #[v, vr, .int .i64 n] w fun e w' => ∃ v' l', e = .returned (.tuple #[v', .int .i64 (addS l r n).2]) ∧ View w' v' l' ∧ av l' = (addS l r n).1 ∧ Below w.heap.size w w' := by
  have HV := Lib.hid h
  have HF := Lib.hid hf
  have HS := Lib.hid hs
  have HFR := Lib.hid hfr
  have HM := Lib.hid hm
  have HE : Hid (addS l r n = if chkV l ≠ 0 then ([], chkV l) else if keyErr r ≠ 0 then ([], keyErr r) else if n < -1073741824 ∨ 1073741824 < n then ([], 3)
    else if (addR (av l) r n).2 ≠ 0 then ([], (addR (av l) r n).2) else ((addR (av l) r n).1, 0)) := Lib.hid rfl
  have HCZ := Lib.hid (chk_zero hf)
  have HGR := Lib.hid (goodR_of hfr)
  generalize addS l r n = R at HE ⊢
  obtain ⟨Av, cv, rfl, -⟩ := id h.sl
  obtain ⟨Ar, cr, rfl, -⟩ := id hs
  clear h hf hs hfr hm
  generalize hk : chkV l = c at HE HCZ
  have HK := Lib.hid hk
  generalize hy : keyErr r = y at HE HGR
  have HY := Lib.hid hy
  clear hk hy
  go_enter Tryd.func40, Tryd.ntmps40
  go_wp2_with fail
  refine (checkView_any _ l _ HV.out HF.out HM.out).mono ?_
  rw [HK.out]
  rintro e w1 ⟨rfl, hb1⟩
  by_cases hc : c = 0
  · have HE1 := Lib.hid (HE.out.trans (if_neg (fun h => h hc)))
    have HG := Lib.hid (HCZ.out hc)
    have hc' := beqT hc
    clear HE HCZ hc
    go_wp2_with fail
    refine (key_any _ r _ (HS.out.below hb1) HFR.out (HM.out.below hb1)).mono ?_
    rintro e w2 ⟨rfl, hb2⟩
    by_cases hy : y = 0
    · have HE2 := Lib.hid (HE1.out.trans (if_neg (fun h => h hy)))
      have HR := Lib.hid (HGR.out hy)
      have HKE : Hid (keyR r = (str (keyRow r), 0)) := Lib.hid (by unfold keyR; rw [if_neg (by rw [HY.out, hy]; simp)])
      rw [HKE.out]
      clear HE1 HGR hy
      by_cases h1 : n < -1073741824
      · have EE := Lib.hid (HE2.out.trans (if_pos (.inl h1)))
        clear HE2
        go_wp2
        go_ret2
        first
          | exact ⟨.slice none 0 0, [], by rw [EE.out]; rfl, View.nil _, by rw [EE.out]; rfl, below_trans hb1 hb2⟩
          | exact ⟨.slice none 0 0, by rw [EE.out]; rfl, [], View.nil _, by rw [EE.out]; rfl, below_trans hb1 hb2⟩
      · by_cases h2 : 1073741824 < n
        · have EE := Lib.hid (HE2.out.trans (if_pos (.inr h2)))
          clear HE2
          go_wp2
          go_ret2
          first
            | exact ⟨.slice none 0 0, [], by rw [EE.out]; rfl, View.nil _, by rw [EE.out]; rfl, below_trans hb1 hb2⟩
            | exact ⟨.slice none 0 0, by rw [EE.out]; rfl, [], View.nil _, by rw [EE.out]; rfl, below_trans hb1 hb2⟩
        · have HE3 := Lib.hid (HE2.out.trans (if_neg (by omega)))
          have hb12 := below_trans hb1 hb2
          have HL := Lib.hid (look_num r HG.out.nums)
          clear HE2
          go_wp2_with fail
          refine (of_any _ l _ (HV.out.below hb12) HF.out HG.out (HM.out.below hb12)).mono ?_
          rintro e w3 ⟨M, rfl, hM, hP, hb3⟩
          go_wp2_with fail
          refine (add_any (n := n) _ hP (by omega) HG.out.rises HR.out (by have := HL.out; omega) (by omega)).mono ?_
          rintro e w4 ⟨rfl, hP4, hg4⟩
          have hb4 : Below w.heap.size w w4 := (below_trans hb12 hb3).grown hg4 (below_trans hb12 hb3).size (fun j hj => by cases hj; have := hb12.size; omega)
          have HRI := Lib.hid (addR_rises (n := n) HG.out.rises HR.out)
          have HLE := Lib.hid (addR_len (av l) r n)
          have hla : (av l).length ≤ 4096 := by have := HG.out.few; unfold av; rw [List.length_map]; exact this
          generalize addR (av l) r n = P at HE3 hP4 HRI HLE
          obtain ⟨B, d⟩ := P
          simp only at HE3 hP4 HRI HLE
          by_cases hd : d = 0
          · have EE := Lib.hid (HE3.out.trans (if_neg (fun h => h hd)))
            have hd' := beqT hd
            clear HE3 hd hP
            go_wp2_with fail
            refine (view_any _ hP4 HRI.out (by have := HLE.out; omega)).mono ?_
            rintro e w5 ⟨v5, l5, rfl, hO5, ha5, hb5⟩
            have HO5 := Lib.hid hO5.view
            have HA5 := Lib.hid ha5
            have hb6 := below_trans hb4 hb5
            clear hO5 ha5 hP4
            go_wp2
            go_ret2
            first
              | exact ⟨v5, l5, by rw [EE.out]; rfl, HO5.out, by rw [EE.out]; exact HA5.out, hb6⟩
              | exact ⟨v5, by rw [EE.out]; rfl, l5, HO5.out, by rw [EE.out]; exact HA5.out, hb6⟩
          · have EE := Lib.hid (HE3.out.trans (if_pos hd))
            have hd' := beqF hd
            clear HE3 hd hP hP4
            go_wp2
            go_ret2
            first
              | exact ⟨.slice none 0 0, [], by rw [EE.out]; rfl, View.nil _, by rw [EE.out]; rfl, hb4⟩
              | exact ⟨.slice none 0 0, by rw [EE.out]; rfl, [], View.nil _, by rw [EE.out]; rfl, hb4⟩
    · have EE := Lib.hid (HE1.out.trans (if_pos hy))
      have HKE : Hid (keyR r = (⟨#[]⟩, y)) := Lib.hid (by unfold keyR; rw [if_pos (by rw [HY.out]; exact hy), HY.out])
      have hy' := beqF hy
      rw [HKE.out]
      clear HE1 HGR hy
      go_wp2
      go_ret2
      first
        | exact ⟨.slice none 0 0, [], by rw [EE.out]; rfl, View.nil _, by rw [EE.out]; rfl, below_trans hb1 hb2⟩
        | exact ⟨.slice none 0 0, by rw [EE.out]; rfl, [], View.nil _, by rw [EE.out]; rfl, below_trans hb1 hb2⟩
  · have EE := Lib.hid (HE.out.trans (if_pos hc))
    have hc' := beqF hc
    clear HE HCZ hc
    go_wp2
    go_ret2
    first
      | exact ⟨.slice none 0 0, [], by rw [EE.out]; rfl, View.nil _, by rw [EE.out]; rfl, hb1⟩
      | exact ⟨.slice none 0 0, by rw [EE.out]; rfl, [], View.nil _, by rw [EE.out]; rfl, hb1⟩
end Go.Proofs.YtelmlagolmabpaaDoor
namespace Go.Proofs.YtelmlagolmabpaaDoor
open Go.RowKit Go.Maps

theorem row_block {w : World} {v : Value} {r : List Val} (h : Sl w v r.length (rowCells r)) (hne : rowCells r ≠ []) {k : Nat} (hk : v.ownBlock = some k) : k < w.heap.size := by
  obtain ⟨A, c, rfl, -, -, -, h3⟩ := h
  obtain ⟨b, off, rfl, hc⟩ := h3 hne
  have e : b = k := by simpa [Value.ownBlock] using hk
  subst e
  obtain ⟨x, l, hx⟩ := List.exists_cons_of_ne_nil hne
  exact World.block_lt_of_cell? w _ (hc 0 x (by rw [hx]; rfl))

set_option maxHeartbeats 4000000 in
set_option maxRecDepth 10000 in
theorem radd_any (v vr : Value) (l : List Cnt) (r : List Val) (n : Int) (w : World) (h : View w v l) (hf : FineV l) (hs : Sl w vr r.length (rowCells r)) (hfr : Fine r) (hn : -9223372036854775808 ≤ n ∧ n ≤ 9223372036854775807) :
    Calls Tryd.prog 41 #[v, vr, .int .i64 n] w fun e w' => ∃ v' l', e = .returned (.tuple #[v', .int .i64 (addS l r n).2]) ∧ View w' v' l' ∧ av l' = (addS l r n).1 ∧ Below w.heap.size w w' := by
  have HV := Lib.hid h
  have HF := Lib.hid hf
  have HS := Lib.hid hs
  have HFR := Lib.hid hfr
  have HE : Hid (addS l r n = if chkV l ≠ 0 then ([], chkV l) else if keyErr r ≠ 0 then ([], keyErr r) else if n < -1073741824 ∨ 1073741824 < n then ([], 3)
    else if (addR (av l) r n).2 ≠ 0 then ([], (addR (av l) r n).2) else ((addR (av l) r n).1, 0)) := Lib.hid rfl
  have HCZ := Lib.hid (chk_zero hf)
  have HGR := Lib.hid (goodR_of hfr)
  generalize addS l r n = R at HE ⊢
  obtain ⟨Av, cv, rfl, -⟩ := id h.sl
  obtain ⟨Ar, cr, rfl, -⟩ := id hs
  clear h hf hs hfr
  generalize hk : chkV l = c at HE HCZ
  have HK := Lib.hid hk
  generalize hy : keyErr r = y at HE HGR
  have HY := Lib.hid hy
  clear hk hy
  go_enter Tryd.func41, Tryd.ntmps41
  go_wp2_with fail
  refine (rcheckView_any _ l _ HV.out HF.out).mono ?_
  rw [HK.out]
  rintro e w1 ⟨rfl, hb1⟩
  by_cases hc : c = 0
  · have HE1 := Lib.hid (HE.out.trans (if_neg (fun h => h hc)))
    have HG := Lib.hid (HCZ.out hc)
    have hc' := beqT hc
    clear HE HCZ hc
    go_wp2_with fail
    refine (keyError_any _ r _ (HS.out.below hb1) HFR.out.small).mono ?_
    rw [HY.out]
    rintro e w2 ⟨rfl, hb2⟩
    by_cases hy : y = 0
    · have HE2 := Lib.hid (HE1.out.trans (if_neg (fun h => h hy)))
      have HR := Lib.hid (HGR.out hy)
      have hy' := beqT hy
      clear HE1 HGR hy
      by_cases h1 : n < -1073741824
      · have EE := Lib.hid (HE2.out.trans (if_pos (.inl h1)))
        clear HE2
        go_wp2
        go_ret2
        first
          | exact ⟨.slice none 0 0, [], by rw [EE.out]; rfl, View.nil _, by rw [EE.out]; rfl, below_trans hb1 hb2⟩
          | exact ⟨.slice none 0 0, by rw [EE.out]; rfl, [], View.nil _, by rw [EE.out]; rfl, below_trans hb1 hb2⟩
      · by_cases h2 : 1073741824 < n
        · have EE := Lib.hid (HE2.out.trans (if_pos (.inr h2)))
          clear HE2
          go_wp2
          go_ret2
          first
            | exact ⟨.slice none 0 0, [], by rw [EE.out]; rfl, View.nil _, by rw [EE.out]; rfl, below_trans hb1 hb2⟩
            | exact ⟨.slice none 0 0, by rw [EE.out]; rfl, [], View.nil _, by rw [EE.out]; rfl, below_trans hb1 hb2⟩
        · have HE3 := Lib.hid (HE2.out.trans (if_neg (by omega)))
          have hb12 := below_trans hb1 hb2
          have HL := Lib.hid (look_num r HG.out.nums)
          have H8 : Hid (∀ c ∈ l, c.r.length ≤ 8) := Lib.hid (fun c hc => (HG.out.rises.good (c.r, c.n) (List.mem_map.2 ⟨c, hc, rfl⟩)).few)
          clear HE2
          go_wp2_with fail
          refine (own_any _ l _ (HV.out.below hb12) HG.out.few H8.out).mono ?_
          rintro e w3 ⟨v3, l3, rfl, hO3, ha3, hb3⟩
          have HO3 := Lib.hid hO3
          have HA3 := Lib.hid ha3
          have hb13 := below_trans hb12 hb3
          have HLL : Hid (l3.length = l.length) := Lib.hid (av_len ha3)
          obtain ⟨A3, c3, rfl, -⟩ := Sl.of_own hO3.own
          clear hO3 ha3
          go_wp2_with fail
          refine (more_any _ _ l3 r n w2.heap.size _ HO3.out hb3.size (by have := HG.out.few; have := HLL.out; omega) (HS.out.below hb13)
            (fun hne k hk e => by have h1 := row_block HS.out hne hk; have h2 := own_ge HO3.out.own k e; have := hb12.size; omega)
            (by rw [HA3.out]; exact HG.out.rises) HR.out (by rw [HA3.out]; have := HL.out; omega) (by omega)).mono ?_
          rw [HA3.out]
          rintro e w4 ⟨v4, l4, rfl, hO4, ha4, hg4⟩
          have hb4 : Below w.heap.size w w4 := hb13.grown hg4 hb13.size (fun j hj => by have := own_ge HO3.out.own j hj; have := hb12.size; omega)
          have HV4 := Lib.hid hO4.view
          have HA4 := Lib.hid ha4
          clear hO4 ha4 hg4
          generalize addR (av l) r n = P at HE3 HA4
          obtain ⟨B, d⟩ := P
          simp only at HE3 HA4
          by_cases hd : d = 0
          · have EE := Lib.hid (HE3.out.trans (if_neg (fun h => h hd)))
            have hd' := beqT hd
            clear HE3 hd
            go_wp2
            go_ret2
            first
              | exact ⟨v4, l4, by rw [EE.out]; rfl, HV4.out, by rw [EE.out]; exact HA4.out, hb4⟩
              | exact ⟨v4, by rw [EE.out]; rfl, l4, HV4.out, by rw [EE.out]; exact HA4.out, hb4⟩
          · have EE := Lib.hid (HE3.out.trans (if_pos hd))
            have hd' := beqF hd
            clear HE3 hd
            go_wp2
            go_ret2
            first
              | exact ⟨.slice none 0 0, [], by rw [EE.out]; rfl, View.nil _, by rw [EE.out]; rfl, hb4⟩
              | exact ⟨.slice none 0 0, by rw [EE.out]; rfl, [], View.nil _, by rw [EE.out]; rfl, hb4⟩
    · have EE := Lib.hid (HE1.out.trans (if_pos hy))
      have hy' := beqF hy
      clear HE1 HGR hy
      go_wp2
      go_ret2
      first
        | exact ⟨.slice none 0 0, [], by rw [EE.out]; rfl, View.nil _, by rw [EE.out]; rfl, below_trans hb1 hb2⟩
        | exact ⟨.slice none 0 0, by rw [EE.out]; rfl, [], View.nil _, by rw [EE.out]; rfl, below_trans hb1 hb2⟩
  · have EE := Lib.hid (HE.out.trans (if_pos hc))
    have hc' := beqF hc
    clear HE HCZ hc
    go_wp2
    go_ret2
    first
      | exact ⟨.slice none 0 0, [], by rw [EE.out]; rfl, View.nil _, by rw [EE.out]; rfl, hb1⟩
      | exact ⟨.slice none 0 0, by rw [EE.out]; rfl, [], View.nil _, by rw [EE.out]; rfl, hb1⟩
end Go.Proofs.YtelmlagolmabpaaDoor
