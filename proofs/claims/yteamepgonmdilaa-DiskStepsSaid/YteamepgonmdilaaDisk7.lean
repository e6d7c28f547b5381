/-
  Contracts: disk.New; of the reference: OwnDisk.
-/
import Derived.Test.YteamepgonmdilaaDisk6
namespace Go.Proofs.Yteamepgonmdilaa
open Go.RowKit

def Slot.none : Slot := ⟨⟨#[]⟩, ⟨#[]⟩, false⟩
theorem madeCells_add (z : Array Value) (m : Nat) : (madeCells z (z.size + m)).toList = z.toList ++ (madeCells z m).toList := by
  apply List.ext_getElem?
  intro i
  rw [List.getElem?_append]
  simp only [madeCells, Array.toList_map, Array.toList_range, List.getElem?_map, Array.length_toList]
  by_cases h : i < z.size
  · simp [h, show i < z.size + m from by omega, Nat.mod_eq_of_lt h]
  · rw [if_neg h]
    by_cases h2 : i < z.size + m
    · simp [h2, show i - z.size < m from by omega, Nat.mod_eq_sub_mod (show z.size ≤ i by omega)]
    · simp [h2, show ¬ i - z.size < m from by omega]
theorem made_slots (n : Nat) : (madeCells (.agg #[.string ⟨#[]⟩, .string ⟨#[]⟩, .bool false] : Value).cells (n * 3)).toList = slotCells (List.replicate n Slot.none) := by
  induction n with
  | zero => simp [madeCells, slotCells]
  | succ n ih =>
    have e : (n + 1) * 3 = (Value.agg #[.string ⟨#[]⟩, .string ⟨#[]⟩, .bool false]).cells.size + n * 3 := by show _ = 3 + n * 3; omega
    rw [e, madeCells_add, ih]
    simp [slotCells, List.replicate_succ, Slot.cells, Slot.none, Value.cells]

theorem newF_make (n : Nat) (hn : n ≤ 8) : ∃ zs : Array Value, zs.toList = slotCells (List.replicate n Slot.none) ∧ zs.size = n * 3 ∧ ∀ w : World, (Instr.makeSlice 35 (.int .i64 (n : Int)) (.int .i64 (n : Int))).run Try.prog w = .ok (.slice (some ⟨w.heap.size, 0, none⟩) n n) (w.alloc (.cells zs 57)) := by
  have h : (Try.prog.info? 57).map (fun i => (i.zero, i.size, i.bytes)) = some (some (.agg #[.string ⟨#[]⟩, .string ⟨#[]⟩, .bool false]), 3, 40) := by kernel_rfl
  obtain ⟨i, hi, h1, h2, h3⟩ := info_parts h
  refine ⟨_, made_slots n, size_madeCells _ _, fun w => ?_⟩
  have := run_make (P := Try.prog) w 35 57 i _ Try.underlying35 hi h1 .i64 .i64 (n : Int) (n : Int) (by omega) (by omega) (by rw [h3]; omega) (by omega)
  rw [h2] at this
  simpa using this

def newF (n : Int) : List Slot × Int := if n < 1 ∨ 8 < n then ([], 3) else (List.replicate n.toNat Slot.none, 0)

set_option maxHeartbeats 400000 in
theorem new_any (n : Int) (w : World) : Calls Try.prog 20 #[.int .i64 n] w (DiskRet w (newF n)) := by
  by_cases hn : n < 1 ∨ 8 < n
  · have e1 := Lib.hid (show newF n = ([], 3) from if_pos hn)
    rcases hn with hn | hn
    all_goals
      go_enter Try.func20, Try.ntmps20
      go_wp2
      refine bodyPost_ret (v := .tuple #[.agg #[.slice none 0 0], .int .i64 3]) (by simp [results, Try.results20, go_sem]) rfl ?_
      rw [e1.out]
      exact ⟨_, rfl, Sl.nil_ _, fresh_nil _, below_alloc _ _⟩
  · have e1 := Lib.hid (show newF n = (List.replicate n.toNat Slot.none, 0) from if_neg hn)
    obtain ⟨m, rfl⟩ := Int.eq_ofNat_of_zero_le (show 0 ≤ n by omega)
    obtain ⟨zs, hz, hsz, hmk⟩ := newF_make m (by omega)
    have h1 : 1 ≤ m := by omega
    have h8 : m ≤ 8 := by omega
    have HZ := Lib.hid hz
    have HS := Lib.hid hsz
    clear hz hsz hn
    go_enter Try.func20, Try.ntmps20
    go_wp2
    refine bodyPost_ret (v := .tuple #[.agg #[.slice (some ⟨w.heap.size + 1, 0, none⟩) m m], .int .i64 0]) (by simp [results, Try.results20, go_sem]) rfl ?_
    rw [e1.out]
    refine ⟨_, rfl, ?_, fresh_some (by omega), ?_⟩
    · have b := new_second w 57 zs (.cells #[.slice (some ⟨w.heap.size + 1, 0, none⟩) m m] 37)
      have := Sl.block b m m (Nat.le_refl _) (by unfold maxLen; omega)
      rw [HZ.out] at this
      simpa using this
    · exact below_trans (below_alloc _ _) (below_alloc _ _)


def ownF (l : List Slot) (slot : Int) (s : Slot) : List Slot := l.mapIdx fun i x => if (i : Int) = slot then s else x
theorem ownF_take (l : List Slot) (slot : Int) (s x : Slot) (k : Nat) (hk : l[k]? = some x) : slotCells ((ownF l slot s).take (k + 1)) = slotCells ((ownF l slot s).take k) ++ (if (k : Int) = slot then s else x).cells := by
  rw [List.take_add_one]
  have : (ownF l slot s)[k]? = some (if (k : Int) = slot then s else x) := by simp [ownF, List.getElem?_mapIdx, hk]
  rw [this]
  simp [slotCells]
theorem ownF_len (l : List Slot) (slot : Int) (s : Slot) : (ownF l slot s).length = l.length := by simp [ownF]

def OwnRet (w : World) (l : List Slot) (e : Ending) (w' : World) : Prop :=
  ∃ v', e = .returned (.agg #[v']) ∧ Sl w' v' l.length (slotCells l) ∧ (∀ k, v'.ownBlock = some k → w.heap.size ≤ k) ∧ Below w.heap.size w w'

theorem four (w : World) (t0 t1 t2 t3 : TypeId) (c0 c1 c2 c3 : Array Value) :
    let W := (((w.alloc (.cells c0 t0)).alloc (.cells c1 t1)).alloc (.cells c2 t2)).alloc (.cells c3 t3)
    Blk W w.heap.size t0 c0 ∧ Blk W (w.heap.size + 1) t1 c1 ∧ Blk W (w.heap.size + 2) t2 c2 ∧ Blk W (w.heap.size + 3) t3 c3 := by
  have a0 := (((Blk.new w t0 c0).alloc (.cells c1 t1)).alloc (.cells c2 t2)).alloc (.cells c3 t3)
  have a1 := ((Blk.new (w.alloc (.cells c0 t0)) t1 c1).alloc (.cells c2 t2)).alloc (.cells c3 t3)
  have a2 := (Blk.new ((w.alloc (.cells c0 t0)).alloc (.cells c1 t1)) t2 c2).alloc (.cells c3 t3)
  have a3 := Blk.new (((w.alloc (.cells c0 t0)).alloc (.cells c1 t1)).alloc (.cells c2 t2)) t3 c3
  simp only [World.size_alloc] at a1 a2 a3
  exact ⟨a0, a1, a2, a3⟩

set_option maxHeartbeats 2000000 in
theorem ownDisk_any (v : Value) (l : List Slot) (slot : Int) (s : Slot) (w : World) (h : Sl w v l.length (slotCells l)) (hl8 : l.length ≤ 8) :
    Calls Try.prog 41 #[.agg #[v], .int .i64 slot, .agg #[.string s.safe, .string s.wait, .bool s.has]] w (OwnRet w (ownF l slot s)) := by
  have h0 := h
  obtain ⟨A, c, rfl, h1, h2, -⟩ := h
  have h := Lib.hid h0
  clear h0
  unfold maxLen at h2
  have hF := four w 37 57 37 37 #[.slice A l.length c] #[.string s.safe, .string s.wait, .bool s.has] #[.slice none 0 0] #[.slice none 0 0]
  have HF := Lib.hid hF
  have hB0 : Below w.heap.size w ((((w.alloc (.cells #[.slice A l.length c] 37)).alloc (.cells #[.string s.safe, .string s.wait, .bool s.has] 57)).alloc (.cells #[.slice none 0 0] 37)).alloc (.cells #[.slice none 0 0] 37)) :=
    below_trans (below_trans (below_trans (below_alloc _ _) (below_alloc _ _)) (below_alloc _ _)) (below_alloc _ _)
  clear hF
  go_enter Try.func41, Try.ntmps41
  go_wp2
  go_loopw [8] (fun i wr => ∃ (k : Nat) (v : Value), k ≤ l.length ∧ i = .int .i64 k ∧ Blk wr (w.heap.size + 3) 37 #[v] ∧ wr.ownsRow (w.heap.size + 4) 57 3 v k (slotCells ((ownF l slot s).take k)) ∧
      Below (w.heap.size + 3) ((((w.alloc (.cells #[.slice A l.length c] 37)).alloc (.cells #[.string s.safe, .string s.wait, .bool s.has] 57)).alloc (.cells #[.slice none 0 0] 37)).alloc (.cells #[.slice none 0 0] 37)) wr)
    (fun i _ => l.length - (intOf i).toNat)
  case atStart => exact ⟨0, _, by omega, rfl, HF.out.2.2.2, by simpa [slotCells] using World.ownsRow_nil _ _ _ _, Below.refl _ _⟩
  case round =>
    obtain ⟨k, v, hk, rfl, hv, hown, hbw⟩ := hrel
    have b0 := (hbw.block _ (by omega)).trans HF.out.1
    have b1 := (hbw.block _ (by omega)).trans HF.out.2.1
    have hsz := hv.lt
    have hBw : Below w.heap.size w wr := hB0.trans (hbw.mono (by omega))
    have x0 := Blk.cell b0 0 _ rfl
    have s0 := Blk.cell b1 0 _ rfl
    have s1 := Blk.cell b1 1 _ rfl
    have s2 := Blk.cell b1 2 _ rfl
    by_cases hlt : k < l.length
    · obtain ⟨A', cp, hvf, -⟩ := Sl.of_own hown
      subst hvf
      have x3 := hv.cell 0 _ rfl
      have f3 := hv.free 0
      obtain ⟨b, off, x, rfl, hx, hb, hc⟩ := slot_at h.out rfl hlt
      obtain ⟨c1, c2, c3⟩ := hc _ hBw
      have HX := Lib.hid hx
      have HC := Lib.hid hc
      clear hx hc
      by_cases hks : (k : Int) = slot
      · have htk := ownF_take l slot s x k HX.out
        rw [if_pos hks] at htk
        have HT := Lib.hid htk
        clear htk
        have heq : ((k : Int) == slot) = true := by simpa using hks
        clear hks
        go_wp2_with (at_builtin; refine wpList_app rfl _ _ 35 rfl (w.heap.size + 4) 57 3 40 Try.underlying35 slotI _ k _ rfl (hown.alloc _) _ 1 s.cells rfl (Sl.block (Blk.new wr 57 #[.string s.safe, .string s.wait, .bool s.has]) 1 1 (Nat.le_refl _) (by decide)) rfl ?_ ?_ ?_ ?_ ?_)
        · intro u hu; simp [Slot.cells] at hu; rcases hu with rfl | rfl | rfl <;> rfl
        · unfold maxLen; omega
        · omega
        · simp; omega
        · intro v1 w1 hown1 hgrow hat
          rw [← HT.out] at hown1
          obtain ⟨g, cap1, rfl, hg1, hg2⟩ := hown1.form (by omega)
          have y3 := (hv.alloc _).grown hgrow (fun e => by have := own_ge hown _ e; omega)
          have x3' := y3.cell 0 _ rfl
          have f3' := y3.free 0
          clear x3 f3
          go_wp2
          go_roundw
          case rel => exact ⟨k + 1, _, by omega, by go_num, y3.set_ 0 _, own_far hown1 (by simp; omega) _, ((hbw.alloc (by omega) _).grown hgrow (by simp; omega) (fun q e => by have := own_ge hown _ e; omega)).setCell (by simp) _⟩
          case measure => simp [intOf]; omega
      · have htk := ownF_take l slot s x k HX.out
        rw [if_neg hks] at htk
        have HT := Lib.hid htk
        clear htk
        have heq : ((k : Int) == slot) = false := by simpa using hks
        clear hks
        have hk0 : (0 : Int) ≤ (k : Int) := by omega
        have hk1 : (k : Int) < (l.length : Int) := by omega
        have A1 := (hown.alloc (.cells #[.string x.safe, .string x.wait, .bool x.has] 57)).drew
        have A2 := Sl.block (Blk.new wr 57 #[.string x.safe, .string x.wait, .bool x.has]).drew 1 1 (Nat.le_refl _) (by decide)
        have A3 : ∀ u ∈ x.cells, u.oneCell' = true := by intro u hu; simp [Slot.cells] at hu; rcases hu with rfl | rfl | rfl <;> rfl
        have A4 : k + 1 ≤ maxLen := by unfold maxLen; omega
        have A5 : (k + 1) * 40 ≤ 140737488355328 := by omega
        have A6 : w.heap.size + 4 ≤ (wr.alloc (.cells #[.string x.safe, .string x.wait, .bool x.has] 57)).drew.heap.size := by simp; omega
        go_wp2_with fail
        go_region_law
          ((refine step_app (by rfl) _ _ 35 (by rfl) (w.heap.size + 4) 57 3 40 Try.underlying35 slotI (.slice A' k cp) k _ (by rfl) A1 _ 1 x.cells (by rfl) A2 (by rfl) A3 A4 A5 A6 ?_
            intro v1 w1 hown1 hgrow hat
            rw [← HT.out] at hown1
            obtain ⟨g, cap1, rfl, hg1, hg2⟩ := hown1.form (by omega)
            have y3 := ((hv.alloc _).drew).grown hgrow (fun e => by have := own_ge hown _ e; omega)
            have x3' := y3.cell 0 _ rfl
            have f3' := y3.free 0))
        all_goals
          go_wp2
          go_roundw
          case rel => exact ⟨k + 1, _, by omega, by go_num, y3.set_ 0 _, own_far hown1 (by simp; omega) _, (((hbw.alloc (by omega) _).drew).grown hgrow (by simp; omega) (fun q e => by have := own_ge hown _ e; omega)).setCell (by simp) _⟩
          case measure => simp [intOf]; omega
    · obtain rfl : k = l.length := by omega
      have hfull : (ownF l slot s).take l.length = ownF l slot s := List.take_of_length_le (by rw [ownF_len]; omega)
      rw [hfull] at hown
      have b2 := (hbw.block _ (by omega)).trans HF.out.2.2.1
      have x2 := Blk.cell b2 0 _ rfl
      have f2 := Blk.free b2 0
      have hsl := Sl.of_own hown
      have hge := own_ge hown
      obtain ⟨A', cp, hvf, -⟩ := id hsl
      subst hvf
      have x3 := hv.cell 0 _ rfl
      have HG := Lib.hid hge
      clear hge
      go_wp2
      refine bodyPost_ret (v := .agg #[.slice A' l.length cp]) (by simp [results, Try.results41, go_sem, x2]) rfl ?_
      refine ⟨_, rfl, ?_, fresh_mono HG.out (by omega), hBw.setCell (by simp; omega) _⟩
      rw [ownF_len]
      exact hsl.setCell (fresh_ne HG.out (by simp)) _

end Go.Proofs.Yteamepgonmdilaa
