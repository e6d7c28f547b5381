/-
  The reference's MeetIn.
-/
import Derived.Test.YteabfalklgffmaaGreatDoorBuf32
set_option linter.unusedSimpArgs false
set_option linter.unusedVariables false
namespace Go.Proofs.YteabfalklgffmaaGreatDoor
open Go.RowKit

def meF (key : List UInt8) (t s : Int) (e : En) : En := { e with met := e.met || atE key t s e }
theorem meF_eq (key : List UInt8) (t s : Int) (e : En) : meF key t s e = if atE key t s e = true then { e with met := true } else e := by
  unfold meF
  cases h : atE key t s e
  · rw [Bool.or_false, if_neg (by simp)]
  · rw [Bool.or_true, if_pos rfl]
theorem map_step {f : En → En} {l : List En} {m : Nat} {x : En} (h : l[m]? = some x) : ((l.take m).map f ++ l.drop m).set m (f x) = (l.take (m + 1)).map f ++ l.drop (m + 1) := by
  obtain ⟨h1, h2⟩ := List.getElem?_eq_some_iff.1 h
  have e1 : ((l.take m).map f).length = m := by rw [List.length_map, List.length_take]; omega
  rw [List.set_append_right _ _ (by omega), e1, Nat.sub_self, List.drop_eq_getElem_cons h1, List.set_cons_zero, List.take_add_one, h, List.map_append]
  simp
theorem map_at {f : En → En} {l : List En} {m : Nat} {x : En} (h : l[m]? = some x) : ((l.take m).map f ++ l.drop m)[m]? = some x := by
  obtain ⟨h1, h2⟩ := List.getElem?_eq_some_iff.1 h
  have e1 : ((l.take m).map f).length = m := by rw [List.length_map, List.length_take]; omega
  rw [List.getElem?_append_right (by omega), e1, Nat.sub_self, List.getElem?_drop, Nat.add_zero, h]
theorem ens_set (l : List Ent) (k : Nat) (y : Ent) : ens (l.set k y) = (ens l).set k y.e := by unfold ens; rw [List.map_set]
theorem buf_ext {a b : Buf} {f : En → En} (hl : a.limit = b.limit) (hn : a.runs.length = b.runs.length) (h : ∀ q, q < b.runs.length + 1 → ens (a.part q).2 = (ens (b.part q).2).map f) (hne : ∀ l ∈ b.bu.runs, l ≠ []) : a.bu = siftB b.bu fun e => [f e] := by
  have e1 : ∀ l : List En, l.flatMap (fun e => [f e]) = l.map f := fun l => by induction l with
    | nil => rfl
    | cons a t ih => rw [List.flatMap_cons, ih]; rfl
  unfold siftB
  simp only [e1]
  have e2 : (a.runs.map fun p => ens p.2) = (b.runs.map fun p => ens p.2).map fun l => l.map f := by
    apply List.ext_getElem
    · simp [hn]
    · intro i h1 h2
      have hia : i < a.runs.length := by simpa using h1
      have hib : i < b.runs.length := by omega
      have := h (i + 1) (by omega)
      simp only [Buf.part, List.getElem?_eq_getElem hia, List.getElem?_eq_getElem hib, Option.getD_some] at this
      simpa using this
  have e3 : ens a.mem = (ens b.mem).map f := h 0 (by omega)
  show Bu.mk a.limit (ens a.mem) (a.runs.map fun p => ens p.2) = Bu.mk b.limit ((ens b.mem).map f) (((b.runs.map fun p => ens p.2).map fun l => l.map f).filter fun l => !l.isEmpty)
  rw [hl, e2, e3]
  congr 1
  refine (List.filter_eq_self.2 fun l hl => ?_).symm
  obtain ⟨l0, h0, rfl⟩ := List.mem_map.1 hl
  have := hne l0 h0
  cases l0 <;> simp_all
theorem meetB_eq (b : Bu) (key : List UInt8) (t s : Int) : meetB b key t s = siftB b fun e => [meF key t s e] := by
  unfold meetB
  congr 1
  funext e
  rw [meF_eq]
/-- How far the marks are set. -/
structure Marked (b1 b' : Buf) (f : En → En) (j m : Nat) : Prop where
  limit : b'.limit = b1.limit
  vm : b'.vm = b1.vm
  vr : b'.vr = b1.vr
  num : b'.runs.length = b1.runs.length
  val : ∀ q, (b'.part q).1 = (b1.part q).1
  low : ∀ q, q < j → ens (b'.part q).2 = (ens (b1.part q).2).map f
  high : ∀ q, j < q → ens (b'.part q).2 = ens (b1.part q).2
  at_ : ens (b'.part j).2 = ((ens (b1.part j).2).take m).map f ++ (ens (b1.part j).2).drop m
theorem Marked.next {b1 b' : Buf} {f : En → En} {j m : Nat} (h : Marked b1 b' f j m) (hm : (b1.part j).2.length ≤ m) : Marked b1 b' f (j + 1) 0 :=
  ⟨h.limit, h.vm, h.vr, h.num, h.val, fun q hq => by
    rcases Nat.lt_or_ge q j with h1 | h1
    · exact h.low q h1
    · obtain rfl : q = j := by omega
      rw [h.at_, List.take_of_length_le (by rw [ens_len]; exact hm), List.drop_of_length_le (by rw [ens_len]; exact hm), List.append_nil], fun q hq => h.high q (by omega), by rw [h.high (j + 1) (by omega)]; simp⟩
theorem Marked.step {b1 b' : Buf} {f : En → En} {j m : Nat} {x : Ent} (h : Marked b1 b' f j m) (hj : j < b1.runs.length + 1) (hx : (b'.part j).2[m]? = some x) (hm : m < (b1.part j).2.length) (hf : ∀ e, f e = { e with met := (f e).met }) :
    Marked b1 (b'.mark j m (metE (f x.e).met x)) f j (m + 1) := by
  have hp := mark_part b' j m (metE (f x.e).met x) (by rw [h.num]; exact hj)
  have h0 : (ens (b1.part j).2)[m]? = some x.e := by
    have h1 := ens_at hx
    rw [h.at_] at h1
    have h2 : (ens (b1.part j).2)[m]? = some ((ens (b1.part j).2)[m]'(by rw [ens_len]; exact hm)) := List.getElem?_eq_getElem _
    rw [map_at h2] at h1
    rw [h2, h1]
  refine ⟨by rw [mark_limit]; exact h.limit, by rw [mark_vm]; exact h.vm, by rw [mark_vr]; exact h.vr, by rw [mark_len]; exact h.num, fun q => ?_, fun q hq => ?_, fun q hq => ?_, ?_⟩
  · rw [hp q]
    split
    · rename_i e; subst e; exact h.val q
    · exact h.val q
  · rw [hp q, if_neg (by omega)]; exact h.low q hq
  · rw [hp q, if_neg (by omega)]; exact h.high q hq
  · rw [hp j, if_pos rfl]
    show ens ((b'.part j).2.set m (metE (f x.e).met x)) = _
    rw [ens_set, h.at_, show (metE (f x.e).met x).e = f x.e from (hf x.e).symm]
    exact map_step h0
theorem Marked.orig {b1 b' : Buf} {f : En → En} {j m : Nat} (h : Marked b1 b' f j m) : (b'.part j).2.length = (b1.part j).2.length := by
  have := congrArg List.length h.at_
  rw [ens_len, List.length_append, List.length_map, List.length_take, List.length_drop, ens_len] at this
  omega
theorem Marked.start (b1 : Buf) (f : En → En) : Marked b1 b1 f 0 0 := ⟨rfl, rfl, rfl, rfl, fun _ => rfl, fun _ h => absurd h (by omega), fun _ _ => rfl, by simp⟩

theorem own_frozen {w : World} {base g n cap : Nat} {e : TypeId} {size : Nat} {xs : List Value} (h : w.ownsRow base e size (.slice (some ⟨g, 0, none⟩) n cap) n xs) (i : Nat) : w.frozen? ⟨g, i, none⟩ = false := by
  rcases h.2 with ⟨h', -⟩ | ⟨g', cap', cur, h', -, hg, -⟩
  · cases h'
  · injection h' with e1
    injection e1 with e1
    injection e1 with e1
    subst e1
    exact Blk.free hg i
theorem OwnBuf.partOwn {w : World} {base : Nat} {b : Buf} (h : OwnBuf w base b) (j : Nat) (hj : j < b.runs.length + 1) : OwnE w base (b.part j).1 (b.part j).2 := by
  cases j with
  | zero => exact h.mem
  | succ i =>
    have hi : i < b.runs.length := by omega
    simp only [Buf.part, List.getElem?_eq_getElem hi, Option.getD_some]
    exact h.runs _ (List.getElem_mem hi)
theorem part_len' (b : Buf) (k : Nat) : (b.part k).2.length ≤ b.bu.all.length := by
  have h1 : ∀ (L : List (List En)) (l : List En), l ∈ L → l.length ≤ L.flatten.length := by
    intro L l hl
    obtain ⟨a, c, rfl⟩ := List.append_of_mem hl
    simp
    omega
  by_cases hk : k < b.runs.length + 1
  · have := h1 b.bu.parts (ens (b.part k).2) (by rw [parts_eq]; exact List.mem_map.2 ⟨k, List.mem_range.2 hk, rfl⟩)
    rw [ens_len] at this
    exact this
  · obtain ⟨j, rfl⟩ : ∃ j, k = j + 1 := ⟨k - 1, by omega⟩
    simp [Buf.part, List.getElem?_eq_none (l := b.runs) (i := j) (by omega)]

set_option maxHeartbeats 16000000 in
set_option maxRecDepth 10000 in
theorem meetIn_any (b : Buf) (key : List UInt8) (t s : Int) (w : World) (hb : b.ok w) (hf : b.fit) (hg : GoodB b.bu) :
    Calls Tryz.prog 11 #[b.agg, .string (str key), .int .i64 t, .int .i64 s] w fun e w' => ∃ b' : Buf, e = .returned b'.agg ∧ OwnBuf w' w.heap.size b' ∧ b'.bu = meetB b.bu key t s ∧ Below w.heap.size w w' := by
  have HOW := Lib.hid (fun w' (h : Below w.heap.size w w') => ownEvery_any b w' (hb.below h) hf hg)
  have HME : Hid (meetB b.bu key t s = siftB b.bu fun e => [meF key t s e]) := Lib.hid (meetB_eq _ _ _ _)
  have HFU := Lib.hid hg.full
  have HFM : Hid (∀ e, (meF key t s e).met = (e.met || atE key t s e)) := Lib.hid (fun _ => rfl)
  have HFE : Hid (∀ e, meF key t s e = { e with met := (meF key t s e).met }) := Lib.hid (fun _ => rfl)
  have hfew := hg.few
  have hrn := good_runs hg
  have hpl0 : ∀ (c : Buf), c.bu = b.bu → ∀ k, (c.part k).2.length ≤ 4096 := fun c hc k => by
    have h1 := part_len' c k
    rw [hc] at h1
    omega
  have HPL := Lib.hid hpl0
  generalize meetB b.bu key t s = SL at HME ⊢
  generalize meF key t s = F at HME HFM HFE
  obtain ⟨Av, cv, hvb, -⟩ := id hb.mem.sl
  obtain ⟨Ar, cr, hvr, -⟩ := id hb.sl
  unfold Buf.agg at HOW ⊢
  rw [hvb, hvr] at HOW
  rw [hvb, hvr]
  have B0 := new_first w 25 #[.int .i64 b.limit, .slice Av b.mem.length cv, .slice Ar b.runs.length cr] (.cells #[.int .i64 0, .slice none 0 0, .slice none 0 0] 25)
  have HK1 := Lib.hid (new_second w 25 #[.int .i64 0, .slice none 0 0, .slice none 0 0] (.cells #[.int .i64 b.limit, .slice Av b.mem.length cv, .slice Ar b.runs.length cr] 25))
  have hB := below_trans (below_alloc w (.cells #[.int .i64 b.limit, .slice Av b.mem.length cv, .slice Ar b.runs.length cr] 25)) (below_alloc _ (.cells #[.int .i64 0, .slice none 0 0, .slice none 0 0] 25))
  have y0 := B0.cell 0 _ rfl
  have y1 := B0.cell 1 _ rfl
  have y2 := B0.cell 2 _ rfl
  clear hb hf hg hvb hvr B0 hfew hpl0
  go_enter Tryz.func11, Tryz.ntmps11
  go_wp2_with fail
  refine (HOW.out _ hB).mono ?_
  rintro e w1 ⟨b1, rfl, hob1, hbu1, hb1, hsz1⟩
  have hbw1 := below_trans hB hb1
  have hob1' : OwnBuf w1 (w.heap.size + 2) b1 := hob1.low (by simp)
  obtain ⟨A, c, hvr1, hr1, hr2, -⟩ := id hob1'.ok.sl
  obtain ⟨Am1, cm1, hvm1, -⟩ := id hob1'.ok.mem.sl
  have HVR := Lib.hid hvr1
  have HVM := Lib.hid hvm1
  have HB1 := Lib.hid hob1'
  have HBU := Lib.hid hbu1
  have HP1 := Lib.hid (HPL.out b1 hbu1)
  have hrn1 : b1.runs.length ≤ 4096 := by
    have h1 := congrArg (fun u => u.runs.length) hbu1
    simp only [Buf.bu, List.length_map] at h1
    omega
  rw [hvr1, hvm1]
  have k1 := (HK1.out.below hb1).alloc (.cells #[.int .i64 b1.limit, .slice Am1 b1.mem.length cm1, .slice A b1.runs.length c] 25)
  have KO := Blk.new w1 25 #[.int .i64 b1.limit, .slice Am1 b1.mem.length cm1, .slice A b1.runs.length c]
  have HKR0 := Lib.hid k1
  have HKO0 := Lib.hid KO
  have HO0 := Lib.hid (hob1'.below (below_alloc w1 (.cells #[.int .i64 b1.limit, .slice Am1 b1.mem.length cm1, .slice A b1.runs.length c] 25)))
  have hbw0 := below_trans hbw1 (below_alloc w1 (.cells #[.int .i64 b1.limit, .slice Am1 b1.mem.length cm1, .slice A b1.runs.length c] 25))
  have hw1 : w.heap.size + 2 ≤ w1.heap.size := by have := hb1.size; simp at this; omega
  clear y0 y1 y2 hob1 hob1' hvr1 hvm1 hbu1 HPL HOW HK1 hB hb1 k1 KO hsz1
  go_wp2_with fail
  go_loopw [10, 11, 12] (fun i _ _ wr => ∃ (j : Nat) (n : Int) (b' : Buf), i = .int .i64 n ∧ Hid (n = (j : Int) - 1) ∧ j ≤ b1.runs.length + 1 ∧ Hid (Marked b1 b' F j 0) ∧ Hid (OwnBuf wr (w.heap.size + 2) b') ∧ Hid (Blk wr w1.heap.size 25 #[.int .i64 b1.limit, .slice Am1 b1.mem.length cm1, .slice A b1.runs.length c]) ∧ Hid (Blk wr (w.heap.size + 1) 25 #[.int .i64 0, .slice none 0 0, .slice none 0 0]) ∧ Below w.heap.size w wr) (fun i _ _ _ => b1.runs.length + 2 - (intOf i + 2).toNat)
  case atStart => exact ⟨0, -1, b1, rfl, Lib.hid (by omega), by omega, Lib.hid (Marked.start b1 F), HO0, HKO0, HKR0, hbw0⟩
  case round =>
    clear HO0 HKO0 HKR0 hbw0
    obtain ⟨j, n, b', rfl, HN, hj, HMA, HOB, HKO, HKR, hbw⟩ := hrel
    have y1 := HKO.out.cell 1 _ rfl
    have y2 := HKO.out.cell 2 _ rfl
    by_cases hlt : j < b1.runs.length + 1
    · have hpl := HP1.out j
      have hcase : Hid ((j = 0 ∧ .slice Am1 b1.mem.length cm1 = (b1.part j).1) ∨ (1 ≤ j ∧ ∃ g off, A = some ⟨g, off, none⟩ ∧ wr.cell? ⟨g, off + (j - 1), none⟩ = some (b1.part j).1)) := Lib.hid (by
        rcases Nat.eq_zero_or_pos j with h | h
        · subst h; exact .inl ⟨rfl, HVM.out.symm⟩
        · obtain ⟨i, rfl⟩ : ∃ i, j = i + 1 := ⟨j - 1, by omega⟩
          have hi' : i < b'.runs.length := by rw [HMA.out.num]; omega
          have hx := List.getElem?_eq_getElem hi'
          have hv := HMA.out.val (i + 1)
          generalize b'.runs[i] = p at hx
          obtain ⟨g, off, hA, -, hc⟩ := one_at HOB.out.ok.sl ((HMA.out.vr).trans HVR.out) (k := i) (u := p.1) (by rw [List.getElem?_map, hx]; rfl)
          refine .inr ⟨by omega, g, off, hA, ?_⟩
          rw [Nat.add_sub_cancel, hc wr (Below.refl _ _), ← hv]
          simp [Buf.part, hx])
      have HOR := Lib.hid HMA.out.orig
      obtain ⟨A5, c5, hv5, hq1, hq2, -⟩ := id (HOB.out.ok.part j).sl
      unfold maxLen at hq2
      rw [HMA.out.val, HMA.out.orig] at hv5
      rw [HMA.out.orig] at hq1
      rw [hv5] at hcase
      have HV5 := Lib.hid hv5
      generalize hLN : (b1.part j).2.length = LN at hpl hv5 hq1 hcase HV5
      have HLN := Lib.hid hLN
      have hn1 : n < (b1.runs.length : Int) := by have := HN.out; omega
      have hw : IntKind.i64.wrap (n + 1) = n + 1 := by rw [IntKind.wrap_i64]; have := HN.out; omega
      clear hv5 hLN
      rcases hcase.out with ⟨hj0, hvm⟩ | ⟨hj1, g, off, hA, d1⟩
      · have hneg : ¬ 0 ≤ n := by have := HN.out; omega
        rw [hvm] at y1
        clear hvm
        go_wp2_with fail
        clear y1 y2
        go_loopw [12] (fun k wr => ∃ (m : Nat) (b2 : Buf), k = .int .i64 m ∧ m ≤ LN ∧ Hid (Marked b1 b2 F j m) ∧ Hid (OwnBuf wr (w.heap.size + 2) b2) ∧ Hid (Blk wr w1.heap.size 25 #[.int .i64 b1.limit, .slice Am1 b1.mem.length cm1, .slice A b1.runs.length c]) ∧ Hid (Blk wr (w.heap.size + 1) 25 #[.int .i64 0, .slice none 0 0, .slice none 0 0]) ∧ Below w.heap.size w wr) (fun k _ => LN - (intOf k).toNat)
        case atStart => exact ⟨0, b', rfl, by omega, HMA, HOB, HKO, HKR, hbw⟩
        case round =>
          clear HMA HOB HKO HKR hbw hcase
          obtain ⟨m, b2, rfl, hm, HMA, HOB, HKO, HKR, hbw⟩ := hrel
          by_cases hml : m < LN
          · have hm' : m < (b2.part j).2.length := by rw [HMA.out.orig, HLN.out]; exact hml
            have hx := List.getElem?_eq_getElem hm'
            generalize (b2.part j).2[m] = x at hx
            have hv2 : (b2.part j).1 = .slice A5 LN c5 := by rw [HMA.out.val]; exact HV5.out
            have HPT := Lib.hid (HOB.out.ok.part j)
            obtain ⟨g5, off5, hA5, -, hc⟩ := ent_at HPT.out.sl hv2 hx
            subst hA5
            have hfo : off5 = 0 := by
              have := (HOB.out.partOwn j (by rw [HMA.out.num]; exact hlt)).own
              rw [hv2] at this
              rcases this.2 with ⟨h', -⟩ | ⟨g', cap', cur, h', -⟩
              · cases h'
              · injection h' with e1 e2 e3
                injection e1 with e1
                injection e1
            have HFO := Lib.hid hfo
            have hv20 : (b2.part j).1 = .slice (some ⟨g5, 0, none⟩) LN c5 := by rw [hv2, hfo]
            have HIX : Hid (m * 5 + 4 = off5 + m * 5 + 4) := Lib.hid (by omega)
            clear hfo
            have HMK := Lib.hid (fun μ => OwnBuf.mark μ HOB.out (by rw [HMA.out.num]; exact hlt) hv20 (by rw [HMA.out.orig, HLN.out]) hx)
            have HST := Lib.hid (HMA.out.step hlt hx (by rw [HLN.out]; exact hml) HFE.out)
            obtain ⟨Ax, cx, hvx, -⟩ := id (HPT.out.rows x (List.mem_of_getElem? hx))
            have HAT := Lib.hid (fun w' => rat_any x key t s w')
            have HFX := Lib.hid (HFM.out x.e)
            have hg5 : w.heap.size + 2 ≤ g5 ∧ g5 < w1.heap.size := by
              have h1 := (HB1.out.partOwn j hlt).own
              exact h1.lt g5 (by rw [HV5.out]; rfl)
            generalize atE key t s x.e = AT at HAT HFX
            unfold Ent.agg at HAT
            rw [hvx] at HAT
            simp only [hvx] at hc
            obtain ⟨d0, d1, d2, d3, d4⟩ := hc _ (Below.refl _ _)
            have HC := Lib.hid hc
            have k0 : (0 : Int) ≤ (m : Int) := by omega
            have k1 : (m : Int) < (LN : Int) := by omega
            have hwm : IntKind.i64.wrap ((m : Int) + 1) = (m : Int) + 1 := by rw [IntKind.wrap_i64]; omega
            have hfz : ∀ W, Below wr.heap.size wr W → W.frozen? ⟨g5, off5 + m * 5 + 4, none⟩ = false := fun W hW => by
              have h1 := (HOB.out.partOwn j (by rw [HMA.out.num]; exact hlt)).own
              rw [hv20, HMA.out.orig, HLN.out] at h1
              exact own_frozen (own_below h1 hW) _
            have HFZ := Lib.hid hfz
            have HX := Lib.hid hx
            clear hx hc hvx hfz
            cases hmet : x.e.met with
            | true =>
              have hfm : (F x.e).met = true := by rw [HFX.out, hmet]; rfl
              rw [hmet] at d4
              rw [hfm] at HST
              have f4 := HFZ.out wr (Below.refl _ _)
              obtain ⟨hm1, hm2⟩ := HMK.out true
              rw [HIX.out] at hm1 hm2
              have HM1 := Lib.hid hm1
              have HKO2 := Lib.hid (HKO.out.grown hm2 (fun e => by injection e with e; omega))
              have HKR2 := Lib.hid (HKR.out.grown hm2 (fun e => by injection e with e; omega))
              have hbw2 := below_grown hbw hm2 (fun k hk => by injection hk with hk; omega)
              clear hmet hfm hm1 hm2 HMK HKO HKR HMA HOB HPT HFX HAT HC
              go_wp2
              go_roundw
              case rel => exact ⟨m + 1, _, by go_num, by omega, HST, HM1, HKO2, HKR2, hbw2⟩
              case measure => simp [intOf]; omega
            | false =>
              have hfm : (F x.e).met = AT := by rw [HFX.out, hmet]; rfl
              rw [hmet] at d4
              rw [hfm] at HST
              rw [hmet] at HAT
              clear hmet hfm HFX
              go_wp2_with fail
              refine (HAT.out _).mono ?_
              rintro e w5 ⟨rfl, hb5⟩
              have hbw5 := below_trans hbw hb5
              obtain ⟨hm1, hm2⟩ := OwnBuf.mark AT (HOB.out.below hb5) (by rw [HMA.out.num]; exact hlt) hv20 (by rw [HMA.out.orig, HLN.out]) HX.out
              rw [HIX.out] at hm1 hm2
              have HM1 := Lib.hid hm1
              have HKO2 := Lib.hid ((HKO.out.below hb5).grown hm2 (fun e => by injection e with e; omega))
              have HKR2 := Lib.hid ((HKR.out.below hb5).grown hm2 (fun e => by injection e with e; omega))
              have hbw2 := below_grown hbw5 hm2 (fun k hk => by injection hk with hk; omega)
              have f4 := HFZ.out w5 hb5
              obtain ⟨e0, e1, e2, e3, e4⟩ := HC.out w5 hb5
              clear d0 d1 d2 d3 d4 hm1 hm2 HMK HKO HKR HMA HOB HPT HAT HC hb5 hbw5
              go_wp2
              go_roundw
              case rel => exact ⟨m + 1, _, by go_num, by omega, HST, HM1, HKO2, HKR2, hbw2⟩
              case measure => simp [intOf]; omega
          · obtain rfl : m = LN := by omega
            have HMN := Lib.hid (HMA.out.next (by rw [HLN.out]; omega))
            have hk1 : ¬ (m : Int) < (m : Int) := by omega
            go_wp2
            go_roundw
            case rel => exact ⟨j + 1, _, _, rfl, Lib.hid (by have := HN.out; omega), by omega, HMN, HOB, HKO, HKR, hbw⟩
            case measure => have := HN.out; simp [intOf]; omega
      · have hpos : 0 ≤ n := by have := HN.out; omega
        have hnat : n.toNat = j - 1 := by have := HN.out; omega
        subst hA
        go_wp2_with fail
        clear y1 y2 d1
        go_loopw [12] (fun k wr => ∃ (m : Nat) (b2 : Buf), k = .int .i64 m ∧ m ≤ LN ∧ Hid (Marked b1 b2 F j m) ∧ Hid (OwnBuf wr (w.heap.size + 2) b2) ∧ Hid (Blk wr w1.heap.size 25 #[.int .i64 b1.limit, .slice Am1 b1.mem.length cm1, .slice (some ⟨g, off, none⟩) b1.runs.length c]) ∧ Hid (Blk wr (w.heap.size + 1) 25 #[.int .i64 0, .slice none 0 0, .slice none 0 0]) ∧ Below w.heap.size w wr) (fun k _ => LN - (intOf k).toNat)
        case atStart => exact ⟨0, b', rfl, by omega, HMA, HOB, HKO, HKR, hbw⟩
        case round =>
          clear HMA HOB HKO HKR hbw hcase
          obtain ⟨m, b2, rfl, hm, HMA, HOB, HKO, HKR, hbw⟩ := hrel
          by_cases hml : m < LN
          · have hm' : m < (b2.part j).2.length := by rw [HMA.out.orig, HLN.out]; exact hml
            have hx := List.getElem?_eq_getElem hm'
            generalize (b2.part j).2[m] = x at hx
            have hv2 : (b2.part j).1 = .slice A5 LN c5 := by rw [HMA.out.val]; exact HV5.out
            have HPT := Lib.hid (HOB.out.ok.part j)
            obtain ⟨g5, off5, hA5, -, hc⟩ := ent_at HPT.out.sl hv2 hx
            subst hA5
            have hfo : off5 = 0 := by
              have := (HOB.out.partOwn j (by rw [HMA.out.num]; exact hlt)).own
              rw [hv2] at this
              rcases this.2 with ⟨h', -⟩ | ⟨g', cap', cur, h', -⟩
              · cases h'
              · injection h' with e1 e2 e3
                injection e1 with e1
                injection e1
            have HFO := Lib.hid hfo
            have hv20 : (b2.part j).1 = .slice (some ⟨g5, 0, none⟩) LN c5 := by rw [hv2, hfo]
            have HIX : Hid (m * 5 + 4 = off5 + m * 5 + 4) := Lib.hid (by omega)
            clear hfo
            have HMK := Lib.hid (fun μ => OwnBuf.mark μ HOB.out (by rw [HMA.out.num]; exact hlt) hv20 (by rw [HMA.out.orig, HLN.out]) hx)
            have HST := Lib.hid (HMA.out.step hlt hx (by rw [HLN.out]; exact hml) HFE.out)
            obtain ⟨Ax, cx, hvx, -⟩ := id (HPT.out.rows x (List.mem_of_getElem? hx))
            have HAT := Lib.hid (fun w' => rat_any x key t s w')
            have HFX := Lib.hid (HFM.out x.e)
            have hg5 : w.heap.size + 2 ≤ g5 ∧ g5 < w1.heap.size := by
              have h1 := (HB1.out.partOwn j hlt).own
              exact h1.lt g5 (by rw [HV5.out]; rfl)
            generalize atE key t s x.e = AT at HAT HFX
            unfold Ent.agg at HAT
            rw [hvx] at HAT
            simp only [hvx] at hc
            obtain ⟨d0, d1, d2, d3, d4⟩ := hc _ (Below.refl _ _)
            have HC := Lib.hid hc
            have k0 : (0 : Int) ≤ (m : Int) := by omega
            have k1 : (m : Int) < (LN : Int) := by omega
            have hwm : IntKind.i64.wrap ((m : Int) + 1) = (m : Int) + 1 := by rw [IntKind.wrap_i64]; omega
            have hfz : ∀ W, Below wr.heap.size wr W → W.frozen? ⟨g5, off5 + m * 5 + 4, none⟩ = false := fun W hW => by
              have h1 := (HOB.out.partOwn j (by rw [HMA.out.num]; exact hlt)).own
              rw [hv20, HMA.out.orig, HLN.out] at h1
              exact own_frozen (own_below h1 hW) _
            have HFZ := Lib.hid hfz
            have HX := Lib.hid hx
            clear hx hc hvx hfz
            cases hmet : x.e.met with
            | true =>
              have hfm : (F x.e).met = true := by rw [HFX.out, hmet]; rfl
              rw [hmet] at d4
              rw [hfm] at HST
              have f4 := HFZ.out wr (Below.refl _ _)
              obtain ⟨hm1, hm2⟩ := HMK.out true
              rw [HIX.out] at hm1 hm2
              have HM1 := Lib.hid hm1
              have HKO2 := Lib.hid (HKO.out.grown hm2 (fun e => by injection e with e; omega))
              have HKR2 := Lib.hid (HKR.out.grown hm2 (fun e => by injection e with e; omega))
              have hbw2 := below_grown hbw hm2 (fun k hk => by injection hk with hk; omega)
              clear hmet hfm hm1 hm2 HMK HKO HKR HMA HOB HPT HFX HAT HC
              go_wp2
              go_roundw
              case rel => exact ⟨m + 1, _, by go_num, by omega, HST, HM1, HKO2, HKR2, hbw2⟩
              case measure => simp [intOf]; omega
            | false =>
              have hfm : (F x.e).met = AT := by rw [HFX.out, hmet]; rfl
              rw [hmet] at d4
              rw [hfm] at HST
              rw [hmet] at HAT
              clear hmet hfm HFX
              go_wp2_with fail
              refine (HAT.out _).mono ?_
              rintro e w5 ⟨rfl, hb5⟩
              have hbw5 := below_trans hbw hb5
              obtain ⟨hm1, hm2⟩ := OwnBuf.mark AT (HOB.out.below hb5) (by rw [HMA.out.num]; exact hlt) hv20 (by rw [HMA.out.orig, HLN.out]) HX.out
              rw [HIX.out] at hm1 hm2
              have HM1 := Lib.hid hm1
              have HKO2 := Lib.hid ((HKO.out.below hb5).grown hm2 (fun e => by injection e with e; omega))
              have HKR2 := Lib.hid ((HKR.out.below hb5).grown hm2 (fun e => by injection e with e; omega))
              have hbw2 := below_grown hbw5 hm2 (fun k hk => by injection hk with hk; omega)
              have f4 := HFZ.out w5 hb5
              obtain ⟨e0, e1, e2, e3, e4⟩ := HC.out w5 hb5
              clear d0 d1 d2 d3 d4 hm1 hm2 HMK HKO HKR HMA HOB HPT HAT HC hb5 hbw5
              go_wp2
              go_roundw
              case rel => exact ⟨m + 1, _, by go_num, by omega, HST, HM1, HKO2, HKR2, hbw2⟩
              case measure => simp [intOf]; omega
          · obtain rfl : m = LN := by omega
            have HMN := Lib.hid (HMA.out.next (by rw [HLN.out]; omega))
            have hk1 : ¬ (m : Int) < (m : Int) := by omega
            go_wp2
            go_roundw
            case rel => exact ⟨j + 1, _, _, rfl, Lib.hid (by have := HN.out; omega), by omega, HMN, HOB, HKO, HKR, hbw⟩
            case measure => have := HN.out; simp [intOf]; omega
    · obtain rfl : j = b1.runs.length + 1 := by omega
      have hn1 : ¬ n < (b1.runs.length : Int) := by have := HN.out; omega
      have z0 := HKO.out.cell 0 _ rfl
      have z1 := HKO.out.cell 1 _ rfl
      have z2 := HKO.out.cell 2 _ rfl
      have f0 := HKR.out.free 0
      have f1 := HKR.out.free 1
      have f2 := HKR.out.free 2
      have r0 := HKR.out.cell 0 _ rfl
      have r1 := HKR.out.cell 1 _ rfl
      have r2 := HKR.out.cell 2 _ rfl
      have Z := HKR.out.set3 (.int .i64 b1.limit) (.slice Am1 b1.mem.length cm1) (.slice A b1.runs.length c)
      have x0 := Z.cell 0 (.int .i64 b1.limit) rfl
      have x1 := Z.cell 1 (.slice Am1 b1.mem.length cm1) rfl
      have x2 := Z.cell 2 (.slice A b1.runs.length c) rfl
      have HO8 := Lib.hid ((HOB.out.set3 (g := w.heap.size + 1) (by omega) (.int .i64 b1.limit) (.slice Am1 b1.mem.length cm1) (.slice A b1.runs.length c)).low (base' := w.heap.size) (by omega))
      have hb8 := below_set3 hbw (g := w.heap.size + 1) (by omega) (.int .i64 b1.limit) (.slice Am1 b1.mem.length cm1) (.slice A b1.runs.length c)
      have HSX : Hid (b'.bu = SL) := Lib.hid (by rw [HME.out, ← HBU.out]; exact buf_ext HMA.out.limit HMA.out.num HMA.out.low (by rw [HBU.out]; exact HFU.out))
      have HAG : Hid (Value.agg #[.int .i64 b1.limit, .slice Am1 b1.mem.length cm1, .slice A b1.runs.length c] = .agg #[.int .i64 b'.limit, b'.vm, b'.vr]) := Lib.hid (by rw [HMA.out.limit, HMA.out.vm, HMA.out.vr, HVM.out, HVR.out])
      clear Z y1 y2
      go_wp2
      refine bodyPost_ret (v := .agg #[.int .i64 b1.limit, .slice Am1 b1.mem.length cm1, .slice A b1.runs.length c]) (by simp [results, Tryz.results11, go_sem, x0, x1, x2]) rfl ?_
      exact ⟨b', by rw [HAG.out], HO8.out, HSX.out, hb8⟩

end Go.Proofs.YteabfalklgffmaaGreatDoor
