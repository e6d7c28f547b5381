/-
  The reference's OwnBuffer.
-/
import Derived.Test.YteabfalklgffmaaDoorBuf16
set_option linter.unusedSimpArgs false
set_option linter.unusedVariables false
namespace Go.Proofs.YteabfalklgffmaaDoor
open Go.RowKit

def keepF (keep : En → Bool) (e : En) : List En := if keep e = true then [e] else []
theorem keepF_true {keep : En → Bool} {e : En} (h : keep e = true) : keepF keep e = [e] := if_pos h
theorem keepF_false {keep : En → Bool} {e : En} (h : keep e = false) : keepF keep e = [] := if_neg (by rw [h]; simp)
theorem bu_mem0 {b b' : Buf} {f : En → List En} (h : b'.bu = siftK b f 0) (v : Value) (o : List Ent) (ho : ens o = (ens b.mem).flatMap f) : (⟨b'.limit, v, o, b'.vr, b'.runs⟩ : Buf).bu = siftK b f 1 := by
  rw [siftK_one]
  have h1 : b'.limit = b.limit := congrArg Bu.limit h
  have h2 : (b'.runs.map fun p => ens p.2) = [] := (congrArg Bu.runs h).trans (by simp [siftK])
  show Bu.mk b'.limit (ens o) (b'.runs.map fun p => ens p.2) = _
  rw [h1, h2, ho]
theorem bu_skip {b b' : Buf} {f : En → List En} {j : Nat} {p : Value × List Ent} (h : b'.bu = siftK b f (j + 1)) (hx : b.runs[j]? = some p) (ho : (ens p.2).flatMap f = []) : b'.bu = siftK b f (j + 2) := by
  rw [siftK_succ b f hx, if_pos ho, List.append_nil, h]
  rfl
theorem bu_more {b b' : Buf} {f : En → List En} {j : Nat} {p : Value × List Ent} (h : b'.bu = siftK b f (j + 1)) (hx : b.runs[j]? = some p) (v v' : Value) (o : List Ent) (ho : ens o = (ens p.2).flatMap f) (hne : (ens p.2).flatMap f ≠ []) : (⟨b'.limit, b'.vm, b'.mem, v', b'.runs ++ [(v, o)]⟩ : Buf).bu = siftK b f (j + 2) := by
  rw [siftK_succ b f hx, if_neg hne]
  have h1 : b'.limit = b.limit := congrArg Bu.limit h
  have h2 : (b'.runs.map fun p => ens p.2) = (siftK b f (j + 1)).runs := congrArg Bu.runs h
  have h3 : ens b'.mem = (siftK b f (j + 1)).mem := congrArg Bu.mem h
  show Bu.mk b'.limit (ens b'.mem) ((b'.runs ++ [(v, o)]).map fun p => ens p.2) = _
  rw [h1, List.map_append, h2, h3]
  simp [ho]

set_option maxHeartbeats 16000000 in
set_option maxRecDepth 10000 in
theorem ownBuffer_any (g : Nat) (cb : Array Value) (keep : En → Bool) (b : Buf) (w : World) (hb : b.ok w) (hl : b.bu.all.length ≤ 1000000) (hrl : b.runs.length ≤ 1000000) (hr : ∀ k, ∀ x ∈ (b.part k).2, x.e.r.length ≤ 4398046511104)
    (eg : ∀ (args : Array Value) (W : World), (callFunc g args).run Tryd.prog W = .ok (.enter g args) W)
    (hw : ∀ (x : Ent) (W : World), Below w.heap.size w W → Sl W x.v x.e.r.length (rowCells x.e.r) → Calls Tryd.prog g (#[x.agg] ++ cb) W fun e w2 => e = .returned (.bool (keep x.e)) ∧ Below W.heap.size W w2) :
    Calls Tryd.prog 31 #[b.agg, .func (.func g) #[] cb] w fun e w' => ∃ b', e = .returned b'.agg ∧ OwnBuf w' (w.heap.size + 3) b' ∧ b'.bu = siftB b.bu (keepF keep) ∧ Below w.heap.size w w' ∧ w.heap.size + 3 ≤ w'.heap.size := by
  have HO := Lib.hid hb
  have HR := Lib.hid hr
  have HW := Lib.hid hw
  have HL := Lib.hid (fun j k (h : j < b.runs.length + 1) => Nat.le_trans (pre_take b h k) hl)
  have HSO := Lib.hid (siftK_all b (keepF keep))
  obtain ⟨A, c, hvr, hr1, hr2, -⟩ := id hb.sl
  unfold maxLen at hr2
  have HVR := Lib.hid hvr
  have B0 := new_first w 25 #[.int .i64 b.limit, b.vm, b.vr] (.cells #[.int .i64 0, .slice none 0 0, .slice none 0 0] 25)
  have B1 := new_second w 25 #[.int .i64 0, .slice none 0 0, .slice none 0 0] (.cells #[.int .i64 b.limit, b.vm, b.vr] 25)
  have HK0 := Lib.hid (B0.alloc (.cells #[.int .i64 b.limit, .slice none 0 0, .slice none 0 0] 25))
  have HK1 := Lib.hid (B1.alloc (.cells #[.int .i64 b.limit, .slice none 0 0, .slice none 0 0] 25))
  have HK2 := Lib.hid (show Blk (((w.alloc (.cells #[.int .i64 b.limit, b.vm, b.vr] 25)).alloc (.cells #[.int .i64 0, .slice none 0 0, .slice none 0 0] 25)).alloc (.cells #[.int .i64 b.limit, .slice none 0 0, .slice none 0 0] 25)) (w.heap.size + 1 + 1) 25 #[.int .i64 b.limit, .slice none 0 0, .slice none 0 0] from by
    have := Blk.new ((w.alloc (.cells #[.int .i64 b.limit, b.vm, b.vr] 25)).alloc (.cells #[.int .i64 0, .slice none 0 0, .slice none 0 0] 25)) 25 #[.int .i64 b.limit, .slice none 0 0, .slice none 0 0]
    simpa using this)
  have hB := below_trans (below_trans (below_alloc w (.cells #[.int .i64 b.limit, b.vm, b.vr] 25)) (below_alloc _ (.cells #[.int .i64 0, .slice none 0 0, .slice none 0 0] 25))) (below_alloc _ (.cells #[.int .i64 b.limit, .slice none 0 0, .slice none 0 0] 25))
  have y0 := HK0.out.cell 0 _ rfl
  clear hb hl hr hvr hw B0 B1
  unfold Buf.agg
  go_enter Tryd.func31, Tryd.ntmps31
  go_wp2_with fail
  go_loopw [6, 7, 8, 9, 10] (fun i _ _ _ _ wr => ∃ (j : Nat) (n : Int) (b' : Buf), i = .int .i64 n ∧ Hid (n = (j : Int) - 1) ∧ j ≤ b.runs.length + 1 ∧ Hid (b'.bu = siftK b (keepF keep) j) ∧ Hid (b'.runs.length ≤ j) ∧ Hid (OwnBuf wr (w.heap.size + 3) b') ∧ Hid (Blk wr (w.heap.size + 1 + 1) 25 #[.int .i64 b.limit, b'.vm, b'.vr]) ∧ Hid (Blk wr w.heap.size 25 #[.int .i64 b.limit, b.vm, b.vr]) ∧ Hid (Blk wr (w.heap.size + 1) 25 #[.int .i64 0, .slice none 0 0, .slice none 0 0]) ∧ Below w.heap.size w wr) (fun i _ _ _ _ _ => b.runs.length + 2 - (intOf i + 2).toNat)
  case atStart => exact ⟨0, -1, ⟨b.limit, .slice none 0 0, [], .slice none 0 0, []⟩, rfl, Lib.hid (by omega), by omega, Lib.hid rfl, Lib.hid (by simp), Lib.hid (OwnBuf.empty _ _ _), HK2, HK0, HK1, hB⟩
  case round =>
    clear HK0 HK1 HK2 hB y0
    obtain ⟨j, n, b', rfl, HN, hj, HBU, HRL, HOB, HKO, HKP, HKR, hbw⟩ := hrel
    have y1 := HKP.out.cell 1 _ rfl
    have y2 := HKP.out.cell 2 _ rfl
    rw [HVR.out] at y2
    by_cases hlt : j < b.runs.length + 1
    · have HPL := Lib.hid (HR.out j)
      have HPE := Lib.hid (HO.out.part j)
      have hcase : (j = 0 ∧ b.vm = (b.part j).1) ∨ (1 ≤ j ∧ ∃ g off, A = some ⟨g, off, none⟩ ∧ ∀ w', Below w.heap.size w w' → w'.cell? ⟨g, off + (j - 1), none⟩ = some (b.part j).1) := by
        rcases Nat.eq_zero_or_pos j with h | h
        · subst h; exact .inl ⟨rfl, rfl⟩
        · obtain ⟨i, rfl⟩ : ∃ i, j = i + 1 := ⟨j - 1, by omega⟩
          have hx := List.getElem?_eq_getElem (l := b.runs) (i := i) (by omega)
          generalize b.runs[i] = p at hx
          obtain ⟨g, off, hA, -, hc⟩ := one_at HO.out.sl HVR.out (k := i) (u := p.1) (by rw [List.getElem?_map, hx]; rfl)
          exact .inr ⟨by omega, g, off, hA, fun w' hw => by rw [Nat.add_sub_cancel, hc w' hw]; simp [Buf.part, hx]⟩
      have HRJ := Lib.hid (fun i (h : j = i + 1) => show b.runs[i]? = some (b.part j) from by subst h; rw [List.getElem?_eq_getElem (by omega)]; simp [Buf.part, show i < b.runs.length by omega])
      have hpl : (b.part j).2.length ≤ 1000000 := by have h := HL.out j (b.part j).2.length hlt; rw [List.length_append, List.length_take, ens_len] at h; omega
      have HMJ := Lib.hid (fun (h : j = 0) => show ens b.mem = ens (b.part j).2 from by subst h; rfl)
      generalize b.part j = p at HPL HPE hcase HRJ HMJ hpl
      obtain ⟨pv, pl⟩ := p
      simp only at HPL HPE hcase HMJ hpl
      obtain ⟨A5, c5, rfl, hq1, hq2, -⟩ := id HPE.out.sl
      unfold maxLen at hq2
      have hn1 : n < (b.runs.length : Int) := by have := HN.out; omega
      have hw : IntKind.i64.wrap (n + 1) = n + 1 := by rw [IntKind.wrap_i64]; have := HN.out; omega
      have hcase' : Hid ((j = 0 ∧ b.vm = (Value.slice A5 pl.length c5)) ∨ (1 ≤ j ∧ ∃ g off, A = some ⟨g, off, none⟩ ∧ ∀ w', Below w.heap.size w w' → w'.cell? ⟨g, off + (j - 1), none⟩ = some (Value.slice A5 pl.length c5))) := Lib.hid hcase
      clear hcase
      rcases hcase'.out with ⟨hj0, hvm⟩ | ⟨hj1, g, off, hA, hc⟩
      · have hneg : ¬ 0 ≤ n := by have := HN.out; omega
        rw [hvm] at y1
        clear hvm
        go_wp2_with fail
        clear y1 y2
        obtain ⟨W1, hW1⟩ : ∃ W1, W1 = wr := ⟨_, rfl⟩
        subst hW1
        go_loopw [8, 9, 10] (fun own k _ wr => ∃ (m : Nat) (v : Value) (o : List Ent), v = own ∧ k = .int .i64 m ∧ m ≤ pl.length ∧ Hid (ens o = ((ens pl).take m).flatMap (keepF keep)) ∧ Hid (o.length ≤ m) ∧ Hid (OwnE wr W1.heap.size v o) ∧ Below W1.heap.size W1 wr) (fun _ k _ _ => pl.length - (intOf k).toNat)
        case atStart => exact ⟨0, _, [], rfl, rfl, by omega, Lib.hid (by simp [ens]), Lib.hid (by simp), Lib.hid (OwnE.nil _ _), Below.refl _ _⟩
        case round =>
          obtain ⟨m, v, o, rfl, rfl, hm, HE, HOL, HOW, hbi⟩ := hrel
          have hbq := below_trans hbw hbi
          by_cases hml : m < pl.length
          · have hx := List.getElem?_eq_getElem (l := pl) hml
            generalize pl[m] = x at hx
            have hmem := List.mem_of_getElem? hx
            have HTK := Lib.hid (ens_take hx)
            obtain ⟨g5, off5, rfl, -, hc⟩ := ent_at HPE.out.sl rfl hx
            obtain ⟨Ax, cx, hvx, -⟩ := id (HPE.out.rows x hmem)
            have HSX := Lib.hid (HPE.out.rows x hmem)
            have hxl := HPL.out x hmem
            have HWX := Lib.hid (HW.out x wr hbq (HSX.out.below hbq))
            unfold Ent.agg at HWX
            rw [hvx] at HWX HSX
            simp only [hvx] at hc
            clear hvx
            obtain ⟨d0, d1, d2, d3, d4⟩ := hc _ hbq
            have HC := Lib.hid hc
            clear hx hmem hc
            have k0 : (0 : Int) ≤ (m : Int) := by omega
            have k1 : (m : Int) < (pl.length : Int) := by omega
            have hwm : IntKind.i64.wrap ((m : Int) + 1) = (m : Int) + 1 := by rw [IntKind.wrap_i64]; omega
            go_wp2_with fail
            refine HWX.out.mono ?_
            rintro e w2 ⟨rfl, hb2⟩
            have hbi2 := below_trans hbi hb2
            have hbq2 := below_trans hbq hb2
            have HOW2 := Lib.hid (HOW.out.below hb2)
            obtain ⟨e0, e1, e2, e3, e4⟩ := HC.out _ hbq2
            have HSX2 := Lib.hid (HSX.out.below hbq2)
            have HWS := hbi2.size
            clear hb2 d0 d1 d2 d3 d4 HWX
            cases hk : keep x.e with
            | false =>
              have HE2 : Hid (ens o = ((ens pl).take (m + 1)).flatMap (keepF keep)) := Lib.hid (by rw [HTK.out, List.flatMap_append, ← HE.out]; simp [keepF_false hk])
              clear hk
              go_wp2
              go_roundw
              case rel => exact ⟨m + 1, v, o, rfl, by go_num, by omega, HE2, Lib.hid (Nat.le_succ_of_le HOL.out), HOW2, hbi2⟩
              case measure => simp [intOf]; omega
            | true =>
              have HE2 : Hid (ens o ++ [x.e] = ((ens pl).take (m + 1)).flatMap (keepF keep)) := Lib.hid (by rw [HTK.out, List.flatMap_append, ← HE.out]; simp [keepF_true hk])
              have HX3 := Lib.hid (Blk.new w2 28 #[.string (str x.e.key), .int .i64 x.e.t, .int .i64 x.e.s, .slice Ax x.e.r.length cx, .bool x.e.met])
              have q3 := HX3.out.cell 3 _ rfl
              have hol := HOL.out
              clear hk
              go_wp2_with fail
              refine (copy_wide _ x.e.r _ (HSX2.out.below (below_alloc _ _)) hxl).mono ?_
              rintro e w4 ⟨cv, rfl, hcv, hcf, hb4⟩
              obtain ⟨Ac, cc, rfl, -⟩ := id hcv
              have hb24 := below_trans (below_alloc w2 _) hb4
              have HX4 := Lib.hid (HX3.out.below hb4)
              have f3 := HX4.out.free 3
              have q4 := HX4.out.cell 3 _ rfl
              have Z := HX4.out.set_ 3 (.slice Ac x.e.r.length cc)
              have z0 := Z.cell 0 (.string (str x.e.key)) rfl
              have z1 := Z.cell 1 (.int .i64 x.e.t) rfl
              have z2 := Z.cell 2 (.int .i64 x.e.s) rfl
              have z3 := Z.cell 3 (.slice Ac x.e.r.length cc) rfl
              have z4 := Z.cell 4 (.bool x.e.met) rfl
              have hsz4 : w2.heap.size < w4.heap.size := HX4.out.lt
              have H5 := (HOW2.out.below hb24).setFar (p := ⟨w2.heap.size, 3, none⟩) (fun k hk e => by have := (HOW2.out.range (.inl hk)).2; have e' : k = w2.heap.size := e; omega) (fun c hc k hk e => by have := (HOW2.out.range (.inr ⟨c, hc, hk⟩)).2; have e' : k = w2.heap.size := e; omega) (.slice Ac x.e.r.length cc)
              have S5 := sl_set hcv (p := ⟨w2.heap.size, 3, none⟩) (fun _ k hk e => by have := (hcf k hk).1; have e' : k = w2.heap.size := e; simp at this; omega) (.slice Ac x.e.r.length cc)
              have H6 := Lib.hid (H5.alloc (.cells #[.string (str x.e.key), .int .i64 x.e.t, .int .i64 x.e.s, (.slice Ac x.e.r.length cc), .bool x.e.met] 28))
              have S6 := Lib.hid (S5.below (below_alloc _ (.cells #[.string (str x.e.key), .int .i64 x.e.t, .int .i64 x.e.s, (.slice Ac x.e.r.length cc), .bool x.e.met] 28)))
              have hb6 := ((below_trans hbi2 hb24).setCell (p := ⟨w2.heap.size, 3, none⟩) (by show W1.heap.size ≤ w2.heap.size; exact HWS) (.slice Ac x.e.r.length cc)).trans ((below_alloc _ (.cells #[.string (str x.e.key), .int .i64 x.e.t, .int .i64 x.e.s, (.slice Ac x.e.r.length cc), .bool x.e.met] 28)).mono (by simp; omega))
              have HB6 := Lib.hid hb6
              have HCV := Lib.hid (fun k (hk : (Value.slice Ac x.e.r.length cc).ownBlock = some k) => show W1.heap.size ≤ k ∧ k < w4.heap.size ∧ v.ownBlock ≠ some k from ⟨by have := (hcf k hk).1; simp at this; omega, (hcf k hk).2, fun e => by have := (HOW2.out.range (.inl e)).2; have := (hcf k hk).1; simp at this; omega⟩)
              have hbs : W1.heap.size ≤ ((w4.setCell ⟨w2.heap.size, 3, none⟩ (.slice Ac x.e.r.length cc)).alloc (.cells #[.string (str x.e.key), .int .i64 x.e.t, .int .i64 x.e.s, (.slice Ac x.e.r.length cc), .bool x.e.met] 28)).heap.size := by simp; omega
              have HBS := Lib.hid hbs
              have HS1 := Lib.hid (one_ent (w4.setCell ⟨w2.heap.size, 3, none⟩ (.slice Ac x.e.r.length cc)) ⟨(.slice Ac x.e.r.length cc), x.e⟩)
              rw [World.size_setCell] at HS1
              have HON := Lib.hid (ent_one (c := ⟨(.slice Ac x.e.r.length cc), x.e⟩) hcv)
              clear hb4 hb24 hb6 H5 S5 Z q3 hcv hcf hbs e0 e1 e2 e3 e4
              go_wp2_with (at_builtin; refine wpList_app rfl (.tmp 50) (.tmp 52) 22 rfl W1.heap.size 28 5 64 Tryd.underlying22 entI _ o.length _ rfl H6.out.own _ 1 (Ent.cells ⟨(.slice Ac x.e.r.length cc), x.e⟩) rfl HS1.out rfl HON.out ?_ ?_ HBS.out ?_)
              · unfold maxLen; omega
              · omega
              · intro v7 w7 hown7 hg7 hat7
                have H7 := Lib.hid (H6.out.snoc (c := ⟨(.slice Ac x.e.r.length cc), x.e⟩) hown7 hg7 (by rw [World.size_alloc, World.size_setCell]; exact hat7) S6.out (fun k hk => by
                  obtain ⟨h1, h2, h3⟩ := HCV.out k hk
                  exact ⟨h1, by simp; omega, h3⟩))
                have hb7 := below_grown HB6.out hg7 (own_ge H6.out.own)
                have HL7 : Hid ((o ++ [(⟨(.slice Ac x.e.r.length cc), x.e⟩ : Ent)]).length ≤ m + 1) := Lib.hid (by simp; omega)
                have HE7 : Hid (ens (o ++ [(⟨(.slice Ac x.e.r.length cc), x.e⟩ : Ent)]) = ((ens pl).take (m + 1)).flatMap (keepF keep)) := Lib.hid (by rw [ens_snoc]; exact HE2.out)
                clear hown7 hg7 hat7
                go_wp2
                go_roundw
                case rel => exact ⟨m + 1, v7, _, rfl, by go_num, by omega, HE7, HL7, H7, hb7⟩
                case measure => simp [intOf]; omega
          · obtain rfl : m = pl.length := by omega
            have HKO2 := Lib.hid (HKO.out.below hbi)
            have HKP2 := Lib.hid (HKP.out.below hbi)
            have HKR2 := Lib.hid (HKR.out.below hbi)
            have HOB2 := Lib.hid (HOB.out.below hbi)
            have hW1 : w.heap.size + 1 + 1 < W1.heap.size := HKO.out.lt
            have HAP := Lib.hid (fun k (hk : EBlk v o k) => HOB.out.apart HOW.out (Nat.le_refl _) hk)
            subst hj0
            have hn0 : n < 0 := by have := HN.out; omega
            have HE2 : Hid (ens o = (ens b.mem).flatMap (keepF keep)) := Lib.hid (by rw [HE.out, HMJ.out rfl, List.take_of_length_le (by rw [ens_len]; omega)])
            obtain ⟨Ao, co, rfl, -⟩ := Sl.of_own HOW.out.own
            have f1 := HKO2.out.free 1
            have q1 := HKO2.out.cell 1 _ rfl
            have HK3 := Lib.hid (HKO2.out.set_ 1 (.slice Ao o.length co))
            have HK4 := Lib.hid (HKP2.out.far (p := ⟨w.heap.size + 1 + 1, 1, none⟩) (by show w.heap.size ≠ w.heap.size + 1 + 1; omega) (.slice Ao o.length co))
            have HK5 := Lib.hid (HKR2.out.far (p := ⟨w.heap.size + 1 + 1, 1, none⟩) (by show w.heap.size + 1 ≠ w.heap.size + 1 + 1; omega) (.slice Ao o.length co))
            have HO3 := Lib.hid ((HOB2.out.setFar (p := ⟨w.heap.size + 1 + 1, 1, none⟩) (by show w.heap.size + 1 + 1 < w.heap.size + 3; omega) (.slice Ao o.length co)).setMem ((HOW.out.set (p := ⟨w.heap.size + 1 + 1, 1, none⟩) hW1 (.slice Ao o.length co)).low (by omega)) (fun k hk => (HAP.out k hk).2))
            have hb3 := hbq.setCell (p := ⟨w.heap.size + 1 + 1, 1, none⟩) (by show w.heap.size ≤ w.heap.size + 1 + 1; omega) (.slice Ao o.length co)
            have HBU3 := Lib.hid (bu_mem0 HBU.out (.slice Ao o.length co) o HE2.out)
            go_wp2
            go_roundw
            case rel => exact ⟨1, _, _, rfl, Lib.hid (by have := HN.out; omega), by omega, HBU3, Lib.hid (Nat.le_succ_of_le HRL.out), HO3, HK3, HK4, HK5, hb3⟩
            case measure => have := HN.out; simp [intOf]; omega
      · have hpos : 0 ≤ n := by have := HN.out; omega
        have hnat : n.toNat = j - 1 := by have := HN.out; omega
        subst hA
        have d1 := hc _ hbw
        clear hc
        go_wp2_with fail
        clear y1 y2 d1
        obtain ⟨W1, hW1⟩ : ∃ W1, W1 = wr := ⟨_, rfl⟩
        subst hW1
        go_loopw [8, 9, 10] (fun own k _ wr => ∃ (m : Nat) (v : Value) (o : List Ent), v = own ∧ k = .int .i64 m ∧ m ≤ pl.length ∧ Hid (ens o = ((ens pl).take m).flatMap (keepF keep)) ∧ Hid (o.length ≤ m) ∧ Hid (OwnE wr W1.heap.size v o) ∧ Below W1.heap.size W1 wr) (fun _ k _ _ => pl.length - (intOf k).toNat)
        case atStart => exact ⟨0, _, [], rfl, rfl, by omega, Lib.hid (by simp [ens]), Lib.hid (by simp), Lib.hid (OwnE.nil _ _), Below.refl _ _⟩
        case round =>
          obtain ⟨m, v, o, rfl, rfl, hm, HE, HOL, HOW, hbi⟩ := hrel
          have hbq := below_trans hbw hbi
          by_cases hml : m < pl.length
          · have hx := List.getElem?_eq_getElem (l := pl) hml
            generalize pl[m] = x at hx
            have hmem := List.mem_of_getElem? hx
            have HTK := Lib.hid (ens_take hx)
            obtain ⟨g5, off5, rfl, -, hc⟩ := ent_at HPE.out.sl rfl hx
            obtain ⟨Ax, cx, hvx, -⟩ := id (HPE.out.rows x hmem)
            have HSX := Lib.hid (HPE.out.rows x hmem)
            have hxl := HPL.out x hmem
            have HWX := Lib.hid (HW.out x wr hbq (HSX.out.below hbq))
            unfold Ent.agg at HWX
            rw [hvx] at HWX HSX
            simp only [hvx] at hc
            clear hvx
            obtain ⟨d0, d1, d2, d3, d4⟩ := hc _ hbq
            have HC := Lib.hid hc
            clear hx hmem hc
            have k0 : (0 : Int) ≤ (m : Int) := by omega
            have k1 : (m : Int) < (pl.length : Int) := by omega
            have hwm : IntKind.i64.wrap ((m : Int) + 1) = (m : Int) + 1 := by rw [IntKind.wrap_i64]; omega
            go_wp2_with fail
            refine HWX.out.mono ?_
            rintro e w2 ⟨rfl, hb2⟩
            have hbi2 := below_trans hbi hb2
            have hbq2 := below_trans hbq hb2
            have HOW2 := Lib.hid (HOW.out.below hb2)
            obtain ⟨e0, e1, e2, e3, e4⟩ := HC.out _ hbq2
            have HSX2 := Lib.hid (HSX.out.below hbq2)
            have HWS := hbi2.size
            clear hb2 d0 d1 d2 d3 d4 HWX
            cases hk : keep x.e with
            | false =>
              have HE2 : Hid (ens o = ((ens pl).take (m + 1)).flatMap (keepF keep)) := Lib.hid (by rw [HTK.out, List.flatMap_append, ← HE.out]; simp [keepF_false hk])
              clear hk
              go_wp2
              go_roundw
              case rel => exact ⟨m + 1, v, o, rfl, by go_num, by omega, HE2, Lib.hid (Nat.le_succ_of_le HOL.out), HOW2, hbi2⟩
              case measure => simp [intOf]; omega
            | true =>
              have HE2 : Hid (ens o ++ [x.e] = ((ens pl).take (m + 1)).flatMap (keepF keep)) := Lib.hid (by rw [HTK.out, List.flatMap_append, ← HE.out]; simp [keepF_true hk])
              have HX3 := Lib.hid (Blk.new w2 28 #[.string (str x.e.key), .int .i64 x.e.t, .int .i64 x.e.s, .slice Ax x.e.r.length cx, .bool x.e.met])
              have q3 := HX3.out.cell 3 _ rfl
              have hol := HOL.out
              clear hk
              go_wp2_with fail
              refine (copy_wide _ x.e.r _ (HSX2.out.below (below_alloc _ _)) hxl).mono ?_
              rintro e w4 ⟨cv, rfl, hcv, hcf, hb4⟩
              obtain ⟨Ac, cc, rfl, -⟩ := id hcv
              have hb24 := below_trans (below_alloc w2 _) hb4
              have HX4 := Lib.hid (HX3.out.below hb4)
              have f3 := HX4.out.free 3
              have q4 := HX4.out.cell 3 _ rfl
              have Z := HX4.out.set_ 3 (.slice Ac x.e.r.length cc)
              have z0 := Z.cell 0 (.string (str x.e.key)) rfl
              have z1 := Z.cell 1 (.int .i64 x.e.t) rfl
              have z2 := Z.cell 2 (.int .i64 x.e.s) rfl
              have z3 := Z.cell 3 (.slice Ac x.e.r.length cc) rfl
              have z4 := Z.cell 4 (.bool x.e.met) rfl
              have hsz4 : w2.heap.size < w4.heap.size := HX4.out.lt
              have H5 := (HOW2.out.below hb24).setFar (p := ⟨w2.heap.size, 3, none⟩) (fun k hk e => by have := (HOW2.out.range (.inl hk)).2; have e' : k = w2.heap.size := e; omega) (fun c hc k hk e => by have := (HOW2.out.range (.inr ⟨c, hc, hk⟩)).2; have e' : k = w2.heap.size := e; omega) (.slice Ac x.e.r.length cc)
              have S5 := sl_set hcv (p := ⟨w2.heap.size, 3, none⟩) (fun _ k hk e => by have := (hcf k hk).1; have e' : k = w2.heap.size := e; simp at this; omega) (.slice Ac x.e.r.length cc)
              have H6 := Lib.hid (H5.alloc (.cells #[.string (str x.e.key), .int .i64 x.e.t, .int .i64 x.e.s, (.slice Ac x.e.r.length cc), .bool x.e.met] 28))
              have S6 := Lib.hid (S5.below (below_alloc _ (.cells #[.string (str x.e.key), .int .i64 x.e.t, .int .i64 x.e.s, (.slice Ac x.e.r.length cc), .bool x.e.met] 28)))
              have hb6 := ((below_trans hbi2 hb24).setCell (p := ⟨w2.heap.size, 3, none⟩) (by show W1.heap.size ≤ w2.heap.size; exact HWS) (.slice Ac x.e.r.length cc)).trans ((below_alloc _ (.cells #[.string (str x.e.key), .int .i64 x.e.t, .int .i64 x.e.s, (.slice Ac x.e.r.length cc), .bool x.e.met] 28)).mono (by simp; omega))
              have HB6 := Lib.hid hb6
              have HCV := Lib.hid (fun k (hk : (Value.slice Ac x.e.r.length cc).ownBlock = some k) => show W1.heap.size ≤ k ∧ k < w4.heap.size ∧ v.ownBlock ≠ some k from ⟨by have := (hcf k hk).1; simp at this; omega, (hcf k hk).2, fun e => by have := (HOW2.out.range (.inl e)).2; have := (hcf k hk).1; simp at this; omega⟩)
              have hbs : W1.heap.size ≤ ((w4.setCell ⟨w2.heap.size, 3, none⟩ (.slice Ac x.e.r.length cc)).alloc (.cells #[.string (str x.e.key), .int .i64 x.e.t, .int .i64 x.e.s, (.slice Ac x.e.r.length cc), .bool x.e.met] 28)).heap.size := by simp; omega
              have HBS := Lib.hid hbs
              have HS1 := Lib.hid (one_ent (w4.setCell ⟨w2.heap.size, 3, none⟩ (.slice Ac x.e.r.length cc)) ⟨(.slice Ac x.e.r.length cc), x.e⟩)
              rw [World.size_setCell] at HS1
              have HON := Lib.hid (ent_one (c := ⟨(.slice Ac x.e.r.length cc), x.e⟩) hcv)
              clear hb4 hb24 hb6 H5 S5 Z q3 hcv hcf hbs e0 e1 e2 e3 e4
              go_wp2_with (at_builtin; refine wpList_app rfl (.tmp 50) (.tmp 52) 22 rfl W1.heap.size 28 5 64 Tryd.underlying22 entI _ o.length _ rfl H6.out.own _ 1 (Ent.cells ⟨(.slice Ac x.e.r.length cc), x.e⟩) rfl HS1.out rfl HON.out ?_ ?_ HBS.out ?_)
              · unfold maxLen; omega
              · omega
              · intro v7 w7 hown7 hg7 hat7
                have H7 := Lib.hid (H6.out.snoc (c := ⟨(.slice Ac x.e.r.length cc), x.e⟩) hown7 hg7 (by rw [World.size_alloc, World.size_setCell]; exact hat7) S6.out (fun k hk => by
                  obtain ⟨h1, h2, h3⟩ := HCV.out k hk
                  exact ⟨h1, by simp; omega, h3⟩))
                have hb7 := below_grown HB6.out hg7 (own_ge H6.out.own)
                have HL7 : Hid ((o ++ [(⟨(.slice Ac x.e.r.length cc), x.e⟩ : Ent)]).length ≤ m + 1) := Lib.hid (by simp; omega)
                have HE7 : Hid (ens (o ++ [(⟨(.slice Ac x.e.r.length cc), x.e⟩ : Ent)]) = ((ens pl).take (m + 1)).flatMap (keepF keep)) := Lib.hid (by rw [ens_snoc]; exact HE2.out)
                clear hown7 hg7 hat7
                go_wp2
                go_roundw
                case rel => exact ⟨m + 1, v7, _, rfl, by go_num, by omega, HE7, HL7, H7, hb7⟩
                case measure => simp [intOf]; omega
          · obtain rfl : m = pl.length := by omega
            have HKO2 := Lib.hid (HKO.out.below hbi)
            have HKP2 := Lib.hid (HKP.out.below hbi)
            have HKR2 := Lib.hid (HKR.out.below hbi)
            have HOB2 := Lib.hid (HOB.out.below hbi)
            have hW1 : w.heap.size + 1 + 1 < W1.heap.size := HKO.out.lt
            have HAP := Lib.hid (fun k (hk : EBlk v o k) => HOB.out.apart HOW.out (Nat.le_refl _) hk)
            obtain ⟨i, rfl⟩ : ∃ i, j = i + 1 := ⟨j - 1, by omega⟩
            have hn0 : ¬ n < 0 := by omega
            have HX := Lib.hid (HRJ.out i rfl)
            have HE2 : Hid (ens o = (ens pl).flatMap (keepF keep)) := Lib.hid (by rw [HE.out, List.take_of_length_le (by rw [ens_len]; omega)])
            obtain ⟨Ao, co, rfl, -⟩ := Sl.of_own HOW.out.own
            by_cases h0 : o.length = 0
            · have HBU3 := Lib.hid (bu_skip HBU.out HX.out (by rw [← HE2.out, List.length_eq_zero_iff.1 h0]; rfl))
              have hz : ¬ (0 : Int) < (o.length : Int) := by omega
              go_wp2
              go_roundw
              case rel => exact ⟨i + 2, _, b', rfl, Lib.hid (by have := HN.out; omega), by omega, HBU3, Lib.hid (Nat.le_succ_of_le HRL.out), HOB2, HKO2, HKP2, HKR2, hbq⟩
              case measure => have := HN.out; simp [intOf]; omega
            · have hz : (0 : Int) < (o.length : Int) := by omega
              have HNE : Hid ((ens pl).flatMap (keepF keep) ≠ []) := Lib.hid (by rw [← HE2.out]; intro h; exact h0 (by have := congrArg List.length h; rwa [ens_len] at this))
              have y2 := HKO2.out.cell 2 _ rfl
              have HO3 := Lib.hid (HOB2.out.below (below_alloc wr (.cells #[.slice Ao o.length co] 22)))
              have HOW3 := Lib.hid ((HOW.out.alloc (.cells #[.slice Ao o.length co] 22)).low (base' := w.heap.size + 3) (by omega))
              have HK3 := Lib.hid (HKO2.out.alloc (.cells #[.slice Ao o.length co] 22))
              have HK4 := Lib.hid (HKP2.out.alloc (.cells #[.slice Ao o.length co] 22))
              have HK5 := Lib.hid (HKR2.out.alloc (.cells #[.slice Ao o.length co] 22))
              have hb3 := below_trans hbq (below_alloc wr (.cells #[.slice Ao o.length co] 22))
              have hbs : w.heap.size + 3 ≤ (wr.alloc (.cells #[.slice Ao o.length co] 22)).heap.size := by have := hbi.size; simp; omega
              have HBS := Lib.hid hbs
              have hrl2 := HRL.out
              clear hbs h0
              go_wp2_with (at_builtin; refine wpList_app rfl (.tmp 62) (.tmp 64) 23 rfl (w.heap.size + 3) 22 1 24 Tryd.underlying23 runI _ b'.runs.length _ rfl HO3.out.sl _ 1 [.slice Ao o.length co] rfl (one_cellR wr 22 (.slice Ao o.length co)) rfl (by simp; rfl) ?_ ?_ HBS.out ?_)
              · unfold maxLen; omega
              · omega
              · intro v7 w7 hown7 hg7 hat7
                obtain ⟨A7, c7, hv7, -⟩ := Sl.of_own hown7
                subst hv7
                have HO7 := HO3.out.snoc HOW3.out HAP.out hown7 hg7 (by rw [World.size_alloc]; exact hat7)
                have hge := own_ge HO3.out.sl
                have K7 := Lib.hid (HK3.out.grown hg7 (fun e => by have := hge _ e; omega))
                have f7 := K7.out.free 2
                have q7 := K7.out.cell 2 _ rfl
                have K8 := Lib.hid (K7.out.set_ 2 (.slice A7 (b'.runs.length + 1) c7))
                have K9 := Lib.hid ((HK4.out.grown hg7 (fun e => by have := hge _ e; omega)).far (p := ⟨w.heap.size + 1 + 1, 2, none⟩) (by show w.heap.size ≠ w.heap.size + 1 + 1; omega) (.slice A7 (b'.runs.length + 1) c7))
                have K10 := Lib.hid ((HK5.out.grown hg7 (fun e => by have := hge _ e; omega)).far (p := ⟨w.heap.size + 1 + 1, 2, none⟩) (by show w.heap.size + 1 ≠ w.heap.size + 1 + 1; omega) (.slice A7 (b'.runs.length + 1) c7))
                have HO8 := Lib.hid (HO7.setFar (p := ⟨w.heap.size + 1 + 1, 2, none⟩) (by show w.heap.size + 1 + 1 < w.heap.size + 3; omega) (.slice A7 (b'.runs.length + 1) c7))
                have hb8 := (below_grown hb3 hg7 (fun k hk => by have := hge k hk; omega)).setCell (p := ⟨w.heap.size + 1 + 1, 2, none⟩) (by show w.heap.size ≤ w.heap.size + 1 + 1; omega) (.slice A7 (b'.runs.length + 1) c7)
                have HBU3 := Lib.hid (bu_more HBU.out HX.out (.slice Ao o.length co) (.slice A7 (b'.runs.length + 1) c7) o HE2.out HNE.out)
                have HRL3 : Hid ((b'.runs ++ [((Value.slice Ao o.length co), o)]).length ≤ i + 2) := Lib.hid (by simp; omega)
                clear hown7 hg7 hat7 hge HO7
                go_wp2
                go_roundw
                case rel => exact ⟨i + 2, _, _, rfl, Lib.hid (by have := HN.out; omega), by omega, HBU3, HRL3, HO8, K8, K9, K10, hb8⟩
                case measure => have := HN.out; simp [intOf]; omega
    · obtain rfl : j = b.runs.length + 1 := by omega
      have hn1 : ¬ n < (b.runs.length : Int) := by have := HN.out; omega
      obtain ⟨Am, cm, hvm, -⟩ := id HOB.out.ok.mem.sl
      obtain ⟨Ar, cr, hvr, -⟩ := id HOB.out.ok.sl
      rw [hvm, hvr] at HKO
      have z0 := HKO.out.cell 0 _ rfl
      have z1 := HKO.out.cell 1 _ rfl
      have z2 := HKO.out.cell 2 _ rfl
      have r0 := HKR.out.cell 0 _ rfl
      have r1 := HKR.out.cell 1 _ rfl
      have r2 := HKR.out.cell 2 _ rfl
      have g0 := HKR.out.free 0
      have g1 := HKR.out.free 1
      have g2 := HKR.out.free 2
      have Z := ((HKR.out.set_ 0 (.int .i64 b.limit)).set_ 1 (.slice Am b'.mem.length cm)).set_ 2 (.slice Ar b'.runs.length cr)
      have x0 := Z.cell 0 (.int .i64 b.limit) rfl
      have x1 := Z.cell 1 (.slice Am b'.mem.length cm) rfl
      have x2 := Z.cell 2 (.slice Ar b'.runs.length cr) rfl
      have hp : ∀ i, (⟨w.heap.size + 1, i, none⟩ : Addr).block < w.heap.size + 3 := fun i => by show w.heap.size + 1 < _; omega
      have hq : ∀ i, w.heap.size ≤ (⟨w.heap.size + 1, i, none⟩ : Addr).block := fun i => Nat.le_succ _
      have HO8 := Lib.hid (((HOB.out.setFar (hp 0) (.int .i64 b.limit)).setFar (hp 1) (.slice Am b'.mem.length cm)).setFar (hp 2) (.slice Ar b'.runs.length cr))
      have hb8 := ((hbw.setCell (hq 0) (.int .i64 b.limit)).setCell (hq 1) (.slice Am b'.mem.length cm)).setCell (hq 2) (.slice Ar b'.runs.length cr)
      have HLI : Hid (b'.limit = b.limit) := Lib.hid (congrArg Bu.limit HBU.out)
      have HVM := Lib.hid hvm
      have HVR2 := Lib.hid hvr
      clear hp hq Z hvm hvr
      go_wp2
      refine bodyPost_ret (v := .agg #[.int .i64 b.limit, (.slice Am b'.mem.length cm), (.slice Ar b'.runs.length cr)]) (by simp [results, Tryd.results31, go_sem, x0, x1, x2]) rfl ?_
      exact ⟨b', by rw [HLI.out, HVM.out, HVR2.out], HO8.out, by rw [HBU.out, HSO.out], hb8, by have := HKO.out.lt; simp [World.size_setCell]; omega⟩

end Go.Proofs.YteabfalklgffmaaDoor
