/-
  The reference's entries.
-/
import Derived.Test.YteabfalklgffmaaDoorBuf12
import Derived.Test.YteabfalklgffmaaDoorBufM7
set_option linter.unusedSimpArgs false
set_option linter.unusedVariables false
namespace Go.Proofs.YteabfalklgffmaaDoor
open Go.RowKit

theorem allF_app : ∀ (a l b : List En), allF l (a ++ b) = ((allF (allF l a).1 b).1, (allF l a).2 && (allF (allF l a).1 b).2)
  | [], l, b => by simp [allF]
  | e :: t, l, b => by
    rw [List.cons_append, allF, allF_app t, allF]
    simp [Bool.and_assoc]
theorem allF_one (l : List En) (e : En) : allF l [e] = intoE l e := by simp [allF]
theorem allF_snoc (l a : List En) (e : En) : allF l (a ++ [e]) = ((intoE (allF l a).1 e).1, (allF l a).2 && (intoE (allF l a).1 e).2) := by rw [allF_app, allF_one]
theorem into_len (l : List En) (e : En) : (intoE l e).1.length ≤ l.length + 1 := by
  unfold intoE
  split
  · exact Nat.le_succ _
  · have := (insE_perm l e).length_eq
    simp at this
    simp [this]
theorem allF_len : ∀ (a l : List En), (allF l a).1.length ≤ l.length + a.length
  | [], l => by simp [allF]
  | e :: t, l => by
    rw [allF]
    have h1 := allF_len t (intoE l e).1
    have h2 := into_len l e
    simp only [List.length_cons]
    omega
/-- The entries of the first j parts. -/
def Buf.pre (b : Buf) (j : Nat) : List En := (List.range j).flatMap fun k => ens (b.part k).2
theorem pre_zero (b : Buf) : b.pre 0 = [] := rfl
theorem pre_succ (b : Buf) (j : Nat) : b.pre (j + 1) = b.pre j ++ ens (b.part j).2 := by
  unfold Buf.pre
  rw [List.range_succ, List.flatMap_append]
  simp
theorem pre_all (b : Buf) : b.bu.all = b.pre (b.runs.length + 1) := by
  unfold Bu.all Buf.pre
  rw [parts_eq, List.flatMap_def]
theorem pre_mono (b : Buf) {i j : Nat} (h : i ≤ j) : (b.pre i).length ≤ (b.pre j).length := by
  induction j with
  | zero => have : i = 0 := by omega
            subst this; exact Nat.le_refl _
  | succ j ih =>
    rcases Nat.lt_or_ge i (j + 1) with h1 | h1
    · have := ih (by omega)
      rw [pre_succ, List.length_append]
      omega
    · have : i = j + 1 := by omega
      subst this; exact Nat.le_refl _
theorem pre_take (b : Buf) {j : Nat} (h : j < b.runs.length + 1) (k : Nat) : (b.pre j ++ (ens (b.part j).2).take k).length ≤ b.bu.all.length := by
  have h1 := pre_mono b (i := j + 1) (j := b.runs.length + 1) (by omega)
  rw [← pre_all, pre_succ, List.length_append] at h1
  rw [List.length_append, List.length_take]
  omega
theorem ens_take {l : List Ent} {k : Nat} {x : Ent} (h : l[k]? = some x) : (ens l).take (k + 1) = (ens l).take k ++ [x.e] := by
  rw [List.take_add_one, ens_at h]; rfl
theorem sl_far {w : World} {v : Value} {n : Nat} {cs : List Value} (h : Sl w v n cs) (hne : cs ≠ []) (k : Nat) (hk : v.ownBlock = some k) : k < w.heap.size := by
  obtain ⟨A, c, rfl, -, -, -, h3⟩ := h
  obtain ⟨b, off, rfl, hc⟩ := h3 hne
  cases cs with
  | nil => exact absurd rfl hne
  | cons u t =>
    have h0 := World.block_lt_of_cell? w _ (hc 0 u rfl)
    simp [Value.ownBlock] at hk
    simp at h0
    omega

set_option maxHeartbeats 8000000 in
set_option maxRecDepth 10000 in
theorem entries_any (b : Buf) (w : World) (hb : b.ok w) (hl : b.bu.all.length ≤ 1000000) (hr : ∀ k, ∀ x ∈ (b.part k).2, x.e.r.length ≤ 4398046511104) :
    Calls Tryd.prog 28 #[b.agg] w fun e w' => ∃ v' l', e = .returned (.tuple #[v', .bool (aloneB b.bu.all)]) ∧ OwnE w' (w.heap.size + 1) v' l' ∧ ens l' = sortE b.bu.all ∧ Below w.heap.size w w' ∧ w.heap.size < w'.heap.size := by
  have HO := Lib.hid hb
  have HR := Lib.hid hr
  have HL := Lib.hid (fun j k (h : j < b.runs.length + 1) => Nat.le_trans (pre_take b h k) hl)
  have HAL : Hid (aloneB b.bu.all = (allF [] (b.pre (b.runs.length + 1))).2) := Lib.hid (by rw [pre_all]; rfl)
  have HSO : Hid (sortE b.bu.all = (allF [] (b.pre (b.runs.length + 1))).1) := Lib.hid (by rw [pre_all]; rfl)
  generalize aloneB b.bu.all = R1 at HAL ⊢
  generalize sortE b.bu.all = R2 at HSO ⊢
  obtain ⟨A, c, hvr, hr1, hr2, -⟩ := id hb.sl
  unfold maxLen at hr2
  have HVR := Lib.hid hvr
  have HX := Lib.hid (Blk.new w 25 #[.int .i64 b.limit, b.vm, b.vr])
  have hB := below_alloc w (.cells #[.int .i64 b.limit, b.vm, b.vr] 25)
  clear hb hl hr hvr
  unfold Buf.agg
  go_enter Tryd.func28, Tryd.ntmps28
  go_wp2_with fail
  go_loopw [4, 5, 6, 7, 8, 9] (fun out fine i _ _ _ wr => ∃ (j : Nat) (n : Int) (v : Value) (o : List Ent) (F : Bool), v = out ∧ fine = .bool F ∧ i = .int .i64 n ∧ Hid (n = (j : Int) - 1) ∧ j ≤ b.runs.length + 1 ∧ Hid (F = (allF [] (b.pre j)).2) ∧ Hid (ens o = (allF [] (b.pre j)).1) ∧ Hid (OwnE wr (w.heap.size + 1) v o) ∧ Hid (Blk wr w.heap.size 25 #[.int .i64 b.limit, b.vm, b.vr]) ∧ Below w.heap.size w wr) (fun _ _ i _ _ _ _ => b.runs.length + 2 - (intOf i + 2).toNat)
  case atStart => exact ⟨0, -1, _, [], true, rfl, rfl, rfl, Lib.hid (by omega), by omega, Lib.hid rfl, Lib.hid rfl, Lib.hid (OwnE.nil _ _), HX, hB⟩
  case round =>
    obtain ⟨j, n, v, o, F, rfl, rfl, rfl, HN, hj, HF, HE, HOW, HBX, hbw⟩ := hrel
    have y1 := HBX.out.cell 1 _ rfl
    have y2 := HBX.out.cell 2 _ rfl
    rw [HVR.out] at y2
    by_cases hlt : j < b.runs.length + 1
    · have HPL := Lib.hid (HR.out j)
      have HPP := Lib.hid (pre_succ b j)
      have HPK := Lib.hid (fun k => HL.out j k hlt)
      have HPE := Lib.hid (HO.out.part j)
      have hcase : (j = 0 ∧ b.vm = (b.part j).1) ∨ (1 ≤ j ∧ ∃ g off, A = some ⟨g, off, none⟩ ∧ ∀ w', Below w.heap.size w w' → w'.cell? ⟨g, off + (j - 1), none⟩ = some (b.part j).1) := by
        rcases Nat.eq_zero_or_pos j with h | h
        · subst h; exact .inl ⟨rfl, rfl⟩
        · obtain ⟨i, rfl⟩ : ∃ i, j = i + 1 := ⟨j - 1, by omega⟩
          have hx := List.getElem?_eq_getElem (l := b.runs) (i := i) (by omega)
          generalize b.runs[i] = p at hx
          obtain ⟨g, off, hA, -, hc⟩ := one_at HO.out.sl HVR.out (k := i) (u := p.1) (by rw [List.getElem?_map, hx]; rfl)
          exact .inr ⟨by omega, g, off, hA, fun w' hw => by rw [Nat.add_sub_cancel, hc w' hw]; simp [Buf.part, hx]⟩
      generalize b.part j = p at HPL HPP HPK HPE hcase
      obtain ⟨pv, pl⟩ := p
      simp only at HPL HPP HPK HPE hcase
      obtain ⟨A5, c5, rfl, hq1, hq2, -⟩ := id HPE.out.sl
      unfold maxLen at hq2
      have hn1 : n < (b.runs.length : Int) := by have := HN.out; omega
      have hw : IntKind.i64.wrap (n + 1) = n + 1 := by rw [IntKind.wrap_i64]; have := HN.out; omega
      have hcase' : Hid ((j = 0 ∧ b.vm = (Value.slice A5 pl.length c5)) ∨ (1 ≤ j ∧ ∃ g off, A = some ⟨g, off, none⟩ ∧ ∀ w', Below w.heap.size w w' → w'.cell? ⟨g, off + (j - 1), none⟩ = some (Value.slice A5 pl.length c5))) := Lib.hid hcase
      clear hcase
      rcases hcase'.out with ⟨hj0, hvm⟩ | ⟨hj1, g, off, hA, hc⟩
      · have hneg : ¬ 0 ≤ n := by have := HN.out; omega
        rw [hvm] at y1
        clear hvm
        go_wp2_with fail
        clear y1 y2
        go_loopw [4, 5, 8, 9] (fun out fine k _ wr => ∃ (m : Nat) (v : Value) (o : List Ent) (F : Bool), v = out ∧ fine = .bool F ∧ k = .int .i64 m ∧ m ≤ pl.length ∧ Hid (F = (allF [] (b.pre j ++ (ens pl).take m)).2) ∧ Hid (ens o = (allF [] (b.pre j ++ (ens pl).take m)).1) ∧ Hid (OwnE wr (w.heap.size + 1) v o) ∧ Hid (Blk wr w.heap.size 25 #[.int .i64 b.limit, b.vm, b.vr]) ∧ Below w.heap.size w wr) (fun _ _ k _ _ => pl.length - (intOf k).toNat)
        case atStart => exact ⟨0, v, o, F, rfl, rfl, rfl, by omega, Lib.hid (by rw [HF.out]; simp), Lib.hid (by rw [HE.out]; simp), HOW, HBX, hbw⟩
        case round =>
          clear HF HE HOW HBX hbw
          obtain ⟨m, v, o, F, rfl, rfl, rfl, hm, HF, HE, HOW, HBX, hbw⟩ := hrel
          by_cases hml : m < pl.length
          · have hx := List.getElem?_eq_getElem (l := pl) hml
            generalize pl[m] = x at hx
            have hmem := List.mem_of_getElem? hx
            have HTK := Lib.hid (ens_take hx)
            obtain ⟨g5, off5, rfl, -, hc⟩ := ent_at HPE.out.sl rfl hx
            have HSX := Lib.hid (HPE.out.rows x hmem)
            have hxl := HPL.out x hmem
            have HIN := Lib.hid (into_any v o x (w.heap.size + 1) wr HOW.out (by have := HBX.out.lt; omega) (by
              have h1 := congrArg List.length HE.out
              have h2 := allF_len (b.pre j ++ (ens pl).take m) []
              have h3 := HPK.out m
              rw [ens_len] at h1
              simp only [List.length_nil] at h2
              omega) (HSX.out.below hbw) hxl (fun hne k hk e => by
                have h1 := own_ge HOW.out.own k e
                have h2 := sl_far HSX.out hne k hk
                omega) (by rw [HE.out]; exact allF_up _ _ .nil))
            obtain ⟨d0, d1, d2, d3, d4⟩ := hc _ hbw
            have HVL := Lib.hid (own_ge HOW.out.own)
            clear hx hmem hc
            have k0 : (0 : Int) ≤ (m : Int) := by omega
            have k1 : (m : Int) < (pl.length : Int) := by omega
            have hwm : IntKind.i64.wrap ((m : Int) + 1) = (m : Int) + 1 := by rw [IntKind.wrap_i64]; omega
            unfold Ent.agg at HIN
            go_wp2_with fail
            refine HIN.out.mono ?_
            rintro e w2 ⟨v2, o2, rfl, hown, hens, hg2, -⟩
            have HOW2 := Lib.hid hown
            have HBX2 := Lib.hid (HBX.out.grown hg2 (fun e => by have := HVL.out _ e; omega))
            have hbw2 := below_grown hbw hg2 (fun k hk => by have := HVL.out k hk; omega)
            have HE2 : Hid (ens o2 = (allF [] (b.pre j ++ (ens pl).take (m + 1))).1) := Lib.hid (by rw [hens, HTK.out, ← List.append_assoc, allF_snoc, HE.out])
            have HF2 : Hid ((F && (intoE (ens o) x.e).2) = (allF [] (b.pre j ++ (ens pl).take (m + 1))).2) := Lib.hid (by rw [HTK.out, ← List.append_assoc, allF_snoc, HE.out, HF.out])
            clear hown hens hg2 d0 d1 d2 d3 d4 HIN
            generalize (intoE (ens o) x.e).2 = G at HF2 ⊢
            cases F <;> cases G
            all_goals
              go_wp2
              go_roundw
              case rel =>
                exact ⟨m + 1, v2, o2, _, rfl, rfl, by go_num, by omega, HF2, HE2, HOW2, HBX2, hbw2⟩
              case measure => simp [intOf]; omega
          · obtain rfl : m = pl.length := by omega
            have HT : Hid ((ens pl).take pl.length = ens pl) := Lib.hid (List.take_of_length_le (by rw [ens_len]; omega))
            have HE2 : Hid (ens o = (allF [] (b.pre (j + 1))).1) := Lib.hid (by rw [HE.out, HPP.out, HT.out])
            have HF2 : Hid (F = (allF [] (b.pre (j + 1))).2) := Lib.hid (by rw [HF.out, HPP.out, HT.out])
            go_wp2
            go_roundw
            case rel => exact ⟨j + 1, _, v, o, F, rfl, rfl, rfl, Lib.hid (by have := HN.out; omega), by omega, HF2, HE2, HOW, HBX, hbw⟩
            case measure => have := HN.out; simp [intOf]; omega
      · have hpos : 0 ≤ n := by have := HN.out; omega
        have hnat : n.toNat = j - 1 := by have := HN.out; omega
        subst hA
        have d1 := hc _ hbw
        clear hc
        go_wp2_with fail
        clear y1 y2
        go_loopw [4, 5, 8, 9] (fun out fine k _ wr => ∃ (m : Nat) (v : Value) (o : List Ent) (F : Bool), v = out ∧ fine = .bool F ∧ k = .int .i64 m ∧ m ≤ pl.length ∧ Hid (F = (allF [] (b.pre j ++ (ens pl).take m)).2) ∧ Hid (ens o = (allF [] (b.pre j ++ (ens pl).take m)).1) ∧ Hid (OwnE wr (w.heap.size + 1) v o) ∧ Hid (Blk wr w.heap.size 25 #[.int .i64 b.limit, b.vm, b.vr]) ∧ Below w.heap.size w wr) (fun _ _ k _ _ => pl.length - (intOf k).toNat)
        case atStart => exact ⟨0, v, o, F, rfl, rfl, rfl, by omega, Lib.hid (by rw [HF.out]; simp), Lib.hid (by rw [HE.out]; simp), HOW, HBX, hbw⟩
        case round =>
          clear HF HE HOW HBX hbw
          obtain ⟨m, v, o, F, rfl, rfl, rfl, hm, HF, HE, HOW, HBX, hbw⟩ := hrel
          by_cases hml : m < pl.length
          · have hx := List.getElem?_eq_getElem (l := pl) hml
            generalize pl[m] = x at hx
            have hmem := List.mem_of_getElem? hx
            have HTK := Lib.hid (ens_take hx)
            obtain ⟨g5, off5, rfl, -, hc⟩ := ent_at HPE.out.sl rfl hx
            have HSX := Lib.hid (HPE.out.rows x hmem)
            have hxl := HPL.out x hmem
            have HIN := Lib.hid (into_any v o x (w.heap.size + 1) wr HOW.out (by have := HBX.out.lt; omega) (by
              have h1 := congrArg List.length HE.out
              have h2 := allF_len (b.pre j ++ (ens pl).take m) []
              have h3 := HPK.out m
              rw [ens_len] at h1
              simp only [List.length_nil] at h2
              omega) (HSX.out.below hbw) hxl (fun hne k hk e => by
                have h1 := own_ge HOW.out.own k e
                have h2 := sl_far HSX.out hne k hk
                omega) (by rw [HE.out]; exact allF_up _ _ .nil))
            obtain ⟨d0, d1, d2, d3, d4⟩ := hc _ hbw
            have HVL := Lib.hid (own_ge HOW.out.own)
            clear hx hmem hc
            have k0 : (0 : Int) ≤ (m : Int) := by omega
            have k1 : (m : Int) < (pl.length : Int) := by omega
            have hwm : IntKind.i64.wrap ((m : Int) + 1) = (m : Int) + 1 := by rw [IntKind.wrap_i64]; omega
            unfold Ent.agg at HIN
            go_wp2_with fail
            refine HIN.out.mono ?_
            rintro e w2 ⟨v2, o2, rfl, hown, hens, hg2, -⟩
            have HOW2 := Lib.hid hown
            have HBX2 := Lib.hid (HBX.out.grown hg2 (fun e => by have := HVL.out _ e; omega))
            have hbw2 := below_grown hbw hg2 (fun k hk => by have := HVL.out k hk; omega)
            have HE2 : Hid (ens o2 = (allF [] (b.pre j ++ (ens pl).take (m + 1))).1) := Lib.hid (by rw [hens, HTK.out, ← List.append_assoc, allF_snoc, HE.out])
            have HF2 : Hid ((F && (intoE (ens o) x.e).2) = (allF [] (b.pre j ++ (ens pl).take (m + 1))).2) := Lib.hid (by rw [HTK.out, ← List.append_assoc, allF_snoc, HE.out, HF.out])
            clear hown hens hg2 d0 d1 d2 d3 d4 HIN
            generalize (intoE (ens o) x.e).2 = G at HF2 ⊢
            cases F <;> cases G
            all_goals
              go_wp2
              go_roundw
              case rel =>
                exact ⟨m + 1, v2, o2, _, rfl, rfl, by go_num, by omega, HF2, HE2, HOW2, HBX2, hbw2⟩
              case measure => simp [intOf]; omega
          · obtain rfl : m = pl.length := by omega
            have HT : Hid ((ens pl).take pl.length = ens pl) := Lib.hid (List.take_of_length_le (by rw [ens_len]; omega))
            have HE2 : Hid (ens o = (allF [] (b.pre (j + 1))).1) := Lib.hid (by rw [HE.out, HPP.out, HT.out])
            have HF2 : Hid (F = (allF [] (b.pre (j + 1))).2) := Lib.hid (by rw [HF.out, HPP.out, HT.out])
            go_wp2
            go_roundw
            case rel => exact ⟨j + 1, _, v, o, F, rfl, rfl, rfl, Lib.hid (by have := HN.out; omega), by omega, HF2, HE2, HOW, HBX, hbw⟩
            case measure => have := HN.out; simp [intOf]; omega
    · obtain rfl : j = b.runs.length + 1 := by omega
      have hn1 : ¬ n < (b.runs.length : Int) := by have := HN.out; omega
      have HF2 : Hid (R1 = F) := Lib.hid (HAL.out.trans HF.out.symm)
      go_wp2
      go_ret2
      first
        | exact ⟨_, o, by rw [HF2.out]; rfl, HOW.out, by rw [HSO.out, HE.out], hbw, HBX.out.lt⟩
        | exact ⟨_, by rw [HF2.out]; rfl, o, HOW.out, by rw [HSO.out, HE.out], hbw, HBX.out.lt⟩

end Go.Proofs.YteabfalklgffmaaDoor
