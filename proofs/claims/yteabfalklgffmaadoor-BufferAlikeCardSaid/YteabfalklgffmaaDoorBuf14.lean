/-
  The reference's CheckBuffer.
-/
import Derived.Test.YteabfalklgffmaaDoorBuf13
set_option linter.unusedSimpArgs false
set_option linter.unusedVariables false
namespace Go.Proofs.YteabfalklgffmaaDoor
open Go.RowKit

theorem ite_iff {p q : Prop} [Decidable p] [Decidable q] {α : Type} {a b : α} (h : p ↔ q) : (if p then a else b) = if q then a else b := by
  by_cases hp : p
  · rw [if_pos hp, if_pos (h.1 hp)]
  · rw [if_neg hp, if_neg (fun hq => hp (h.2 hq))]
theorem all_sub : ∀ (m l : List En) (e : En), e ∈ (allF l m).1 → e ∈ l ∨ e ∈ m
  | [], _, _, h => .inl h
  | x :: t, l, e, h => by
    rw [allF] at h
    rcases all_sub t _ e h with h | h
    · unfold intoE at h
      split at h
      · exact .inl h
      · rcases List.mem_cons.1 ((insE_perm l x).subset h) with h | h
        · exact .inr (by simp [h])
        · exact .inl h
    · exact .inr (by simp [h])
theorem sort_sub {l : List En} {e : En} (h : e ∈ sortE l) : e ∈ l := by
  rcases all_sub l [] e h with h | h
  · cases h
  · exact h
theorem sort_all {l : List En} (f : En → Bool) (h : aloneB l = true) : (sortE l).all f = l.all f := by
  have hp := sortE_perm (aloneB_iff.1 h)
  rw [Bool.eq_iff_iff, List.all_eq_true, List.all_eq_true]
  exact ⟨fun h e he => h e (hp.symm.subset he), fun h e he => h e (hp.subset he)⟩
theorem Buf.fit.part {b : Buf} (h : b.fit) (k : Nat) : (∀ x ∈ (b.part k).2, FineE x.e) ∧ (b.part k).2.length ≤ 2199023255552 := by
  cases k with
  | zero => exact ⟨h.mem, h.lmem⟩
  | succ k =>
    show (∀ x ∈ ((b.runs[k]?).getD (.slice none 0 0, [])).2, FineE x.e) ∧ ((b.runs[k]?).getD (.slice none 0 0, [])).2.length ≤ 2199023255552
    cases hx : b.runs[k]? with
    | none => exact ⟨nofun, by simp⟩
    | some p => exact ⟨h.runs p (List.mem_of_getElem? hx), h.lruns p (List.mem_of_getElem? hx)⟩
theorem Buf.fit.all {b : Buf} (h : b.fit) : ∀ e ∈ b.bu.all, FineE e := by
  intro e he
  rw [pre_all] at he
  obtain ⟨k, -, he⟩ := List.mem_flatMap.1 he
  obtain ⟨x, hx, rfl⟩ := List.mem_map.1 he
  exact (h.part k).1 x hx
theorem bu_hollow (b : Buf) : b.bu.runs.any List.isEmpty = b.runs.any fun p => p.2.isEmpty := by
  show (b.runs.map fun p => ens p.2).any List.isEmpty = _
  rw [List.any_map]
  congr 1
  funext p
  simp [ens]
theorem take_any {α : Type} {l : List α} {k : Nat} {x : α} (h : l[k]? = some x) (f : α → Bool) : (l.take (k + 1)).any f = ((l.take k).any f || f x) := by
  rw [List.take_add_one, h, List.any_append]; simp
theorem take_all {α : Type} {l : List α} {k : Nat} {x : α} (h : l[k]? = some x) (f : α → Bool) : (l.take (k + 1)).all f = ((l.take k).all f && f x) := by
  rw [List.take_add_one, h, List.all_append]; simp
theorem part_run (b : Buf) {k : Nat} {p : Value × List Ent} (h : b.runs[k]? = some p) : b.part (k + 1) = p := by simp [Buf.part, h]
/-- Both ways of saying that all parts rise. -/
theorem parts_up (b : Buf) : b.bu.parts.all upB = (upB (ens b.mem) && b.runs.all fun p => upB (ens p.2)) := by
  show (ens b.mem :: (b.runs.map fun p => ens p.2)).all upB = _
  rw [List.all_cons, List.all_map]; rfl
set_option maxHeartbeats 1000000 in
theorem withinB_any (a b c : Int) (w : World) : Calls Tryd.prog 26 #[.int .i64 a, .int .i64 b, .int .i64 c] w fun e w' => e = .returned (.bool (inB a b c)) ∧ w' = w := by
  by_cases h1 : b ≤ a
  · by_cases h2 : a ≤ c
    · rw [inB_yes h1 h2]
      go_enter Tryd.func26, Tryd.ntmps26
      go_wp2
      go_ret
      exact ⟨rfl, rfl⟩
    · rw [inB_no (by omega)]
      go_enter Tryd.func26, Tryd.ntmps26
      go_wp2
      go_ret
      exact ⟨rfl, rfl⟩
  · rw [inB_no (by omega)]
    go_enter Tryd.func26, Tryd.ntmps26
    go_wp2
    go_ret
    exact ⟨rfl, rfl⟩

set_option maxHeartbeats 8000000 in
set_option maxRecDepth 10000 in
theorem rcheck_any (b : Buf) (w : World) (hb : b.ok w) (hf : b.fit) :
    Calls Tryd.prog 7 #[b.agg] w fun e w' => e = .returned (.int .i64 (checkB b.bu)) ∧ Below w.heap.size w w' := by
  have HO := Lib.hid hb
  have HF := Lib.hid hf
  have HR : Hid (checkB b.bu = if inB b.limit 1 64 = false then 3 else if 4096 < b.bu.all.length ∨ b.limit < (b.mem.length : Int) then 2
    else if (b.runs.any fun p => p.2.isEmpty) = false ∧ (upB (ens b.mem) && b.runs.all fun p => upB (ens p.2)) = true ∧ b.bu.all.all okE = true ∧ aloneB b.bu.all = true then 0 else 1) := Lib.hid (by
      unfold checkB
      rw [bu_hollow, parts_up, show (b.bu.mem.length : Int) = b.mem.length by show ((ens b.mem).length : Int) = _; rw [ens_len]]; rfl)
  have HEN := Lib.hid (fun w' (h : Below w.heap.size w w') (hl : b.bu.all.length ≤ 4096) => entries_any b w' (hb.below h) (by omega) (fun k x hx => ((hf.part k).1 x hx).len))
  generalize checkB b.bu = R at HR ⊢
  obtain ⟨A, c, hvr, hr1, hr2, -⟩ := id hb.sl
  obtain ⟨Am, cm, hvm, hm1, hm2, -⟩ := id hb.mem.sl
  unfold maxLen at hr2 hm2
  have hll := hf.limit
  have hml := hf.lmem
  have hrl := hf.lnum
  unfold Buf.agg at HEN ⊢
  rw [hvr, hvm] at HEN ⊢
  have HVR := Lib.hid hvr
  have HVM := Lib.hid hvm
  have HX := Lib.hid (Blk.new w 25 #[.int .i64 b.limit, .slice Am b.mem.length cm, .slice A b.runs.length c])
  have hB := below_alloc w (.cells #[.int .i64 b.limit, .slice Am b.mem.length cm, .slice A b.runs.length c] 25)
  clear hb hf hvr hvm
  go_enter Tryd.func7, Tryd.ntmps7
  cases hin : inB b.limit 1 64 with
  | false =>
    have EE := Lib.hid (HR.out.trans (if_pos hin))
    go_wp2_with (go_at_call 26; refine (withinB_any _ _ _ _).mono ?_; rw [hin]; rintro e w' ⟨rfl, rfl⟩)
    go_ret
    exact ⟨by rw [EE.out]; rfl, hB⟩
  | true =>
    have HR2 := Lib.hid (HR.out.trans (if_neg (by rw [hin]; simp)))
    clear HR
    go_wp2_with (go_at_call 26; refine (withinB_any _ _ _ _).mono ?_; rw [hin]; rintro e w' ⟨rfl, rfl⟩)
    go_loopw [3, 4, 5] (fun nn hh i wr => ∃ (k N : Nat) (H : Bool), nn = .int .i64 N ∧ hh = .bool H ∧ i = .int .i64 k ∧ k ≤ b.runs.length ∧ N ≤ 2199023255552 ∧ Hid (N = (b.pre (k + 1)).length) ∧ Hid (k = 0 ∨ N ≤ 4096) ∧ Hid (H = (b.runs.take k).any fun p => p.2.isEmpty) ∧ Hid (Blk wr w.heap.size 25 #[.int .i64 b.limit, .slice Am b.mem.length cm, .slice A b.runs.length c]) ∧ Below w.heap.size w wr) (fun _ _ i _ => b.runs.length - (intOf i).toNat)
    case atStart => exact ⟨0, b.mem.length, false, rfl, rfl, rfl, by omega, hml, Lib.hid (by rw [pre_succ, pre_zero, List.nil_append]; exact (ens_len b.mem).symm), Lib.hid (.inl rfl), Lib.hid (by simp), HX, hB⟩
    case round =>
      clear HX hB
      obtain ⟨k, N, H, rfl, rfl, rfl, hk, hN, HN, HK, HH, HBX, hbw⟩ := hrel
      have y0 := HBX.out.cell 0 _ rfl
      have y1 := HBX.out.cell 1 _ rfl
      have y2 := HBX.out.cell 2 _ rfl
      by_cases hlt : k < b.runs.length
      · have hx := List.getElem?_eq_getElem (l := b.runs) hlt
        generalize b.runs[k] = p at hx
        obtain ⟨g, off, rfl, -, hc⟩ := one_at HO.out.sl HVR.out (k := k) (u := p.1) (by rw [List.getElem?_map, hx]; rfl)
        have hpl := HF.out.lruns p (List.mem_of_getElem? hx)
        have HP := Lib.hid (HO.out.runs p (List.mem_of_getElem? hx))
        have HTA := Lib.hid (take_any hx (fun p => p.2.isEmpty))
        have HPS : Hid ((b.pre (k + 1 + 1)).length = N + p.2.length) := Lib.hid (by rw [pre_succ, List.length_append, part_run b hx, ens_len, HN.out])
        have HPM := Lib.hid (pre_mono b (i := k + 1 + 1) (j := b.runs.length + 1) (by omega))
        have d1 := hc _ hbw
        clear hx hc
        obtain ⟨pv, pl⟩ := p
        simp only at hpl HP HTA HPS d1
        obtain ⟨A5, c5, rfl, -⟩ := id HP.out.sl
        have k0 : (0 : Int) ≤ (k : Int) := by omega
        have k1 : (k : Int) < (b.runs.length : Int) := by omega
        have hw : IntKind.i64.wrap ((k : Int) + 1) = (k : Int) + 1 := by rw [IntKind.wrap_i64]; omega
        have hwn : IntKind.i64.wrap ((N : Int) + (pl.length : Int)) = (N : Int) + (pl.length : Int) := by rw [IntKind.wrap_i64]; omega
        by_cases hmany : 4096 < N + pl.length
        · have hm' : (4096 : Int) < (N : Int) + (pl.length : Int) := by omega
          have EE := Lib.hid (HR2.out.trans (if_pos (.inl (by rw [pre_all]; have := HPM.out; have := HPS.out; omega))))
          cases H
          all_goals
            go_wp2
            go_ret
            exact ⟨by rw [EE.out]; rfl, hbw⟩
        · have hm' : ¬ (4096 : Int) < (N : Int) + (pl.length : Int) := by omega
          have hez : ((pl.length : Int) == 0) = pl.isEmpty := by cases pl <;> simp <;> omega
          generalize pl.isEmpty = E at hez HTA
          cases H
          all_goals
            go_wp2
            go_roundw
            case rel => exact ⟨k + 1, N + pl.length, _, by go_num, rfl, by go_num, by omega, by omega, Lib.hid HPS.out.symm, Lib.hid (.inr (by omega)), Lib.hid (by rw [HTA.out, ← HH.out]; simp), HBX, hbw⟩
            case measure => simp [intOf]; omega
      · obtain rfl : k = b.runs.length := by omega
        have HNA : Hid (N = b.bu.all.length) := Lib.hid (by rw [pre_all]; exact HN.out)
        have HHA : Hid (H = b.runs.any fun p => p.2.isEmpty) := Lib.hid (by rw [HH.out, List.take_length])
        clear HN HK HH
        by_cases hmany : 4096 < N
        · have hm' : (4096 : Int) < (N : Int) := by omega
          have EE := Lib.hid (HR2.out.trans (if_pos (.inl (by rw [← HNA.out]; exact hmany))))
          go_wp2
          go_ret
          exact ⟨by rw [EE.out]; rfl, hbw⟩
        · have hm' : ¬ (4096 : Int) < (N : Int) := by omega
          by_cases hfull : b.limit < (b.mem.length : Int)
          · have EE := Lib.hid (HR2.out.trans (if_pos (.inr hfull)))
            go_wp2
            go_ret
            exact ⟨by rw [EE.out]; rfl, hbw⟩
          · have HR3 := Lib.hid (HR2.out.trans (if_neg (fun h => h.elim (fun h => hmany (by rw [HNA.out]; exact h)) hfull)))
            have hal : b.bu.all.length ≤ 4096 := by rw [← HNA.out]; omega
            clear HR2 HNA
            cases H with
            | true =>
              have EE := Lib.hid (HR3.out.trans (if_neg (fun h => by rw [← HHA.out] at h; exact absurd h.1 (by simp))))
              go_wp2
              go_ret
              exact ⟨by rw [EE.out]; rfl, hbw⟩
            | false =>
              have HRI := Lib.hid (rises_any (.slice Am b.mem.length cm) b.mem wr (HVM.out ▸ HO.out.mem.below hbw))
              cases hup : upB (ens b.mem) with
              | false =>
                have EE := Lib.hid (HR3.out.trans (if_neg (fun h => by rw [hup] at h; exact absurd h.2.1 (by simp))))
                rw [hup] at HRI
                go_wp2_with (go_at_call 27; refine HRI.out.mono ?_; rintro e w2 ⟨rfl, hb2⟩)
                go_ret
                exact ⟨by rw [EE.out]; rfl, below_trans hbw hb2⟩
              | true =>
                have HR4 : Hid (R = if (b.runs.all fun p => upB (ens p.2)) = true ∧ b.bu.all.all okE = true ∧ aloneB b.bu.all = true then 0 else 1) := Lib.hid (by
                  rw [HR3.out]
                  exact ite_iff ⟨fun h => by rw [hup, Bool.true_and] at h; exact h.2, fun h => ⟨HHA.out.symm, by rw [hup, Bool.true_and]; exact h.1, h.2⟩⟩)
                rw [hup] at HRI
                clear HR3 HHA hup
                go_wp2_with (go_at_call 27; refine HRI.out.mono ?_; rintro e w2 ⟨rfl, hb2⟩; have HBX2 := Lib.hid (HBX.out.below hb2); have hbw2 := below_trans hbw hb2)
                clear HRI hb2 y0 y1 y2
                go_loopw [6] (fun i wr => ∃ k : Nat, i = .int .i64 k ∧ k ≤ b.runs.length ∧ Hid (((b.runs.take k).all fun p => upB (ens p.2)) = true) ∧ Hid (Blk wr w.heap.size 25 #[.int .i64 b.limit, .slice Am b.mem.length cm, .slice A b.runs.length c]) ∧ Below w.heap.size w wr) (fun i _ => b.runs.length - (intOf i).toNat)
                case atStart => exact ⟨0, rfl, by omega, Lib.hid (by simp), HBX2, hbw2⟩
                case round =>
                  clear HBX HBX2 hbw hbw2
                  obtain ⟨k, rfl, hk, HA, HBX, hbw⟩ := hrel
                  have y0 := HBX.out.cell 0 _ rfl
                  have y1 := HBX.out.cell 1 _ rfl
                  have y2 := HBX.out.cell 2 _ rfl
                  by_cases hlt : k < b.runs.length
                  · have hx := List.getElem?_eq_getElem (l := b.runs) hlt
                    generalize b.runs[k] = p at hx
                    obtain ⟨g, off, rfl, -, hc⟩ := one_at HO.out.sl HVR.out (k := k) (u := p.1) (by rw [List.getElem?_map, hx]; rfl)
                    have HP := Lib.hid (HO.out.runs p (List.mem_of_getElem? hx))
                    have HTA := Lib.hid (take_all hx (fun p => upB (ens p.2)))
                    have HAL := Lib.hid (fun h : (b.runs.all fun p => upB (ens p.2)) = true => List.all_eq_true.1 h p (List.mem_of_getElem? hx))
                    have d1 := hc _ hbw
                    clear hx hc
                    obtain ⟨pv, pl⟩ := p
                    simp only at HP HTA HAL d1
                    obtain ⟨A5, c5, rfl, -⟩ := id HP.out.sl
                    have k0 : (0 : Int) ≤ (k : Int) := by omega
                    have k1 : (k : Int) < (b.runs.length : Int) := by omega
                    have hw : IntKind.i64.wrap ((k : Int) + 1) = (k : Int) + 1 := by rw [IntKind.wrap_i64]; omega
                    have HRI := Lib.hid (rises_any (.slice A5 pl.length c5) pl wr (HP.out.below hbw))
                    cases hup : upB (ens pl) with
                    | false =>
                      have EE := Lib.hid (HR4.out.trans (if_neg (fun h => by have := HAL.out h.1; rw [hup] at this; cases this)))
                      rw [hup] at HRI
                      go_wp2_with (go_at_call 27; refine HRI.out.mono ?_; rintro e w2 ⟨rfl, hb2⟩)
                      go_ret
                      exact ⟨by rw [EE.out]; rfl, below_trans hbw hb2⟩
                    | true =>
                      have HA2 : Hid (((b.runs.take (k + 1)).all fun p => upB (ens p.2)) = true) := Lib.hid (by rw [HTA.out, HA.out, hup]; rfl)
                      rw [hup] at HRI
                      go_wp2_with (go_at_call 27; refine HRI.out.mono ?_; rintro e w2 ⟨rfl, hb2⟩; have HBX2 := Lib.hid (HBX.out.below hb2); have hbw2 := below_trans hbw hb2)
                      go_roundw
                      case rel => exact ⟨k + 1, by go_num, by omega, HA2, HBX2, hbw2⟩
                      case measure => simp [intOf]; omega
                  · obtain rfl : k = b.runs.length := by omega
                    have HR5 : Hid (R = if b.bu.all.all okE = true ∧ aloneB b.bu.all = true then 0 else 1) := Lib.hid (by
                      have h := HA.out
                      rw [List.take_length] at h
                      rw [HR4.out, h]; simp)
                    clear HR4 HA
                    go_wp2_with fail
                    refine (HEN.out _ hbw hal).mono ?_
                    rintro e w2 ⟨v2, l2, rfl, hown, hens, hb2, -⟩
                    have HE2 := Lib.hid hown.ents
                    have hbw2 := below_trans hbw hb2
                    have HFE : Hid (∀ x ∈ l2, FineE x.e) := Lib.hid (fun x hx => HF.out.all x.e (sort_sub (by rw [← hens]; exact List.mem_map.2 ⟨x, hx, rfl⟩)))
                    have HR6 : Hid (R = if (aloneB b.bu.all && (ens l2).all okE) = true then 0 else 1) := Lib.hid (by
                      rw [HR5.out, hens]
                      cases ha : aloneB b.bu.all with
                      | false => simp
                      | true => rw [sort_all _ ha]; simp)
                    generalize aloneB b.bu.all = G at HR6 ⊢
                    obtain ⟨A2, c2, rfl, hz1, hz2, -⟩ := id HE2.out.sl
                    unfold maxLen at hz2
                    clear hown hens hb2 HR5 y0 y1 y2
                    go_wp2_with fail
                    go_loopw [8, 9] (fun f i wr => ∃ (k : Nat) (F : Bool), f = .bool F ∧ i = .int .i64 k ∧ k ≤ l2.length ∧ Hid (F = (G && ((ens l2).take k).all okE)) ∧ Below w2.heap.size w2 wr) (fun _ i _ => l2.length - (intOf i).toNat)
                    case atStart => exact ⟨0, G, rfl, rfl, by omega, Lib.hid (by simp), Below.refl _ _⟩
                    case round =>
                      obtain ⟨k, F, rfl, rfl, hk, HFF, hbx⟩ := hrel
                      by_cases hlt : k < l2.length
                      · have hx := List.getElem?_eq_getElem (l := l2) hlt
                        generalize l2[k] = x at hx
                        have hmem := List.mem_of_getElem? hx
                        obtain ⟨g, off, rfl, -, hc⟩ := ent_at HE2.out.sl rfl hx
                        have HRF := Lib.hid (rfine_ent x wr ((HE2.out.rows x hmem).below hbx) (HFE.out x hmem))
                        have HTA := Lib.hid (take_all (ens_at hx) okE)
                        obtain ⟨d0, d1, d2, d3, d4⟩ := hc _ hbx
                        clear hx hc hmem
                        have k0 : (0 : Int) ≤ (k : Int) := by omega
                        have k1 : (k : Int) < (l2.length : Int) := by omega
                        have hw : IntKind.i64.wrap ((k : Int) + 1) = (k : Int) + 1 := by rw [IntKind.wrap_i64]; omega
                        unfold Ent.agg at HRF
                        cases F with
                        | false =>
                          go_wp2_with fail
                          go_roundw
                          case rel => exact ⟨k + 1, false, rfl, by go_num, by omega, Lib.hid (by rw [HTA.out, ← Bool.and_assoc, ← HFF.out]; rfl), hbx⟩
                          case measure => simp [intOf]; omega
                        | true =>
                          go_wp2_with (go_at_call 29; refine HRF.out.mono ?_; rintro e w3 ⟨rfl, hb3⟩; have hbx3 := below_trans hbx hb3)
                          go_roundw
                          case rel => exact ⟨k + 1, _, rfl, by go_num, by omega, Lib.hid (by rw [HTA.out, ← Bool.and_assoc, ← HFF.out]; rfl), hbx3⟩
                          case measure => simp [intOf]; omega
                      · obtain rfl : k = l2.length := by omega
                        have HR7 : Hid (R = if F = true then 0 else 1) := Lib.hid (by rw [HR6.out, HFF.out, List.take_of_length_le (by rw [ens_len]; omega)])
                        cases F with
                        | false =>
                          have EE := Lib.hid (HR7.out.trans (if_neg (by simp)))
                          go_wp2
                          go_ret
                          exact ⟨by rw [EE.out]; rfl, below_trans hbw2 hbx⟩
                        | true =>
                          have EE := Lib.hid (HR7.out.trans (if_pos rfl))
                          go_wp2
                          go_ret
                          exact ⟨by rw [EE.out]; rfl, below_trans hbw2 hbx⟩

end Go.Proofs.YteabfalklgffmaaDoor
