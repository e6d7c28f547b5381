/-
  The reference's into.
-/
import Derived.Test.YteabfalklgffmaaDoorBuf11
import Derived.Test.YteabfalklgffmaaDoorBuf9
set_option linter.unusedSimpArgs false
set_option linter.unusedVariables false
namespace Go.Proofs.YteabfalklgffmaaDoor
open Go.RowKit

theorem OwnE.setFar {w : World} {base : Nat} {v : Value} {l : List Ent} (h : OwnE w base v l) {p : Addr} (hg : ∀ k, v.ownBlock = some k → k ≠ p.block) (hr : ∀ c ∈ l, ∀ k, c.v.ownBlock = some k → k ≠ p.block) (u : Value) : OwnE (w.setCell p u) base v l :=
  ⟨own_set h.own hg u, fun c hc => sl_set (h.rows c hc) (fun _ k hk => hr c hc k hk) u, fun c hc k hk => by have := h.far c hc k hk; rw [World.size_setCell]; exact this⟩

set_option maxHeartbeats 8000000 in
set_option maxRecDepth 10000 in
theorem into_any (v : Value) (l : List Ent) (x : Ent) (base : Nat) (w : World) (h : OwnE w base v l) (hbase : base ≤ w.heap.size) (hl : l.length ≤ 1000000) (hs : Sl w x.v x.e.r.length (rowCells x.e.r)) (h8 : x.e.r.length ≤ 4398046511104)
    (hsf : rowCells x.e.r ≠ [] → ∀ k, x.v.ownBlock = some k → v.ownBlock ≠ some k) (hU : Up (ens l)) :
    Calls Tryd.prog 33 #[v, x.agg] w fun e w' => ∃ v' l', e = .returned (.tuple #[v', .bool (intoE (ens l) x.e).2]) ∧ OwnE w' base v' l' ∧ ens l' = (intoE (ens l) x.e).1 ∧ w.grownBy w' v.ownBlock ∧ (∀ k, EBlk v' l' k → EBlk v l k ∨ w.heap.size ≤ k) := by
  have HO := Lib.hid h
  have HS := Lib.hid hs
  have HU := Lib.hid hU
  have HSF := Lib.hid hsf
  have HE : Hid (intoE (ens l) x.e = if isE (ens l) x.e = true then (ens l, false) else (insE (ens l) x.e, true)) := Lib.hid rfl
  generalize intoE (ens l) x.e = R at HE ⊢
  obtain ⟨A0, c0, rfl, hc1, hc2, -⟩ := Sl.of_own h.own
  have HLT := Lib.hid (own_lt h.own)
  have HFAR0 := Lib.hid (fun c hc k hk => (h.far c hc k hk).2.1)
  have HPL := Lib.hid (fun (a : Ent) (w' : World) => place_ent a x w')
  unfold maxLen at hc2
  have HX := Lib.hid (Blk.new w 28 #[.string (str x.e.key), .int .i64 x.e.t, .int .i64 x.e.s, x.v, .bool x.e.met])
  have hB := below_alloc w (.cells #[.string (str x.e.key), .int .i64 x.e.t, .int .i64 x.e.s, x.v, .bool x.e.met] 28)
  clear h hs hU hsf
  unfold Ent.agg at HPL ⊢
  go_enter Tryd.func33, Tryd.ntmps33
  go_wp2_with fail
  go_loopw [6, 7, 8, 9] (fun lo hi _ _ wr => ∃ a b : Nat, lo = .int .i64 a ∧ hi = .int .i64 b ∧ a ≤ b ∧ b ≤ l.length ∧ Hid (∀ j y, j < a → (ens l)[j]? = some y → cmpE y x.e < 0) ∧ Hid (∀ j y, b ≤ j → (ens l)[j]? = some y → 0 < cmpE y x.e) ∧ Hid (Blk wr w.heap.size 28 #[.string (str x.e.key), .int .i64 x.e.t, .int .i64 x.e.s, x.v, .bool x.e.met]) ∧ Below w.heap.size w wr) (fun lo hi _ _ _ => (intOf hi).toNat - (intOf lo).toNat)
  case atStart => exact ⟨0, l.length, rfl, rfl, by omega, by omega, Lib.hid (fun j y h => absurd h (by omega)), Lib.hid (fun j y h hp => by have := (List.getElem?_eq_some_iff.1 hp).1; rw [ens_len] at this; omega), HX, hB⟩
  case round =>
    obtain ⟨a, b, rfl, rfl, hab, hbl, HL, HM, HBX, hbw⟩ := hrel
    by_cases hlt : a < b
    · obtain ⟨m, hm⟩ : ∃ m, (a + b) / 2 = m := ⟨_, rfl⟩
      have hma : a ≤ m := by omega
      have hmb : m < b := by omega
      have hml : m < l.length := by omega
      have hx := List.getElem?_eq_getElem (l := l) hml
      generalize l[m] = y at hx
      obtain ⟨g, off, rfl, -, hc⟩ := ent_at HO.out.ents.sl rfl hx
      have HC := Lib.hid hc
      have HY := Lib.hid (ens_at hx)
      have HOP := Lib.hid (fun w' => HPL.out y w')
      clear hc hx
      have hq : ((a : Int) + (b : Int)).tdiv 2 = (m : Int) := by rw [Int.tdiv_eq_ediv_of_nonneg (by omega)]; omega
      have m0 : (0 : Int) ≤ (m : Int) := by omega
      have m1 : (m : Int) < (l.length : Int) := by omega
      obtain ⟨d0, d1, d2, d3, d4⟩ := HC.out _ hbw
      have x0 := HBX.out.cell 0 _ rfl
      have x1 := HBX.out.cell 1 _ rfl
      have x2 := HBX.out.cell 2 _ rfl
      have x3 := HBX.out.cell 3 _ rfl
      have x4 := HBX.out.cell 4 _ rfl
      clear hm
      go_wp2_with fail
      go_region_held3 (fun w' => w'.cell? ⟨g, off + m * 5, none⟩ = some (.string (str y.e.key)) ∧ w'.cell? ⟨g, off + m * 5 + 1, none⟩ = some (.int .i64 y.e.t) ∧ w'.cell? ⟨g, off + m * 5 + 2, none⟩ = some (.int .i64 y.e.s) ∧ w'.cell? ⟨g, off + m * 5 + 3, none⟩ = some y.v ∧ w'.cell? ⟨g, off + m * 5 + 4, none⟩ = some (.bool y.e.met) ∧ w'.cell? ⟨w.heap.size, 0, none⟩ = some (.string (str x.e.key)) ∧ w'.cell? ⟨w.heap.size, 1, none⟩ = some (.int .i64 x.e.t) ∧ w'.cell? ⟨w.heap.size, 2, none⟩ = some (.int .i64 x.e.s) ∧ w'.cell? ⟨w.heap.size, 3, none⟩ = some x.v ∧ w'.cell? ⟨w.heap.size, 4, none⟩ = some (.bool x.e.met))
        (first | go_keep | exact ⟨d0, d1, d2, d3, d4, x0, x1, x2, x3, x4⟩ | exact z)
        ((go_at_call 37
          refine (HOP.out _).mono ?_
          rintro e w2 ⟨rfl, hb2⟩
          have hbw2 := below_trans hbw.drew hb2
          have K2 := Lib.hid (HBX.out.drew.below hb2)
          obtain ⟨e0, e1, e2, e3, e4⟩ := HC.out _ hbw2
          have z := And.intro e0 (And.intro e1 (And.intro e2 (And.intro e3 (And.intro e4 (And.intro (K2.out.cell 0 _ rfl) (And.intro (K2.out.cell 1 _ rfl) (And.intro (K2.out.cell 2 _ rfl) (And.intro (K2.out.cell 3 _ rfl) (K2.out.cell 4 _ rfl)))))))))))
      all_goals
        clear z d0 d1 d2 d3 d4 x0 x1 x2 x3 x4 e0 e1 e2 e3 e4
        by_cases h0 : cmpE y.e x.e = 0
        · have HI : Hid (isE (ens l) x.e = true) := Lib.hid (List.any_eq_true.2 ⟨y.e, List.mem_of_getElem? HY.out, decide_eq_true h0⟩)
          have EE := Lib.hid (HE.out.trans (if_pos HI.out))
          have hb0 := beqT h0
          have HON := Lib.hid (HO.out.below hbw2)
          have HGN := Lib.hid (grown_of_below hbw2 (Value.slice (some ⟨g, off, none⟩) l.length c0).ownBlock)
          clear h0
          go_wp2
          go_ret2
          first
            | exact ⟨_, l, by rw [EE.out]; rfl, HON.out, by rw [EE.out], HGN.out, fun k hk => .inl hk⟩
            | exact ⟨_, by rw [EE.out]; rfl, l, HON.out, by rw [EE.out], HGN.out, fun k hk => .inl hk⟩
        · have hb0 := beqF h0
          by_cases hz : cmpE y.e x.e < 0
          · have HL2 : Hid (∀ j u, j < m + 1 → (ens l)[j]? = some u → cmpE u x.e < 0) := Lib.hid fun j u hj hu => up_less HU.out hu HY.out (by omega) hz
            clear h0
            go_wp2
            go_roundw
            case rel => exact ⟨m + 1, b, by go_num, rfl, by omega, hbl, HL2, HM, K2, hbw2⟩
            case measure => simp [intOf]; omega
          · have HM2 : Hid (∀ j u, m ≤ j → (ens l)[j]? = some u → 0 < cmpE u x.e) := Lib.hid fun j u hj hu => by
              refine Int.not_le.1 fun h1 => ?_
              rcases Int.lt_or_eq_of_le h1 with h2 | h2
              · exact hz (up_less HU.out HY.out hu hj h2)
              · by_cases hjm : j = m
                · subst hjm
                  rw [HY.out] at hu
                  injection hu with hu
                  rw [← hu] at h2
                  exact h0 h2
                · obtain ⟨p1, q1⟩ := List.getElem?_eq_some_iff.1 HY.out
                  obtain ⟨p2, q2⟩ := List.getElem?_eq_some_iff.1 hu
                  have h3 := List.pairwise_iff_getElem.1 HU.out m j p1 p2 (by omega)
                  rw [q1, q2] at h3
                  have h4 := cmpE_same h2 y.e
                  rw [cmpE_flip y.e u, cmpE_flip y.e x.e] at h4
                  omega
            clear h0
            go_wp2
            go_roundw
            case rel => exact ⟨a, m, rfl, rfl, hma, by omega, HL, HM2, K2, hbw2⟩
            case measure => simp [intOf]; omega
    · obtain rfl : a = b := by omega
      have HP : Hid (PosE (ens l) x.e a) := Lib.hid ⟨by rw [ens_len]; exact hbl, HL.out, fun j u h1 h2 => by have := HM.out j u h1 h2; omega⟩
      have HI : Hid (isE (ens l) x.e = false) := Lib.hid (isE_no.2 fun u hu => by
        obtain ⟨j, hj⟩ := List.getElem?_of_mem hu
        by_cases hja : j < a
        · have := HL.out j u hja hj; omega
        · have := HM.out j u (by omega) hj; omega)
      have EE : Hid (R = ((ens l).take a ++ x.e :: (ens l).drop a, true)) := Lib.hid (HE.out.trans ((if_neg (by rw [HI.out]; simp)).trans (by rw [insE_at HP.out])))
      clear HL HM HE
      have HBW := Lib.hid hbw
      have HON := Lib.hid (HO.out.below hbw)
      have HA1 := Lib.hid (HON.out.alloc (.cells #[.string ⟨#[]⟩, .int .i64 0, .int .i64 0, .slice none 0 0, .bool false] 28))
      have hbs : base ≤ (wr.alloc (.cells #[.string ⟨#[]⟩, .int .i64 0, .int .i64 0, .slice none 0 0, .bool false] 28)).heap.size := by have := hbw.size; simp; omega
      have HBS := Lib.hid hbs
      have hwr := hbw.size
      clear hbs
      go_wp2_with (at_builtin; refine wpList_app rfl (.tmp 33) (.tmp 35) 22 rfl base 28 5 64 Tryd.underlying22 entI _ l.length _ rfl HA1.out.own _ 1 (Ent.cells ⟨.slice none 0 0, ⟨[], 0, 0, [], false⟩⟩) rfl (one_ent wr ⟨.slice none 0 0, ⟨[], 0, 0, [], false⟩⟩) rfl (ent_one (Sl.nil_ wr)) ?_ ?_ HBS.out ?_)
      · unfold maxLen; omega
      · omega
      · intro v3 w3 hown3 hg3 hat3
        have HZ : Hid (OwnE w3 base v3 (l ++ [⟨.slice none 0 0, ⟨[], 0, 0, [], false⟩⟩])) := Lib.hid (HA1.out.snoc hown3 hg3 (by rw [World.size_alloc]; exact hat3) (Sl.nil_ _) (fun k hk => by cases hk))
        have HG3 := Lib.hid (grown_trans (grown_of_below (below_alloc wr _) _) hg3)
        have HAT := Lib.hid hat3
        obtain ⟨g3, cap3, hform, hg3b, hg3l⟩ := hown3.form (by omega)
        subst hform
        have HROW : Hid (∀ j, some g3 = some j → (Value.slice A0 l.length c0).ownBlock = some j ∨ wr.heap.size ≤ j) := Lib.hid (by
          intro j hj
          injection hj with hj
          subst hj
          rcases HAT.out with h | h
          · exact .inl h.symm
          · injection h with h
            have h' : g3 = wr.heap.size + 1 := h
            exact .inr (by omega))
        have HNE : Hid (w.heap.size ≠ g3) := Lib.hid (fun e => by
          have hx1 := HBX.out.lt
          rcases HROW.out g3 rfl with h | h
          · have := HLT.out _ h; omega
          · omega)
        obtain ⟨Ax3, cx3, hvv, hcap, hcm, -⟩ := Sl.of_own hown3
        injection hvv with q1 q2 q3
        subst q3
        unfold maxLen at hcm
        clear hown3 hg3 hat3 q1
        have hw : IntKind.i64.wrap ((a : Int) + 1) = (a : Int) + 1 := by rw [IntKind.wrap_i64]; omega
        have hw1 : ((a : Int) + 1).toNat = a + 1 := by omega
        have i1 : (0 : Int) ≤ (a : Int) := by omega
        have i2 : (0 : Int) ≤ (a : Int) + 1 := by omega
        have i5 : (a : Int) + 1 ≤ (l.length : Int) + 1 := by omega
        have i6 : (a : Int) ≤ (l.length : Int) + 1 := by omega
        have i7 : (a : Int) < (l.length : Int) + 1 := by omega
        have hc1' : ¬ cap3 = a := by omega
        by_cases hi : a < l.length
        · have hc2' : ¬ cap3 = a + 1 := by omega
          obtain ⟨sA, sB⟩ := ent_split hi (⟨.slice none 0 0, ⟨[], 0, 0, [], false⟩⟩ : Ent)
          have hz := HZ.out.own
          rw [List.length_append, List.length_singleton] at hz
          obtain ⟨w4, hrun, hown4, hg4⟩ := own_shiftE (c1 := cap3 - (a + 1)) (c2 := cap3 - a) (show w3.drew.ownsRow base 28 5 (.slice (some ⟨g3, 0, none⟩) (l.length + 1) cap3) (l.length + 1) _ from hz) hi (fun u hu => by
            obtain ⟨d, hd, hu⟩ := List.mem_flatMap.1 hu
            exact ent_one (HZ.out.rows d hd) u hu)
          rw [ent_take, ent_drop, ent_take, sA, sB, ← entCells_app, List.append_assoc, List.singleton_append] at hown4
          have HRUN := Lib.hid hrun
          have H4 : Hid (OwnE w4 base (.slice (some ⟨g3, 0, none⟩) (l.length + 1) cap3) (l.take a ++ l[a] :: l.drop a)) := Lib.hid (HZ.out.drew.sub (by rw [show (l.take a ++ l[a] :: l.drop a).length = l.length + 1 from by simp; omega]; exact hown4) hg4 (.inl rfl) (by
            intro c hc
            rcases List.mem_append.1 hc with hc | hc
            · simp [List.mem_of_mem_take hc]
            · rcases List.mem_cons.1 hc with rfl | hc
              · simp
              · simp [List.mem_of_mem_drop hc]))
          have HG4 := Lib.hid (grown_new HG3.out (drew_grown hg4) HROW.out)
          have HFX : Hid (∀ c ∈ l.take a ++ l[a] :: l.drop a, ∀ k, c.v.ownBlock = some k → k < w.heap.size) := Lib.hid (fun c hc k hk => by
            rcases List.mem_append.1 hc with hc | hc
            · exact HFAR0.out c (List.mem_of_mem_take hc) k hk
            · rcases List.mem_cons.1 hc with rfl | hc
              · exact HFAR0.out _ (List.getElem_mem hi) k hk
              · exact HFAR0.out c (List.mem_of_mem_drop hc) k hk)
          have HLX : Hid ((l.take a ++ l[a] :: l.drop a).length = l.length + 1) := Lib.hid (by simp; omega)
          have HAT4 : Hid ((l.take a ++ l[a] :: l.drop a)[a]? = some l[a]) := Lib.hid (by rw [List.getElem?_append_right (by rw [List.length_take]; omega), List.length_take, Nat.min_eq_left (by omega), Nat.sub_self]; rfl)
          generalize l[a] = X at H4 HFX HLX HAT4
          clear hrun hown4 hg4 hz sA sB
          go_wp2_with fail
          refine wp_region_held_drew (S := (fun _ => True)) (by kernel_rfl) trivial (fun hHeld => ?_)
          (refine wpAnyH_take (i := 0) (oi := _) (v := ?v1001) (by simp only [List.getElem?_toArray, List.getElem?_cons_succ, List.getElem?_cons_zero]; rfl) (by kernel_rfl) (by kernel_rfl) (by kernel_rfl) (by intro _ _ _ h; exact h) (Or.inl ⟨by kernel_rfl, ?hy1001⟩) (by assumption) ?rest1001; case hy1001 => (intro w hSw; (try dsimp only at hSw); go_simp; try with_reducible rfl))
          try simp only [Act.put, List.setIfInBounds_toArray, List.set_cons_zero, List.set_cons_succ]
          (refine wpAnyH_take (i := 1) (oi := _) (v := ?v1002) (by simp only [List.getElem?_toArray, List.getElem?_cons_succ, List.getElem?_cons_zero]; rfl) (by kernel_rfl) (by kernel_rfl) (by kernel_rfl) (by intro _ _ _ h; exact h) (Or.inl ⟨by kernel_rfl, ?hy1002⟩) (by assumption) ?rest1002; case hy1002 => (intro w hSw; (try dsimp only at hSw); go_simp; try with_reducible rfl))
          try simp only [Act.put, List.setIfInBounds_toArray, List.set_cons_zero, List.set_cons_succ]
          (refine wpAnyH_take (i := 2) (oi := _) (v := ?v1003) (by simp only [List.getElem?_toArray, List.getElem?_cons_succ, List.getElem?_cons_zero]; rfl) (by kernel_rfl) (by kernel_rfl) (by kernel_rfl) (by intro _ _ _ h; exact h) (Or.inl ⟨by kernel_rfl, ?hy1003⟩) (by assumption) ?rest1003; case hy1003 => (intro w hSw; (try dsimp only at hSw); go_simp; try with_reducible rfl))
          try simp only [Act.put, List.setIfInBounds_toArray, List.set_cons_zero, List.set_cons_succ]
          (refine wpAnyH_take (i := 3) (oi := _) (v := ?v1004) (by simp only [List.getElem?_toArray, List.getElem?_cons_succ, List.getElem?_cons_zero]; rfl) (by kernel_rfl) (by kernel_rfl) (by kernel_rfl) (by intro _ _ _ h; exact h) (Or.inl ⟨by kernel_rfl, ?hy1004⟩) (by assumption) ?rest1004; case hy1004 => (intro w hSw; (try dsimp only at hSw); go_simp; try with_reducible rfl))
          try simp only [Act.put, List.setIfInBounds_toArray, List.set_cons_zero, List.set_cons_succ]
          (refine wpAnyH_take (i := 4) (oi := _) (v := ?v1005) (by simp only [List.getElem?_toArray, List.getElem?_cons_succ, List.getElem?_cons_zero]; rfl) (by kernel_rfl) (by kernel_rfl) (by kernel_rfl) (by intro _ _ _ h; exact h) (Or.inl ⟨by kernel_rfl, ?hy1005⟩) (by assumption) ?rest1005; case hy1005 => (intro w hSw; (try dsimp only at hSw); go_simp; try with_reducible rfl))
          try simp only [Act.put, List.setIfInBounds_toArray, List.set_cons_zero, List.set_cons_succ]
          (refine wpAnyH_take (i := 5) (oi := _) (v := ?v1006) (by simp only [List.getElem?_toArray, List.getElem?_cons_succ, List.getElem?_cons_zero]; rfl) (by kernel_rfl) (by kernel_rfl) (by kernel_rfl) (by intro _ _ _ h; exact h) (Or.inl ⟨by kernel_rfl, ?hy1006⟩) (by assumption) ?rest1006; case hy1006 => (intro w hSw; (try dsimp only at hSw); go_simp; try with_reducible rfl))
          try simp only [Act.put, List.setIfInBounds_toArray, List.set_cons_zero, List.set_cons_succ]
          (refine wpAnyH_take (i := 6) (oi := _) (v := ?v1007) (by simp only [List.getElem?_toArray, List.getElem?_cons_succ, List.getElem?_cons_zero]; rfl) (by kernel_rfl) (by kernel_rfl) (by kernel_rfl) (by intro _ _ _ h; exact h) (Or.inl ⟨by kernel_rfl, ?hy1007⟩) (by assumption) ?rest1007; case hy1007 => (intro w hSw; (try dsimp only at hSw); go_simp; try with_reducible rfl))
          try simp only [Act.put, List.setIfInBounds_toArray, List.set_cons_zero, List.set_cons_succ]
          refine wpAnyH_ready (rs := [7]) (by kernel_rfl) (by simp) ?_
          refine AllReadyH.cons (by simp only [List.getElem?_toArray, List.getElem?_cons_succ, List.getElem?_cons_zero]; rfl) (fun K hK => ?_) AllReadyH.nil
          refine step_copy_run (by rfl) (.tmp 40) (.tmp 43) 22 22 (by rfl) _ _ (by rfl) (by rfl) (HRUN.out _) ?_
          refine hK.out _ _ trivial (fun hHeld7 => ?_)
          clear hK K
          try simp only [Act.put, List.setIfInBounds_toArray, List.set_cons_zero, List.set_cons_succ]
          refine wpAnyH_done (by kernel_rfl) ?_ _
          have HLEN : Hid ((l.take a ++ X :: l.drop a).length = l.length + 1) := Lib.hid HLX.out
          have HFAR := Lib.hid HFX.out
          have hSr : Sl w4 x.v x.e.r.length (rowCells x.e.r) := sl_grown2 HS.out (grown_trans (grown_of_below HBW.out _) HG4.out) HSF.out
          have HSR := Lib.hid hSr
          have HXB := Lib.hid (HBX.out.grown HG4.out (fun e => by have := HLT.out _ e; omega))
          have q3 := HXB.out.cell 3 _ rfl
          have fq3 := HXB.out.free 3
          clear hSr
          go_wp2_with fail
          refine (copy_wide _ x.e.r _ HSR.out h8).mono ?_
          rintro e w5 ⟨cv, rfl, hcv, hcf, hb5⟩
          have H5 := Lib.hid (H4.out.below hb5)
          have HG5 := Lib.hid (grown_trans HG4.out (grown_of_below hb5 _))
          have hs4 : w.heap.size < w4.heap.size := HXB.out.lt
          have HXB5 := Lib.hid (HXB.out.below hb5)
          have hg4l : g3 < w4.heap.size := (H4.out.own.lt g3 rfl).2
          have HCF := Lib.hid (fun k (hk : cv.ownBlock = some k) => And.intro (hcf k hk).1 (hcf k hk).2)
          have hwb : w.heap.size ≠ g3 := HNE.out
          have H6 := Lib.hid (H5.out.setFar (p := ⟨w.heap.size, 3, none⟩) (fun k hk e => by injection hk with hk; have hk' : g3 = k := hk; have e' : k = w.heap.size := e; omega) (fun c hc k hk e => by have e' : k = w.heap.size := e; have := HFAR.out c hc k hk; omega) cv)
          have S6 := Lib.hid (sl_set hcv (p := ⟨w.heap.size, 3, none⟩) (fun _ k hk e => by have := (hcf k hk).1; have e' : k = w.heap.size := e; omega) cv)
          have HX6 := Lib.hid (HXB5.out.set_ 3 cv)
          have b0 := HX6.out.cell 0 (.string (str x.e.key)) rfl
          have b1 := HX6.out.cell 1 (.int .i64 x.e.t) rfl
          have b2 := HX6.out.cell 2 (.int .i64 x.e.s) rfl
          have b3 := HX6.out.cell 3 cv rfl
          have b4 := HX6.out.cell 4 (.bool x.e.met) rfl
          have f5 := HXB5.out.free 3
          have r5 := HXB5.out.cell 3 _ rfl
          have hq := H6.out.own
          rw [HLEN.out] at hq
          have fr0 := hq.frozenAt (a * 5)
          have fr1 := hq.frozenAt (a * 5 + 1)
          have fr2 := hq.frozenAt (a * 5 + 2)
          have fr3 := hq.frozenAt (a * 5 + 3)
          have fr4 := hq.frozenAt (a * 5 + 4)
          obtain ⟨b', off', hA', -, hcl⟩ := ent_at (l := l.take a ++ X :: l.drop a) (by rw [HLEN.out]; exact Sl.of_own hq) rfl (k := a) HAT4.out
          injection hA' with hA'
          injection hA' with e1 e2
          subst e1 e2
          obtain ⟨d0, d1, d2, d3, d4⟩ := hcl _ (Below.refl _ _)
          simp only [Nat.zero_add] at d0 d1 d2 d3 d4
          obtain ⟨s1, s2⟩ := H6.out.lay (c := ⟨cv, x.e⟩) HLEN.out.symm S6.out (fun k hk => ⟨Nat.le_trans (Nat.le_trans hbase (Nat.le_of_lt hs4)) (HCF.out k hk).1, by rw [World.size_setCell]; exact (HCF.out k hk).2, fun e => by have e' : k = g3 := e; have := (HCF.out k hk).1; omega⟩)
          rw [List.length_take, Nat.min_eq_left (by omega)] at s1 s2
          have HS1 := Lib.hid s1
          have HS2 := Lib.hid s2
          clear s1 s2 hq hcl
          obtain ⟨Ac, cc, rfl, -⟩ := id hcv
          clear hcv hcf
          go_wp2
          have HW : Hid (∀ j, some g3 = some j → (Value.slice A0 l.length c0).ownBlock = some j ∨ w.heap.size ≤ j) := Lib.hid (fun j hj => (HROW.out j hj).imp id (fun h => Nat.le_trans hwr h))
          have HGW := Lib.hid (grown_new (grown_new (grown_trans (grown_of_below HBW.out _) HG5.out) (grown_setE (P := w.heap.size) (grown_of_below (Below.refl _ _) _) 3 (.slice Ac x.e.r.length cc)) (fun j hj => .inr (by injection hj with hj; omega))) HS2.out HW.out)
          go_ret2
          refine ⟨_, _, by rw [EE.out]; rfl, HS1.out, by rw [EE.out, ens_lay], HGW.out, eblk_lay HW.out (fun k hk => Nat.le_trans (Nat.le_of_lt hs4) (HCF.out k hk).1)⟩
        · obtain rfl : a = l.length := by omega
          by_cases hcp : cap3 = l.length + 1
          · subst hcp
            have H4 : Hid (OwnE w3.drew base (.slice (some ⟨g3, 0, none⟩) (l.length + 1) (l.length + 1)) (l.take l.length ++ ⟨.slice none 0 0, ⟨[], 0, 0, [], false⟩⟩ :: l.drop l.length)) := Lib.hid (by
              rw [List.take_length, List.drop_length]; exact HZ.out.drew)
            have HG4 := Lib.hid (grown_drew HG3.out)
            have HFX : Hid (∀ c ∈ l.take l.length ++ (⟨.slice none 0 0, ⟨[], 0, 0, [], false⟩⟩ : Ent) :: l.drop l.length, ∀ k, c.v.ownBlock = some k → k < w.heap.size) := Lib.hid (fun c hc k hk => by
              rcases List.mem_append.1 hc with hc | hc
              · exact HFAR0.out c (List.mem_of_mem_take hc) k hk
              · rcases List.mem_cons.1 hc with rfl | hc
                · cases hk
                · exact HFAR0.out c (List.mem_of_mem_drop hc) k hk)
            have HLX : Hid ((l.take l.length ++ (⟨.slice none 0 0, ⟨[], 0, 0, [], false⟩⟩ : Ent) :: l.drop l.length).length = l.length + 1) := Lib.hid (by simp)
            have HAT4 : Hid ((l.take l.length ++ (⟨.slice none 0 0, ⟨[], 0, 0, [], false⟩⟩ : Ent) :: l.drop l.length)[l.length]? = some (⟨.slice none 0 0, ⟨[], 0, 0, [], false⟩⟩ : Ent)) := Lib.hid (by rw [List.getElem?_append_right (by rw [List.length_take]; omega), List.length_take, Nat.min_eq_left (by omega), Nat.sub_self]; rfl)
            obtain ⟨X, hX⟩ : ∃ X : Ent, X = ⟨.slice none 0 0, ⟨[], 0, 0, [], false⟩⟩ := ⟨_, rfl⟩
            rw [← hX] at H4 HFX HLX HAT4
            clear hX
            go_wp2_with fail
            refine wp_region_held_drew (S := (fun _ => True)) (by kernel_rfl) trivial (fun hHeld => ?_)
            (refine wpAnyH_take (i := 0) (oi := _) (v := ?v1008) (by simp only [List.getElem?_toArray, List.getElem?_cons_succ, List.getElem?_cons_zero]; rfl) (by kernel_rfl) (by kernel_rfl) (by kernel_rfl) (by intro _ _ _ h; exact h) (Or.inl ⟨by kernel_rfl, ?hy1008⟩) (by assumption) ?rest1008; case hy1008 => (intro w hSw; (try dsimp only at hSw); go_simp; try with_reducible rfl))
            try simp only [Act.put, List.setIfInBounds_toArray, List.set_cons_zero, List.set_cons_succ]
            (refine wpAnyH_take (i := 1) (oi := _) (v := ?v1009) (by simp only [List.getElem?_toArray, List.getElem?_cons_succ, List.getElem?_cons_zero]; rfl) (by kernel_rfl) (by kernel_rfl) (by kernel_rfl) (by intro _ _ _ h; exact h) (Or.inl ⟨by kernel_rfl, ?hy1009⟩) (by assumption) ?rest1009; case hy1009 => (intro w hSw; (try dsimp only at hSw); go_simp; try with_reducible rfl))
            try simp only [Act.put, List.setIfInBounds_toArray, List.set_cons_zero, List.set_cons_succ]
            (refine wpAnyH_take (i := 2) (oi := _) (v := ?v1010) (by simp only [List.getElem?_toArray, List.getElem?_cons_succ, List.getElem?_cons_zero]; rfl) (by kernel_rfl) (by kernel_rfl) (by kernel_rfl) (by intro _ _ _ h; exact h) (Or.inl ⟨by kernel_rfl, ?hy1010⟩) (by assumption) ?rest1010; case hy1010 => (intro w hSw; (try dsimp only at hSw); go_simp; try with_reducible rfl))
            try simp only [Act.put, List.setIfInBounds_toArray, List.set_cons_zero, List.set_cons_succ]
            (refine wpAnyH_take (i := 3) (oi := _) (v := ?v1011) (by simp only [List.getElem?_toArray, List.getElem?_cons_succ, List.getElem?_cons_zero]; rfl) (by kernel_rfl) (by kernel_rfl) (by kernel_rfl) (by intro _ _ _ h; exact h) (Or.inl ⟨by kernel_rfl, ?hy1011⟩) (by assumption) ?rest1011; case hy1011 => (intro w hSw; (try dsimp only at hSw); go_simp; try with_reducible rfl))
            try simp only [Act.put, List.setIfInBounds_toArray, List.set_cons_zero, List.set_cons_succ]
            (refine wpAnyH_take (i := 4) (oi := _) (v := ?v1012) (by simp only [List.getElem?_toArray, List.getElem?_cons_succ, List.getElem?_cons_zero]; rfl) (by kernel_rfl) (by kernel_rfl) (by kernel_rfl) (by intro _ _ _ h; exact h) (Or.inl ⟨by kernel_rfl, ?hy1012⟩) (by assumption) ?rest1012; case hy1012 => (intro w hSw; (try dsimp only at hSw); go_simp; try with_reducible rfl))
            try simp only [Act.put, List.setIfInBounds_toArray, List.set_cons_zero, List.set_cons_succ]
            (refine wpAnyH_take (i := 5) (oi := _) (v := ?v1013) (by simp only [List.getElem?_toArray, List.getElem?_cons_succ, List.getElem?_cons_zero]; rfl) (by kernel_rfl) (by kernel_rfl) (by kernel_rfl) (by intro _ _ _ h; exact h) (Or.inl ⟨by kernel_rfl, ?hy1013⟩) (by assumption) ?rest1013; case hy1013 => (intro w hSw; (try dsimp only at hSw); go_simp; try with_reducible rfl))
            try simp only [Act.put, List.setIfInBounds_toArray, List.set_cons_zero, List.set_cons_succ]
            (refine wpAnyH_take (i := 6) (oi := _) (v := ?v1014) (by simp only [List.getElem?_toArray, List.getElem?_cons_succ, List.getElem?_cons_zero]; rfl) (by kernel_rfl) (by kernel_rfl) (by kernel_rfl) (by intro _ _ _ h; exact h) (Or.inl ⟨by kernel_rfl, ?hy1014⟩) (by assumption) ?rest1014; case hy1014 => (intro w hSw; (try dsimp only at hSw); go_simp; try with_reducible rfl))
            try simp only [Act.put, List.setIfInBounds_toArray, List.set_cons_zero, List.set_cons_succ]
            refine wpAnyH_ready (rs := [7]) (by kernel_rfl) (by simp) ?_
            refine AllReadyH.cons (by simp only [List.getElem?_toArray, List.getElem?_cons_succ, List.getElem?_cons_zero]; rfl) (fun K hK => ?_) AllReadyH.nil
            refine step_copy_run (by rfl) (.tmp 40) (.tmp 43) 22 22 (by rfl) _ _ (by rfl) (by rfl) (run_copy_zero _ _ _ _ _ _ _ _ _ _ _ Tryd.underlying22 (by rw [entSize]; rfl) (by show min _ _ = _; omega)) ?_
            refine hK.out _ _ trivial (fun hHeld7 => ?_)
            clear hK K
            try simp only [Act.put, List.setIfInBounds_toArray, List.set_cons_zero, List.set_cons_succ]
            refine wpAnyH_done (by kernel_rfl) ?_ _
            have HLEN : Hid ((l.take l.length ++ X :: l.drop l.length).length = l.length + 1) := Lib.hid HLX.out
            have HFAR := Lib.hid HFX.out
            have hSr : Sl w3.drew x.v x.e.r.length (rowCells x.e.r) := sl_grown2 HS.out (grown_trans (grown_of_below HBW.out _) HG4.out) HSF.out
            have HSR := Lib.hid hSr
            have HXB := Lib.hid (HBX.out.grown HG4.out (fun e => by have := HLT.out _ e; omega))
            have q3 := HXB.out.cell 3 _ rfl
            have fq3 := HXB.out.free 3
            clear hSr
            go_wp2_with fail
            refine (copy_wide _ x.e.r _ HSR.out h8).mono ?_
            rintro e w5 ⟨cv, rfl, hcv, hcf, hb5⟩
            have H5 := Lib.hid (H4.out.below hb5)
            have HG5 := Lib.hid (grown_trans HG4.out (grown_of_below hb5 _))
            have hs4 : w.heap.size < w3.drew.heap.size := HXB.out.lt
            have HXB5 := Lib.hid (HXB.out.below hb5)
            have hg4l : g3 < w3.drew.heap.size := (H4.out.own.lt g3 rfl).2
            have HCF := Lib.hid (fun k (hk : cv.ownBlock = some k) => And.intro (hcf k hk).1 (hcf k hk).2)
            have hwb : w.heap.size ≠ g3 := HNE.out
            have H6 := Lib.hid (H5.out.setFar (p := ⟨w.heap.size, 3, none⟩) (fun k hk e => by injection hk with hk; have hk' : g3 = k := hk; have e' : k = w.heap.size := e; omega) (fun c hc k hk e => by have e' : k = w.heap.size := e; have := HFAR.out c hc k hk; omega) cv)
            have S6 := Lib.hid (sl_set hcv (p := ⟨w.heap.size, 3, none⟩) (fun _ k hk e => by have := (hcf k hk).1; have e' : k = w.heap.size := e; omega) cv)
            have HX6 := Lib.hid (HXB5.out.set_ 3 cv)
            have b0 := HX6.out.cell 0 (.string (str x.e.key)) rfl
            have b1 := HX6.out.cell 1 (.int .i64 x.e.t) rfl
            have b2 := HX6.out.cell 2 (.int .i64 x.e.s) rfl
            have b3 := HX6.out.cell 3 cv rfl
            have b4 := HX6.out.cell 4 (.bool x.e.met) rfl
            have f5 := HXB5.out.free 3
            have r5 := HXB5.out.cell 3 _ rfl
            have hq := H6.out.own
            rw [HLEN.out] at hq
            have fr0 := hq.frozenAt (l.length * 5)
            have fr1 := hq.frozenAt (l.length * 5 + 1)
            have fr2 := hq.frozenAt (l.length * 5 + 2)
            have fr3 := hq.frozenAt (l.length * 5 + 3)
            have fr4 := hq.frozenAt (l.length * 5 + 4)
            obtain ⟨b', off', hA', -, hcl⟩ := ent_at (l := l.take l.length ++ X :: l.drop l.length) (by rw [HLEN.out]; exact Sl.of_own hq) rfl (k := l.length) HAT4.out
            injection hA' with hA'
            injection hA' with e1 e2
            subst e1 e2
            obtain ⟨d0, d1, d2, d3, d4⟩ := hcl _ (Below.refl _ _)
            simp only [Nat.zero_add] at d0 d1 d2 d3 d4
            obtain ⟨s1, s2⟩ := H6.out.lay (c := ⟨cv, x.e⟩) HLEN.out.symm S6.out (fun k hk => ⟨Nat.le_trans (Nat.le_trans hbase (Nat.le_of_lt hs4)) (HCF.out k hk).1, by rw [World.size_setCell]; exact (HCF.out k hk).2, fun e => by have e' : k = g3 := e; have := (HCF.out k hk).1; omega⟩)
            rw [List.length_take, Nat.min_eq_left (by omega)] at s1 s2
            have HS1 := Lib.hid s1
            have HS2 := Lib.hid s2
            clear s1 s2 hq hcl
            obtain ⟨Ac, cc, rfl, -⟩ := id hcv
            clear hcv hcf
            go_wp2
            have HW : Hid (∀ j, some g3 = some j → (Value.slice A0 l.length c0).ownBlock = some j ∨ w.heap.size ≤ j) := Lib.hid (fun j hj => (HROW.out j hj).imp id (fun h => Nat.le_trans hwr h))
            have HGW := Lib.hid (grown_new (grown_new (grown_trans (grown_of_below HBW.out _) HG5.out) (grown_setE (P := w.heap.size) (grown_of_below (Below.refl _ _) _) 3 (.slice Ac x.e.r.length cc)) (fun j hj => .inr (by injection hj with hj; omega))) HS2.out HW.out)
            go_ret2
            refine ⟨_, _, by rw [EE.out]; rfl, HS1.out, by rw [EE.out, ens_lay], HGW.out, eblk_lay HW.out (fun k hk => Nat.le_trans (Nat.le_of_lt hs4) (HCF.out k hk).1)⟩
          · have H4 : Hid (OwnE w3.drew base (.slice (some ⟨g3, 0, none⟩) (l.length + 1) cap3) (l.take l.length ++ ⟨.slice none 0 0, ⟨[], 0, 0, [], false⟩⟩ :: l.drop l.length)) := Lib.hid (by
              rw [List.take_length, List.drop_length]; exact HZ.out.drew)
            have HG4 := Lib.hid (grown_drew HG3.out)
            have HFX : Hid (∀ c ∈ l.take l.length ++ (⟨.slice none 0 0, ⟨[], 0, 0, [], false⟩⟩ : Ent) :: l.drop l.length, ∀ k, c.v.ownBlock = some k → k < w.heap.size) := Lib.hid (fun c hc k hk => by
              rcases List.mem_append.1 hc with hc | hc
              · exact HFAR0.out c (List.mem_of_mem_take hc) k hk
              · rcases List.mem_cons.1 hc with rfl | hc
                · cases hk
                · exact HFAR0.out c (List.mem_of_mem_drop hc) k hk)
            have HLX : Hid ((l.take l.length ++ (⟨.slice none 0 0, ⟨[], 0, 0, [], false⟩⟩ : Ent) :: l.drop l.length).length = l.length + 1) := Lib.hid (by simp)
            have HAT4 : Hid ((l.take l.length ++ (⟨.slice none 0 0, ⟨[], 0, 0, [], false⟩⟩ : Ent) :: l.drop l.length)[l.length]? = some (⟨.slice none 0 0, ⟨[], 0, 0, [], false⟩⟩ : Ent)) := Lib.hid (by rw [List.getElem?_append_right (by rw [List.length_take]; omega), List.length_take, Nat.min_eq_left (by omega), Nat.sub_self]; rfl)
            obtain ⟨X, hX⟩ : ∃ X : Ent, X = ⟨.slice none 0 0, ⟨[], 0, 0, [], false⟩⟩ := ⟨_, rfl⟩
            rw [← hX] at H4 HFX HLX HAT4
            clear hX
            go_wp2_with fail
            refine wp_region_held_drew (S := (fun _ => True)) (by kernel_rfl) trivial (fun hHeld => ?_)
            (refine wpAnyH_take (i := 0) (oi := _) (v := ?v1015) (by simp only [List.getElem?_toArray, List.getElem?_cons_succ, List.getElem?_cons_zero]; rfl) (by kernel_rfl) (by kernel_rfl) (by kernel_rfl) (by intro _ _ _ h; exact h) (Or.inl ⟨by kernel_rfl, ?hy1015⟩) (by assumption) ?rest1015; case hy1015 => (intro w hSw; (try dsimp only at hSw); go_simp; try with_reducible rfl))
            try simp only [Act.put, List.setIfInBounds_toArray, List.set_cons_zero, List.set_cons_succ]
            (refine wpAnyH_take (i := 1) (oi := _) (v := ?v1016) (by simp only [List.getElem?_toArray, List.getElem?_cons_succ, List.getElem?_cons_zero]; rfl) (by kernel_rfl) (by kernel_rfl) (by kernel_rfl) (by intro _ _ _ h; exact h) (Or.inl ⟨by kernel_rfl, ?hy1016⟩) (by assumption) ?rest1016; case hy1016 => (intro w hSw; (try dsimp only at hSw); go_simp; try with_reducible rfl))
            try simp only [Act.put, List.setIfInBounds_toArray, List.set_cons_zero, List.set_cons_succ]
            (refine wpAnyH_take (i := 2) (oi := _) (v := ?v1017) (by simp only [List.getElem?_toArray, List.getElem?_cons_succ, List.getElem?_cons_zero]; rfl) (by kernel_rfl) (by kernel_rfl) (by kernel_rfl) (by intro _ _ _ h; exact h) (Or.inl ⟨by kernel_rfl, ?hy1017⟩) (by assumption) ?rest1017; case hy1017 => (intro w hSw; (try dsimp only at hSw); go_simp; try with_reducible rfl))
            try simp only [Act.put, List.setIfInBounds_toArray, List.set_cons_zero, List.set_cons_succ]
            (refine wpAnyH_take (i := 3) (oi := _) (v := ?v1018) (by simp only [List.getElem?_toArray, List.getElem?_cons_succ, List.getElem?_cons_zero]; rfl) (by kernel_rfl) (by kernel_rfl) (by kernel_rfl) (by intro _ _ _ h; exact h) (Or.inl ⟨by kernel_rfl, ?hy1018⟩) (by assumption) ?rest1018; case hy1018 => (intro w hSw; (try dsimp only at hSw); go_simp; try with_reducible rfl))
            try simp only [Act.put, List.setIfInBounds_toArray, List.set_cons_zero, List.set_cons_succ]
            (refine wpAnyH_take (i := 4) (oi := _) (v := ?v1019) (by simp only [List.getElem?_toArray, List.getElem?_cons_succ, List.getElem?_cons_zero]; rfl) (by kernel_rfl) (by kernel_rfl) (by kernel_rfl) (by intro _ _ _ h; exact h) (Or.inl ⟨by kernel_rfl, ?hy1019⟩) (by assumption) ?rest1019; case hy1019 => (intro w hSw; (try dsimp only at hSw); go_simp; try with_reducible rfl))
            try simp only [Act.put, List.setIfInBounds_toArray, List.set_cons_zero, List.set_cons_succ]
            (refine wpAnyH_take (i := 5) (oi := _) (v := ?v1020) (by simp only [List.getElem?_toArray, List.getElem?_cons_succ, List.getElem?_cons_zero]; rfl) (by kernel_rfl) (by kernel_rfl) (by kernel_rfl) (by intro _ _ _ h; exact h) (Or.inl ⟨by kernel_rfl, ?hy1020⟩) (by assumption) ?rest1020; case hy1020 => (intro w hSw; (try dsimp only at hSw); go_simp; try with_reducible rfl))
            try simp only [Act.put, List.setIfInBounds_toArray, List.set_cons_zero, List.set_cons_succ]
            (refine wpAnyH_take (i := 6) (oi := _) (v := ?v1021) (by simp only [List.getElem?_toArray, List.getElem?_cons_succ, List.getElem?_cons_zero]; rfl) (by kernel_rfl) (by kernel_rfl) (by kernel_rfl) (by intro _ _ _ h; exact h) (Or.inl ⟨by kernel_rfl, ?hy1021⟩) (by assumption) ?rest1021; case hy1021 => (intro w hSw; (try dsimp only at hSw); go_simp; try with_reducible rfl))
            try simp only [Act.put, List.setIfInBounds_toArray, List.set_cons_zero, List.set_cons_succ]
            refine wpAnyH_ready (rs := [7]) (by kernel_rfl) (by simp) ?_
            refine AllReadyH.cons (by simp only [List.getElem?_toArray, List.getElem?_cons_succ, List.getElem?_cons_zero]; rfl) (fun K hK => ?_) AllReadyH.nil
            refine step_copy_run (by rfl) (.tmp 40) (.tmp 43) 22 22 (by rfl) _ _ (by rfl) (by rfl) (run_copy_zero _ _ _ _ _ _ _ _ _ _ _ Tryd.underlying22 (by rw [entSize]; rfl) (by show min _ _ = _; omega)) ?_
            refine hK.out _ _ trivial (fun hHeld7 => ?_)
            clear hK K
            try simp only [Act.put, List.setIfInBounds_toArray, List.set_cons_zero, List.set_cons_succ]
            refine wpAnyH_done (by kernel_rfl) ?_ _
            have HLEN : Hid ((l.take l.length ++ X :: l.drop l.length).length = l.length + 1) := Lib.hid HLX.out
            have HFAR := Lib.hid HFX.out
            have hSr : Sl w3.drew x.v x.e.r.length (rowCells x.e.r) := sl_grown2 HS.out (grown_trans (grown_of_below HBW.out _) HG4.out) HSF.out
            have HSR := Lib.hid hSr
            have HXB := Lib.hid (HBX.out.grown HG4.out (fun e => by have := HLT.out _ e; omega))
            have q3 := HXB.out.cell 3 _ rfl
            have fq3 := HXB.out.free 3
            clear hSr
            go_wp2_with fail
            refine (copy_wide _ x.e.r _ HSR.out h8).mono ?_
            rintro e w5 ⟨cv, rfl, hcv, hcf, hb5⟩
            have H5 := Lib.hid (H4.out.below hb5)
            have HG5 := Lib.hid (grown_trans HG4.out (grown_of_below hb5 _))
            have hs4 : w.heap.size < w3.drew.heap.size := HXB.out.lt
            have HXB5 := Lib.hid (HXB.out.below hb5)
            have hg4l : g3 < w3.drew.heap.size := (H4.out.own.lt g3 rfl).2
            have HCF := Lib.hid (fun k (hk : cv.ownBlock = some k) => And.intro (hcf k hk).1 (hcf k hk).2)
            have hwb : w.heap.size ≠ g3 := HNE.out
            have H6 := Lib.hid (H5.out.setFar (p := ⟨w.heap.size, 3, none⟩) (fun k hk e => by injection hk with hk; have hk' : g3 = k := hk; have e' : k = w.heap.size := e; omega) (fun c hc k hk e => by have e' : k = w.heap.size := e; have := HFAR.out c hc k hk; omega) cv)
            have S6 := Lib.hid (sl_set hcv (p := ⟨w.heap.size, 3, none⟩) (fun _ k hk e => by have := (hcf k hk).1; have e' : k = w.heap.size := e; omega) cv)
            have HX6 := Lib.hid (HXB5.out.set_ 3 cv)
            have b0 := HX6.out.cell 0 (.string (str x.e.key)) rfl
            have b1 := HX6.out.cell 1 (.int .i64 x.e.t) rfl
            have b2 := HX6.out.cell 2 (.int .i64 x.e.s) rfl
            have b3 := HX6.out.cell 3 cv rfl
            have b4 := HX6.out.cell 4 (.bool x.e.met) rfl
            have f5 := HXB5.out.free 3
            have r5 := HXB5.out.cell 3 _ rfl
            have hq := H6.out.own
            rw [HLEN.out] at hq
            have fr0 := hq.frozenAt (l.length * 5)
            have fr1 := hq.frozenAt (l.length * 5 + 1)
            have fr2 := hq.frozenAt (l.length * 5 + 2)
            have fr3 := hq.frozenAt (l.length * 5 + 3)
            have fr4 := hq.frozenAt (l.length * 5 + 4)
            obtain ⟨b', off', hA', -, hcl⟩ := ent_at (l := l.take l.length ++ X :: l.drop l.length) (by rw [HLEN.out]; exact Sl.of_own hq) rfl (k := l.length) HAT4.out
            injection hA' with hA'
            injection hA' with e1 e2
            subst e1 e2
            obtain ⟨d0, d1, d2, d3, d4⟩ := hcl _ (Below.refl _ _)
            simp only [Nat.zero_add] at d0 d1 d2 d3 d4
            obtain ⟨s1, s2⟩ := H6.out.lay (c := ⟨cv, x.e⟩) HLEN.out.symm S6.out (fun k hk => ⟨Nat.le_trans (Nat.le_trans hbase (Nat.le_of_lt hs4)) (HCF.out k hk).1, by rw [World.size_setCell]; exact (HCF.out k hk).2, fun e => by have e' : k = g3 := e; have := (HCF.out k hk).1; omega⟩)
            rw [List.length_take, Nat.min_eq_left (by omega)] at s1 s2
            have HS1 := Lib.hid s1
            have HS2 := Lib.hid s2
            clear s1 s2 hq hcl
            obtain ⟨Ac, cc, rfl, -⟩ := id hcv
            clear hcv hcf
            go_wp2
            have HW : Hid (∀ j, some g3 = some j → (Value.slice A0 l.length c0).ownBlock = some j ∨ w.heap.size ≤ j) := Lib.hid (fun j hj => (HROW.out j hj).imp id (fun h => Nat.le_trans hwr h))
            have HGW := Lib.hid (grown_new (grown_new (grown_trans (grown_of_below HBW.out _) HG5.out) (grown_setE (P := w.heap.size) (grown_of_below (Below.refl _ _) _) 3 (.slice Ac x.e.r.length cc)) (fun j hj => .inr (by injection hj with hj; omega))) HS2.out HW.out)
            go_ret2
            refine ⟨_, _, by rw [EE.out]; rfl, HS1.out, by rw [EE.out, ens_lay], HGW.out, eblk_lay HW.out (fun k hk => Nat.le_trans (Nat.le_of_lt hs4) (HCF.out k hk).1)⟩

end Go.Proofs.YteabfalklgffmaaDoor
