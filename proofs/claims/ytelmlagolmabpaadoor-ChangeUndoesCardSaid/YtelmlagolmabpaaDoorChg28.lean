/-
  The reference's DiffOf.
-/
import Derived.Test.YtelmlagolmabpaaDoorChg27
import Derived.Test.YtelmlagolmabpaaDoorChgM7
import Derived.Test.YtelmlagolmabpaaDoorChg4
set_option linter.unusedSimpArgs false
set_option linter.unusedVariables false
namespace Go.Proofs.YtelmlagolmabpaaDoor
open Go.RowKit Go.Maps

def diffS (a b : List Cnt) : KL × Int :=
  if chkV a ≠ 0 then ([], chkV a) else if chkV b ≠ 0 then ([], chkV b) else if (toldS (mergeD (av a) (av b))).2 = true then ((toldS (mergeD (av a) (av b))).1, 0) else ([], 2)

theorem rowI : EInfo Tryd.prog 34 1 24 := by
  have h : (Tryd.prog.info? 34).map (fun i => (i.zero, i.size, i.bytes)) = some (some (.slice none 0 0), 1, 24) := by kernel_rfl
  obtain ⟨i, hi, h1, h2, h3⟩ := info_parts h
  exact ⟨i, _, hi, h1, h2, h3, rfl, by omega⟩
theorem intJ : EInfo Tryd.prog 3 1 8 := by
  have h : (Tryd.prog.info? 3).map (fun i => (i.zero, i.size, i.bytes)) = some (some (.int .i64 0), 1, 8) := by kernel_rfl
  obtain ⟨i, hi, h1, h2, h3⟩ := info_parts h
  exact ⟨i, _, hi, h1, h2, h3, rfl, by omega⟩
theorem one_cellR (W : World) (t : TypeId) (u : Value) : Sl (W.alloc (.cells #[u] t)) (.slice (some ⟨W.heap.size, 0, none⟩) 1 1) 1 [u] := Sl.block (Blk.new W t #[u]) 1 1 (Nat.le_refl _) (by decide)

/-- Two lists of one's own, in two blocks. -/
structure TwoR (w : World) (base : Nat) (vr vn : Value) (xs ys : List Value) : Prop where
  rows : w.ownsRow base 34 1 vr xs.length xs
  nums : w.ownsRow base 3 1 vn ys.length ys
  apart : ∀ j, vr.ownBlock = some j → vn.ownBlock ≠ some j
theorem TwoR.nil (w : World) (base : Nat) : TwoR w base (.slice none 0 0) (.slice none 0 0) [] [] := ⟨⟨rfl, .inl ⟨rfl, rfl⟩⟩, ⟨rfl, .inl ⟨rfl, rfl⟩⟩, nofun⟩
theorem TwoR.below {w w' : World} {base : Nat} {vr vn : Value} {xs ys : List Value} (h : TwoR w base vr vn xs ys) (hb : Below w.heap.size w w') : TwoR w' base vr vn xs ys := ⟨own_below h.rows hb, own_below h.nums hb, h.apart⟩
theorem TwoR.one {w w' : World} {base : Nat} {vr vn v' : Value} {xs ys xs' : List Value} (h : TwoR w base vr vn xs ys) (hown : w'.ownsRow base 34 1 v' xs'.length xs') (hg : w.grownBy w' vr.ownBlock) (hat : v'.ownBlock = vr.ownBlock ∨ v'.ownBlock = some w.heap.size) : TwoR w' base v' vn xs' ys := by
  refine ⟨hown, h.nums.kept hg ?_, fun j hj => ?_⟩
  · cases hn : vn.ownBlock with
    | none => exact .inl rfl
    | some j => exact .inr fun e => h.apart j e.symm hn
  · rcases hat with e | e
    · rw [e] at hj; exact h.apart j hj
    · rw [e] at hj
      injection hj with hj
      intro hn
      have := own_lt h.nums j hn
      omega
theorem TwoR.two {w w' : World} {base : Nat} {vr vn v' : Value} {xs ys ys' : List Value} (h : TwoR w base vr vn xs ys) (hown : w'.ownsRow base 3 1 v' ys'.length ys') (hg : w.grownBy w' vn.ownBlock) (hat : v'.ownBlock = vn.ownBlock ∨ v'.ownBlock = some w.heap.size) : TwoR w' base vr v' xs ys' := by
  refine ⟨h.rows.kept hg ?_, hown, fun j hj hn => ?_⟩
  · cases hn : vr.ownBlock with
    | none => exact .inl rfl
    | some j => exact .inr fun e => h.apart j hn e.symm
  · rcases hat with e | e
    · rw [e] at hn; exact h.apart j hj hn
    · rw [e] at hn
      injection hn with hn
      have := own_lt h.rows j hj
      omega
theorem av_drop {a : List Cnt} {i : Nat} {x : Cnt} (h : a[i]? = some x) : (av a).drop i = (x.r, x.n) :: (av a).drop (i + 1) := by
  have h' : (av a)[i]? = some (x.r, x.n) := by unfold av; rw [List.getElem?_map, h]; rfl
  obtain ⟨hk, e⟩ := List.getElem?_eq_some_iff.1 h'
  rw [List.drop_eq_getElem_cons hk, e]
theorem av_done {a : List Cnt} {i : Nat} (h : a.length ≤ i) : (av a).drop i = [] := List.drop_of_length_le (by unfold av; rw [List.length_map]; exact h)
/-- What a row of the difference is. -/
structure RowD (w : World) (c : Cnt) : Prop where
  sl : Sl w c.v c.r.length (rowCells c.r)
  few : c.r.length ≤ 8
  num : -1099511627776 ≤ c.n ∧ c.n ≤ 1099511627776

set_option maxHeartbeats 16000000 in
set_option maxRecDepth 100000 in
theorem diffOf_any (va vb : Value) (a b : List Cnt) (w : World) (ha : View w va a) (hfa : FineV a) (hb : View w vb b) (hfb : FineV b) :
    Calls Tryd.prog 38 #[va, vb] w fun e w' => ∃ v l, e = .returned (.tuple #[v, .int .i64 (diffS a b).2]) ∧ Chs w' v l ∧ ac l = (diffS a b).1 ∧ Below w.heap.size w w' := by
  have HA := Lib.hid ha
  have HB := Lib.hid hb
  have HFA := Lib.hid hfa
  have HFB := Lib.hid hfb
  have HE : Hid (diffS a b = if chkV a ≠ 0 then ([], chkV a) else if chkV b ≠ 0 then ([], chkV b) else if (toldS (mergeD (av a) (av b))).2 = true then ((toldS (mergeD (av a) (av b))).1, 0) else ([], 2)) := Lib.hid rfl
  have HGA := Lib.hid (chk_zero hfa)
  have HGB := Lib.hid (chk_zero hfb)
  generalize diffS a b = R at HE ⊢
  obtain ⟨Aa, ca, rfl, ha1, ha2, -⟩ := id ha.sl
  obtain ⟨Ab, cb, rfl, hb1, hb2, -⟩ := id hb.sl
  unfold maxLen at ha2 hb2
  clear ha hb hfa hfb
  generalize hya : chkV a = ya at HE HGA
  have HYA := Lib.hid hya
  generalize hyb : chkV b = yb at HE HGB
  have HYB := Lib.hid hyb
  clear hya hyb
  go_enter Tryd.func38, Tryd.ntmps38
  go_wp2_with fail
  refine (rcheckView_any _ a _ HA.out HFA.out).mono ?_
  rw [HYA.out]
  rintro e w1 ⟨rfl, hb1'⟩
  by_cases hy : ya = 0
  · have HE2 := Lib.hid (HE.out.trans (if_neg (fun h => h hy)))
    have HG1 := Lib.hid (HGA.out hy)
    subst hy
    clear HE HGA
    go_wp2_with fail
    refine (rcheckView_any _ b _ (HB.out.below hb1') HFB.out).mono ?_
    rw [HYB.out]
    rintro e w2 ⟨rfl, hb2'⟩
    have hbw2 := below_trans hb1' hb2'
    clear hb1' hb2'
    by_cases hy : yb = 0
    · have HE3 := Lib.hid (HE2.out.trans (if_neg (fun h => h hy)))
      have HG2 := Lib.hid (HGB.out hy)
      subst hy
      clear HE2 HGB
      have HQA := Lib.hid (show ∀ x ∈ a, RowD w x ∧ 1 ≤ x.n ∧ x.n ≤ 1073741824 from fun x hx => by
        have h1 := HG1.out.nums (x.r, x.n) (List.mem_map.2 ⟨x, hx, rfl⟩)
        simp only at h1
        exact ⟨⟨HA.out.rows x hx, (HG1.out.rises.good (x.r, x.n) (List.mem_map.2 ⟨x, hx, rfl⟩)).few, by omega⟩, h1⟩)
      have HQB := Lib.hid (show ∀ x ∈ b, RowD w x ∧ 1 ≤ x.n ∧ x.n ≤ 1073741824 from fun x hx => by
        have h1 := HG2.out.nums (x.r, x.n) (List.mem_map.2 ⟨x, hx, rfl⟩)
        simp only at h1
        exact ⟨⟨HB.out.rows x hx, (HG2.out.rises.good (x.r, x.n) (List.mem_map.2 ⟨x, hx, rfl⟩)).few, by omega⟩, h1⟩)
      have hla : a.length ≤ 4096 := HG1.out.few
      have hlb : b.length ≤ 4096 := HG2.out.few
      go_wp2_with fail
      go_loopw [8, 9, 10, 11, 12, 13, 47, 52] (fun rs ns ii kk _ _ _ _ wr => ∃ (i k : Nat) (vr vn : Value) (s : List Cnt), vr = rs ∧ vn = ns ∧ ii = .int .i64 i ∧ kk = .int .i64 k ∧ i ≤ a.length ∧ k ≤ b.length ∧ s.length ≤ i + k ∧ Hid (av s ++ mergeD ((av a).drop i) ((av b).drop k) = mergeD (av a) (av b)) ∧ Hid (∀ c ∈ s, RowD w c) ∧ Hid (TwoR wr w.heap.size vr vn (s.map Cnt.v) (s.map fun c => .int .i64 c.n)) ∧ Below w.heap.size w wr)
        (fun _ _ ii kk _ _ _ _ _ => (a.length - (intOf ii).toNat) + (b.length - (intOf kk).toNat))
      case atStart => exact ⟨0, 0, _, _, [], rfl, rfl, rfl, rfl, by omega, by omega, by simp, Lib.hid rfl, Lib.hid nofun, Lib.hid (TwoR.nil _ _), hbw2⟩
      case round =>
        clear hbw2
        obtain ⟨i, k, vr, vn, s, rfl, rfl, rfl, rfl, hi, hk, hsl, HM, HS, HT, hbw⟩ := hrel
        have i0 : (0 : Int) ≤ (i : Int) := by omega
        have k0 : (0 : Int) ≤ (k : Int) := by omega
        by_cases hlt : i < a.length
        · have hx := List.getElem?_eq_getElem (l := a) hlt
          generalize a[i] = x at hx
          obtain ⟨gx, ox, rfl, -, hcx⟩ := cnt_at HA.out.sl rfl hx
          have HCX := Lib.hid hcx
          have HVX := Lib.hid (HQA.out x (List.mem_of_getElem? hx))
          have HDX := Lib.hid (av_drop hx)
          clear hx hcx
          obtain ⟨xv, xr, xn⟩ := x
          simp only at HCX HVX HDX
          have HRX := Lib.hid HVX.out.1.sl
          try simp only at HRX
          have hxn := HVX.out.2
          try simp only at hxn
          obtain ⟨Ax, cx, rfl, -⟩ := id HRX.out
          have x1 : (i : Int) < (a.length : Int) := by omega
          have hia : ((i : Int) == (a.length : Int)) = false := by simp; omega
          by_cases hltb : k < b.length
          · have hy := List.getElem?_eq_getElem (l := b) hltb
            generalize b[k] = y at hy
            obtain ⟨gy, oy, rfl, -, hcy⟩ := cnt_at HB.out.sl rfl hy
            have HCY := Lib.hid hcy
            have HVY := Lib.hid (HQB.out y (List.mem_of_getElem? hy))
            have HDY := Lib.hid (av_drop hy)
            clear hy hcy
            obtain ⟨yv, yr, yn⟩ := y
            simp only at HCY HVY HDY
            have HRY := Lib.hid HVY.out.1.sl
            try simp only at HRY
            have hyn := HVY.out.2
            try simp only at hyn
            obtain ⟨Ay, cy, rfl, -⟩ := id HRY.out
            have y1 : (k : Int) < (b.length : Int) := by omega
            have hkb : ((k : Int) == (b.length : Int)) = false := by simp; omega
            have hD : rowsF xr yr < 0 ∨ rowsF xr yr = 0 ∨ 0 < rowsF xr yr := by omega
            rcases hD with hz | hz | hz
            · have hz1 : rowsF xr yr ≤ 0 := by omega
              have hz2 : ¬ 0 ≤ rowsF xr yr := by omega
              have HMS : Hid (mergeD ((av a).drop i) ((av b).drop k) = (xr, -xn) :: mergeD ((av a).drop (i + 1)) ((av b).drop k)) := Lib.hid (by rw [HDX.out, HDY.out, mergeD, if_pos hz])
              obtain ⟨z1, z2⟩ := HCX.out _ hbw
              obtain ⟨z3, z4⟩ := HCY.out _ hbw
              go_wp2_with fail
              go_region_held3 (fun w' => w'.cell? ⟨gx, ox + i * 2, none⟩ = some (.slice Ax xr.length cx) ∧ w'.cell? ⟨gy, oy + k * 2, none⟩ = some (.slice Ay yr.length cy))
                (first | go_keep | exact ⟨z1, z3⟩ | exact z5)
                ((go_at_call 81
                  refine (rrows_any _ _ xr yr _ ((HRX.out.below hbw).drew) ((HRY.out.below hbw).drew)).mono ?_
                  rintro e w2 ⟨rfl, hb2⟩
                  have hbw2 := below_trans hbw.drew hb2
                  have z5 := And.intro (HCX.out _ hbw2).1 (HCY.out _ hbw2).1))
              all_goals
                have HT2 := Lib.hid ((HT.out.below (Below.refl _ _).drew).below hb2)
                clear z1 z2 z3 z4 z5 hb2
                have hw1 : IntKind.i64.wrap (0 - xn) = -xn := by rw [IntKind.wrap_i64]; omega
                have HT3 := Lib.hid (HT2.out.below (below_alloc w2 (.cells #[(.slice Ax xr.length cx)] 34)))
                have hbw3 := hbw2.alloc hbw2.size (.cells #[(.slice Ax xr.length cx)] 34)
                obtain ⟨d1, d2⟩ := HCX.out _ hbw2
                go_wp2_with
                  (first
                    | (at_builtin
                       refine wpList_app rfl (.tmp 59) (.tmp 65) 104 rfl w.heap.size 34 1 24 Tryd.underlying104 rowI vr (s.map Cnt.v).length _ rfl HT3.out.rows _ 1 [(.slice Ax xr.length cx)] rfl (one_cellR w2 34 (.slice Ax xr.length cx)) rfl (by simp [Value.oneCell']) (by unfold maxLen; rw [List.length_map]; omega) (by rw [List.length_map]; omega) hbw3.size ?_
                       intro v4 w4 hown4 hg4 hat4
                       have hbw4 := below_grown hbw3 hg4 (own_ge HT3.out.rows)
                       have HT4 := Lib.hid (HT3.out.one (xs' := s.map Cnt.v ++ [(.slice Ax xr.length cx)]) (by simpa using hown4) hg4 hat4)
                       obtain ⟨e1, e2⟩ := HCX.out _ hbw4
                       have HT5 := Lib.hid (HT4.out.below (below_alloc w4 (.cells #[.int .i64 (-xn)] 3)))
                       have hbw5 := hbw4.alloc hbw4.size (.cells #[.int .i64 (-xn)] 3)
                       clear hown4 hg4 hat4)
                    | (at_builtin
                       refine wpList_app rfl (.tmp 95) (.tmp 97) 22 rfl w.heap.size 3 1 8 Tryd.underlying22 intJ vn (s.map fun c => Value.int .i64 c.n).length _ rfl HT5.out.nums _ 1 [.int .i64 (-xn)] rfl (one_cellR w4 3 (.int .i64 (-xn))) rfl (by simp [Value.oneCell']) (by unfold maxLen; rw [List.length_map]; omega) (by rw [List.length_map]; omega) hbw5.size ?_
                       intro v6 w6 hown6 hg6 hat6
                       have hbw6 := below_grown hbw5 hg6 (own_ge HT5.out.nums)
                       have HT6 := Lib.hid (HT5.out.two (ys' := (s.map fun c => Value.int .i64 c.n) ++ [.int .i64 (-xn)]) (by simpa using hown6) hg6 hat6)
                       clear hown6 hg6 hat6))
                have HT7 : Hid (TwoR w6 w.heap.size v4 v6 ((s ++ [(⟨(.slice Ax xr.length cx), xr, -xn⟩ : Cnt)]).map Cnt.v) ((s ++ [(⟨(.slice Ax xr.length cx), xr, -xn⟩ : Cnt)]).map fun c => Value.int .i64 c.n)) := Lib.hid (by rw [List.map_append, List.map_append]; exact HT6.out)
                have HS7 : Hid (∀ c ∈ s ++ [⟨(.slice Ax xr.length cx), xr, -xn⟩], RowD w c) := Lib.hid fun c hc => by
                  rcases List.mem_append.1 hc with hc | hc
                  · exact HS.out c hc
                  · rw [List.mem_singleton.1 hc]; exact ⟨HRX.out, HVX.out.1.few, by simp only; omega⟩
                have HM7 : Hid (av (s ++ [⟨(.slice Ax xr.length cx), xr, -xn⟩]) ++ mergeD ((av a).drop (i + 1)) ((av b).drop (k)) = mergeD (av a) (av b)) := Lib.hid (by rw [← HM.out, HMS.out]; simp [av])
                clear HT3 HT4 HT5 HT6 HM HS HT
                go_wp2
                go_roundw
                case rel => exact ⟨i + 1, k, _, _, _, rfl, rfl, by go_num, by go_num, by omega, by omega, by rw [List.length_append, List.length_singleton]; omega, HM7.out, HS7.out, HT7.out, hbw6⟩
                case measure => simp [intOf]; omega
            · have hz1 : rowsF xr yr ≤ 0 := by omega
              have hz2 : 0 ≤ rowsF xr yr := by omega
              have HMS : Hid (mergeD ((av a).drop i) ((av b).drop k) = (xr, yn - xn) :: mergeD ((av a).drop (i + 1)) ((av b).drop (k + 1))) := Lib.hid (by rw [HDX.out, HDY.out, mergeD, if_neg (by omega), if_pos hz])
              obtain ⟨z1, z2⟩ := HCX.out _ hbw
              obtain ⟨z3, z4⟩ := HCY.out _ hbw
              go_wp2_with fail
              go_region_held3 (fun w' => w'.cell? ⟨gx, ox + i * 2, none⟩ = some (.slice Ax xr.length cx) ∧ w'.cell? ⟨gy, oy + k * 2, none⟩ = some (.slice Ay yr.length cy))
                (first | go_keep | exact ⟨z1, z3⟩ | exact z5)
                ((go_at_call 81
                  refine (rrows_any _ _ xr yr _ ((HRX.out.below hbw).drew) ((HRY.out.below hbw).drew)).mono ?_
                  rintro e w2 ⟨rfl, hb2⟩
                  have hbw2 := below_trans hbw.drew hb2
                  have z5 := And.intro (HCX.out _ hbw2).1 (HCY.out _ hbw2).1))
              all_goals
                have HT2 := Lib.hid ((HT.out.below (Below.refl _ _).drew).below hb2)
                clear z1 z2 z3 z4 z5 hb2
                have hw1 : IntKind.i64.wrap (0 - xn) = -xn := by rw [IntKind.wrap_i64]; omega
                have hw2 : IntKind.i64.wrap (-xn + yn) = yn - xn := by rw [IntKind.wrap_i64]; omega
                have HT3 := Lib.hid (HT2.out.below (below_alloc w2 (.cells #[(.slice Ax xr.length cx)] 34)))
                have hbw3 := hbw2.alloc hbw2.size (.cells #[(.slice Ax xr.length cx)] 34)
                obtain ⟨d1, d2⟩ := HCX.out _ hbw2
                obtain ⟨d3, d4⟩ := HCY.out _ hbw2
                go_wp2_with
                  (first
                    | (at_builtin
                       refine wpList_app rfl (.tmp 59) (.tmp 65) 104 rfl w.heap.size 34 1 24 Tryd.underlying104 rowI vr (s.map Cnt.v).length _ rfl HT3.out.rows _ 1 [(.slice Ax xr.length cx)] rfl (one_cellR w2 34 (.slice Ax xr.length cx)) rfl (by simp [Value.oneCell']) (by unfold maxLen; rw [List.length_map]; omega) (by rw [List.length_map]; omega) hbw3.size ?_
                       intro v4 w4 hown4 hg4 hat4
                       have hbw4 := below_grown hbw3 hg4 (own_ge HT3.out.rows)
                       have HT4 := Lib.hid (HT3.out.one (xs' := s.map Cnt.v ++ [(.slice Ax xr.length cx)]) (by simpa using hown4) hg4 hat4)
                       obtain ⟨e1, e2⟩ := HCX.out _ hbw4
                       obtain ⟨e3, e4⟩ := HCY.out _ hbw4
                       have HT5 := Lib.hid (HT4.out.below (below_alloc w4 (.cells #[.int .i64 (yn - xn)] 3)))
                       have hbw5 := hbw4.alloc hbw4.size (.cells #[.int .i64 (yn - xn)] 3)
                       clear hown4 hg4 hat4)
                    | (at_builtin
                       refine wpList_app rfl (.tmp 95) (.tmp 97) 22 rfl w.heap.size 3 1 8 Tryd.underlying22 intJ vn (s.map fun c => Value.int .i64 c.n).length _ rfl HT5.out.nums _ 1 [.int .i64 (yn - xn)] rfl (one_cellR w4 3 (.int .i64 (yn - xn))) rfl (by simp [Value.oneCell']) (by unfold maxLen; rw [List.length_map]; omega) (by rw [List.length_map]; omega) hbw5.size ?_
                       intro v6 w6 hown6 hg6 hat6
                       have hbw6 := below_grown hbw5 hg6 (own_ge HT5.out.nums)
                       have HT6 := Lib.hid (HT5.out.two (ys' := (s.map fun c => Value.int .i64 c.n) ++ [.int .i64 (yn - xn)]) (by simpa using hown6) hg6 hat6)
                       clear hown6 hg6 hat6))
                have HT7 : Hid (TwoR w6 w.heap.size v4 v6 ((s ++ [(⟨(.slice Ax xr.length cx), xr, yn - xn⟩ : Cnt)]).map Cnt.v) ((s ++ [(⟨(.slice Ax xr.length cx), xr, yn - xn⟩ : Cnt)]).map fun c => Value.int .i64 c.n)) := Lib.hid (by rw [List.map_append, List.map_append]; exact HT6.out)
                have HS7 : Hid (∀ c ∈ s ++ [⟨(.slice Ax xr.length cx), xr, yn - xn⟩], RowD w c) := Lib.hid fun c hc => by
                  rcases List.mem_append.1 hc with hc | hc
                  · exact HS.out c hc
                  · rw [List.mem_singleton.1 hc]; exact ⟨HRX.out, HVX.out.1.few, by simp only; omega⟩
                have HM7 : Hid (av (s ++ [⟨(.slice Ax xr.length cx), xr, yn - xn⟩]) ++ mergeD ((av a).drop (i + 1)) ((av b).drop (k + 1)) = mergeD (av a) (av b)) := Lib.hid (by rw [← HM.out, HMS.out]; simp [av])
                clear HT3 HT4 HT5 HT6 HM HS HT
                go_wp2
                go_roundw
                case rel => exact ⟨i + 1, k + 1, _, _, _, rfl, rfl, by go_num, by go_num, by omega, by omega, by rw [List.length_append, List.length_singleton]; omega, HM7.out, HS7.out, HT7.out, hbw6⟩
                case measure => simp [intOf]; omega
            · have hz1 : ¬ rowsF xr yr ≤ 0 := by omega
              have hz2 : 0 ≤ rowsF xr yr := by omega
              have HMS : Hid (mergeD ((av a).drop i) ((av b).drop k) = (yr, yn) :: mergeD ((av a).drop i) ((av b).drop (k + 1))) := Lib.hid (by rw [HDX.out, HDY.out, mergeD, if_neg (by omega), if_neg (by omega)])
              obtain ⟨z1, z2⟩ := HCX.out _ hbw
              obtain ⟨z3, z4⟩ := HCY.out _ hbw
              go_wp2_with fail
              go_region_held3 (fun w' => w'.cell? ⟨gx, ox + i * 2, none⟩ = some (.slice Ax xr.length cx) ∧ w'.cell? ⟨gy, oy + k * 2, none⟩ = some (.slice Ay yr.length cy))
                (first | go_keep | exact ⟨z1, z3⟩ | exact z5)
                ((go_at_call 81
                  refine (rrows_any _ _ xr yr _ ((HRX.out.below hbw).drew) ((HRY.out.below hbw).drew)).mono ?_
                  rintro e w2 ⟨rfl, hb2⟩
                  have hbw2 := below_trans hbw.drew hb2
                  have z5 := And.intro (HCX.out _ hbw2).1 (HCY.out _ hbw2).1))
              all_goals
                have HT2 := Lib.hid ((HT.out.below (Below.refl _ _).drew).below hb2)
                clear z1 z2 z3 z4 z5 hb2
                have hw2 : IntKind.i64.wrap (0 + yn) = yn := by rw [IntKind.wrap_i64]; omega
                have HT3 := Lib.hid (HT2.out.below (below_alloc w2 (.cells #[(.slice Ay yr.length cy)] 34)))
                have hbw3 := hbw2.alloc hbw2.size (.cells #[(.slice Ay yr.length cy)] 34)
                obtain ⟨d3, d4⟩ := HCY.out _ hbw2
                go_wp2_with
                  (first
                    | (at_builtin
                       refine wpList_app rfl (.tmp 76) (.tmp 82) 104 rfl w.heap.size 34 1 24 Tryd.underlying104 rowI vr (s.map Cnt.v).length _ rfl HT3.out.rows _ 1 [(.slice Ay yr.length cy)] rfl (one_cellR w2 34 (.slice Ay yr.length cy)) rfl (by simp [Value.oneCell']) (by unfold maxLen; rw [List.length_map]; omega) (by rw [List.length_map]; omega) hbw3.size ?_
                       intro v4 w4 hown4 hg4 hat4
                       have hbw4 := below_grown hbw3 hg4 (own_ge HT3.out.rows)
                       have HT4 := Lib.hid (HT3.out.one (xs' := s.map Cnt.v ++ [(.slice Ay yr.length cy)]) (by simpa using hown4) hg4 hat4)
                       obtain ⟨e3, e4⟩ := HCY.out _ hbw4
                       have HT5 := Lib.hid (HT4.out.below (below_alloc w4 (.cells #[.int .i64 (yn)] 3)))
                       have hbw5 := hbw4.alloc hbw4.size (.cells #[.int .i64 (yn)] 3)
                       clear hown4 hg4 hat4)
                    | (at_builtin
                       refine wpList_app rfl (.tmp 95) (.tmp 97) 22 rfl w.heap.size 3 1 8 Tryd.underlying22 intJ vn (s.map fun c => Value.int .i64 c.n).length _ rfl HT5.out.nums _ 1 [.int .i64 (yn)] rfl (one_cellR w4 3 (.int .i64 (yn))) rfl (by simp [Value.oneCell']) (by unfold maxLen; rw [List.length_map]; omega) (by rw [List.length_map]; omega) hbw5.size ?_
                       intro v6 w6 hown6 hg6 hat6
                       have hbw6 := below_grown hbw5 hg6 (own_ge HT5.out.nums)
                       have HT6 := Lib.hid (HT5.out.two (ys' := (s.map fun c => Value.int .i64 c.n) ++ [.int .i64 (yn)]) (by simpa using hown6) hg6 hat6)
                       clear hown6 hg6 hat6))
                have HT7 : Hid (TwoR w6 w.heap.size v4 v6 ((s ++ [(⟨(.slice Ay yr.length cy), yr, yn⟩ : Cnt)]).map Cnt.v) ((s ++ [(⟨(.slice Ay yr.length cy), yr, yn⟩ : Cnt)]).map fun c => Value.int .i64 c.n)) := Lib.hid (by rw [List.map_append, List.map_append]; exact HT6.out)
                have HS7 : Hid (∀ c ∈ s ++ [⟨(.slice Ay yr.length cy), yr, yn⟩], RowD w c) := Lib.hid fun c hc => by
                  rcases List.mem_append.1 hc with hc | hc
                  · exact HS.out c hc
                  · rw [List.mem_singleton.1 hc]; exact ⟨HRY.out, HVY.out.1.few, by simp only; omega⟩
                have HM7 : Hid (av (s ++ [⟨(.slice Ay yr.length cy), yr, yn⟩]) ++ mergeD ((av a).drop (i)) ((av b).drop (k + 1)) = mergeD (av a) (av b)) := Lib.hid (by rw [← HM.out, HMS.out]; simp [av])
                clear HT3 HT4 HT5 HT6 HM HS HT
                go_wp2
                go_roundw
                case rel => exact ⟨i, k + 1, _, _, _, rfl, rfl, by go_num, by go_num, by omega, by omega, by rw [List.length_append, List.length_singleton]; omega, HM7.out, HS7.out, HT7.out, hbw6⟩
                case measure => simp [intOf]; omega
          · have hkb : ((k : Int) == (b.length : Int)) = true := by simp; omega
            have hkl : b.length ≤ k := by omega
            have HMS : Hid (mergeD ((av a).drop i) ((av b).drop k) = (xr, -xn) :: mergeD ((av a).drop (i + 1)) ((av b).drop k)) := Lib.hid (by rw [HDX.out, av_done hkl, merge_nil, merge_nil]; rfl)
            have hw1 : IntKind.i64.wrap (0 - xn) = -xn := by rw [IntKind.wrap_i64]; omega
            have HT3 := Lib.hid (HT.out.below (below_alloc wr (.cells #[(.slice Ax xr.length cx)] 34)))
            have hbw3 := hbw.alloc hbw.size (.cells #[(.slice Ax xr.length cx)] 34)
            obtain ⟨d1, d2⟩ := HCX.out _ hbw
            go_wp2_with
              (first
                | (at_builtin
                   refine wpList_app rfl (.tmp 59) (.tmp 65) 104 rfl w.heap.size 34 1 24 Tryd.underlying104 rowI vr (s.map Cnt.v).length _ rfl HT3.out.rows _ 1 [(.slice Ax xr.length cx)] rfl (one_cellR wr 34 (.slice Ax xr.length cx)) rfl (by simp [Value.oneCell']) (by unfold maxLen; rw [List.length_map]; omega) (by rw [List.length_map]; omega) hbw3.size ?_
                   intro v4 w4 hown4 hg4 hat4
                   have hbw4 := below_grown hbw3 hg4 (own_ge HT3.out.rows)
                   have HT4 := Lib.hid (HT3.out.one (xs' := s.map Cnt.v ++ [(.slice Ax xr.length cx)]) (by simpa using hown4) hg4 hat4)
                   obtain ⟨e1, e2⟩ := HCX.out _ hbw4
                   have HT5 := Lib.hid (HT4.out.below (below_alloc w4 (.cells #[.int .i64 (-xn)] 3)))
                   have hbw5 := hbw4.alloc hbw4.size (.cells #[.int .i64 (-xn)] 3)
                   clear hown4 hg4 hat4)
                | (at_builtin
                   refine wpList_app rfl (.tmp 95) (.tmp 97) 22 rfl w.heap.size 3 1 8 Tryd.underlying22 intJ vn (s.map fun c => Value.int .i64 c.n).length _ rfl HT5.out.nums _ 1 [.int .i64 (-xn)] rfl (one_cellR w4 3 (.int .i64 (-xn))) rfl (by simp [Value.oneCell']) (by unfold maxLen; rw [List.length_map]; omega) (by rw [List.length_map]; omega) hbw5.size ?_
                   intro v6 w6 hown6 hg6 hat6
                   have hbw6 := below_grown hbw5 hg6 (own_ge HT5.out.nums)
                   have HT6 := Lib.hid (HT5.out.two (ys' := (s.map fun c => Value.int .i64 c.n) ++ [.int .i64 (-xn)]) (by simpa using hown6) hg6 hat6)
                   clear hown6 hg6 hat6))
            have HT7 : Hid (TwoR w6 w.heap.size v4 v6 ((s ++ [(⟨(.slice Ax xr.length cx), xr, -xn⟩ : Cnt)]).map Cnt.v) ((s ++ [(⟨(.slice Ax xr.length cx), xr, -xn⟩ : Cnt)]).map fun c => Value.int .i64 c.n)) := Lib.hid (by rw [List.map_append, List.map_append]; exact HT6.out)
            have HS7 : Hid (∀ c ∈ s ++ [⟨(.slice Ax xr.length cx), xr, -xn⟩], RowD w c) := Lib.hid fun c hc => by
              rcases List.mem_append.1 hc with hc | hc
              · exact HS.out c hc
              · rw [List.mem_singleton.1 hc]; exact ⟨HRX.out, HVX.out.1.few, by simp only; omega⟩
            have HM7 : Hid (av (s ++ [⟨(.slice Ax xr.length cx), xr, -xn⟩]) ++ mergeD ((av a).drop (i + 1)) ((av b).drop (k)) = mergeD (av a) (av b)) := Lib.hid (by rw [← HM.out, HMS.out]; simp [av])
            clear HT3 HT4 HT5 HT6 HM HS HT
            go_wp2
            go_roundw
            case rel => exact ⟨i + 1, k, _, _, _, rfl, rfl, by go_num, by go_num, by omega, by omega, by rw [List.length_append, List.length_singleton]; omega, HM7.out, HS7.out, HT7.out, hbw6⟩
            case measure => simp [intOf]; omega
        · have hia : ((i : Int) == (a.length : Int)) = true := by simp; omega
          have hil : a.length ≤ i := by omega
          have hil2 : ¬ (i : Int) < (a.length : Int) := by omega
          by_cases hltb : k < b.length
          · have hy := List.getElem?_eq_getElem (l := b) hltb
            generalize b[k] = y at hy
            obtain ⟨gy, oy, rfl, -, hcy⟩ := cnt_at HB.out.sl rfl hy
            have HCY := Lib.hid hcy
            have HVY := Lib.hid (HQB.out y (List.mem_of_getElem? hy))
            have HDY := Lib.hid (av_drop hy)
            clear hy hcy
            obtain ⟨yv, yr, yn⟩ := y
            simp only at HCY HVY HDY
            have HRY := Lib.hid HVY.out.1.sl
            try simp only at HRY
            have hyn := HVY.out.2
            try simp only at hyn
            obtain ⟨Ay, cy, rfl, -⟩ := id HRY.out
            have y1 : (k : Int) < (b.length : Int) := by omega
            have HMS : Hid (mergeD ((av a).drop i) ((av b).drop k) = (yr, yn) :: mergeD ((av a).drop i) ((av b).drop (k + 1))) := Lib.hid (by rw [HDY.out, av_done hil, merge_nil', merge_nil'])
            have hw2 : IntKind.i64.wrap (0 + yn) = yn := by rw [IntKind.wrap_i64]; omega
            have HT3 := Lib.hid (HT.out.below (below_alloc wr (.cells #[(.slice Ay yr.length cy)] 34)))
            have hbw3 := hbw.alloc hbw.size (.cells #[(.slice Ay yr.length cy)] 34)
            obtain ⟨d3, d4⟩ := HCY.out _ hbw
            go_wp2_with
              (first
                | (at_builtin
                   refine wpList_app rfl (.tmp 76) (.tmp 82) 104 rfl w.heap.size 34 1 24 Tryd.underlying104 rowI vr (s.map Cnt.v).length _ rfl HT3.out.rows _ 1 [(.slice Ay yr.length cy)] rfl (one_cellR wr 34 (.slice Ay yr.length cy)) rfl (by simp [Value.oneCell']) (by unfold maxLen; rw [List.length_map]; omega) (by rw [List.length_map]; omega) hbw3.size ?_
                   intro v4 w4 hown4 hg4 hat4
                   have hbw4 := below_grown hbw3 hg4 (own_ge HT3.out.rows)
                   have HT4 := Lib.hid (HT3.out.one (xs' := s.map Cnt.v ++ [(.slice Ay yr.length cy)]) (by simpa using hown4) hg4 hat4)
                   obtain ⟨e3, e4⟩ := HCY.out _ hbw4
                   have HT5 := Lib.hid (HT4.out.below (below_alloc w4 (.cells #[.int .i64 (yn)] 3)))
                   have hbw5 := hbw4.alloc hbw4.size (.cells #[.int .i64 (yn)] 3)
                   clear hown4 hg4 hat4)
                | (at_builtin
                   refine wpList_app rfl (.tmp 95) (.tmp 97) 22 rfl w.heap.size 3 1 8 Tryd.underlying22 intJ vn (s.map fun c => Value.int .i64 c.n).length _ rfl HT5.out.nums _ 1 [.int .i64 (yn)] rfl (one_cellR w4 3 (.int .i64 (yn))) rfl (by simp [Value.oneCell']) (by unfold maxLen; rw [List.length_map]; omega) (by rw [List.length_map]; omega) hbw5.size ?_
                   intro v6 w6 hown6 hg6 hat6
                   have hbw6 := below_grown hbw5 hg6 (own_ge HT5.out.nums)
                   have HT6 := Lib.hid (HT5.out.two (ys' := (s.map fun c => Value.int .i64 c.n) ++ [.int .i64 (yn)]) (by simpa using hown6) hg6 hat6)
                   clear hown6 hg6 hat6))
            have HT7 : Hid (TwoR w6 w.heap.size v4 v6 ((s ++ [(⟨(.slice Ay yr.length cy), yr, yn⟩ : Cnt)]).map Cnt.v) ((s ++ [(⟨(.slice Ay yr.length cy), yr, yn⟩ : Cnt)]).map fun c => Value.int .i64 c.n)) := Lib.hid (by rw [List.map_append, List.map_append]; exact HT6.out)
            have HS7 : Hid (∀ c ∈ s ++ [⟨(.slice Ay yr.length cy), yr, yn⟩], RowD w c) := Lib.hid fun c hc => by
              rcases List.mem_append.1 hc with hc | hc
              · exact HS.out c hc
              · rw [List.mem_singleton.1 hc]; exact ⟨HRY.out, HVY.out.1.few, by simp only; omega⟩
            have HM7 : Hid (av (s ++ [⟨(.slice Ay yr.length cy), yr, yn⟩]) ++ mergeD ((av a).drop (i)) ((av b).drop (k + 1)) = mergeD (av a) (av b)) := Lib.hid (by rw [← HM.out, HMS.out]; simp [av])
            clear HT3 HT4 HT5 HT6 HM HS HT
            go_wp2
            go_roundw
            case rel => exact ⟨i, k + 1, _, _, _, rfl, rfl, by go_num, by go_num, by omega, by omega, by rw [List.length_append, List.length_singleton]; omega, HM7.out, HS7.out, HT7.out, hbw6⟩
            case measure => simp [intOf]; omega
          · have hkl : b.length ≤ k := by omega
            have hkl2 : ¬ (k : Int) < (b.length : Int) := by omega
            have HMF : Hid (mergeD (av a) (av b) = av s) := Lib.hid (by rw [← HM.out, av_done hil, av_done hkl, merge_nil', List.append_nil])
            have HR1 : Hid (Sl wr vr s.length (s.map Cnt.v)) := Lib.hid (by have := Sl.of_own HT.out.rows; rwa [List.length_map] at this)
            have HR2 : Hid (Sl wr vn s.length (s.map fun c => .int .i64 c.n)) := Lib.hid (by have := Sl.of_own HT.out.nums; rwa [List.length_map] at this)
            have HR3 : Hid (∀ c ∈ s, Sl wr c.v c.r.length (rowCells c.r)) := Lib.hid (fun c hc => (HS.out c hc).sl.below hbw)
            have HE4 : Hid (R = if (toldS (av s)).2 = true then ((toldS (av s)).1, 0) else ([], 2)) := Lib.hid (by rw [HE3.out, HMF.out])
            clear HE3 HM HT
            go_wp2_with fail
            refine (rtold_any vr vn s _ HR1.out HR2.out HR3.out (fun c hc => (HS.out c hc).few) (fun c hc => (HS.out c hc).num)).mono ?_
            rintro e w9 ⟨v9, l9, rfl, hC9, ha9, hb9⟩
            have HC9 := Lib.hid hC9
            have HA9 := Lib.hid ha9
            have hbw9 := below_trans hbw hb9
            clear hC9 ha9
            generalize toldS (av s) = TT at HE4 HA9
            obtain ⟨T1, T2⟩ := TT
            cases T2 with
            | true =>
              have EE := Lib.hid (HE4.out.trans (if_pos rfl))
              clear HE4
              go_wp2
              go_ret2
              first
                | exact ⟨v9, l9, by rw [EE.out]; rfl, HC9.out, by rw [EE.out]; exact HA9.out, hbw9⟩
                | exact ⟨v9, by rw [EE.out]; rfl, l9, HC9.out, by rw [EE.out]; exact HA9.out, hbw9⟩
            | false =>
              have EE := Lib.hid (HE4.out.trans (if_neg (by simp)))
              clear HE4
              go_wp2
              go_ret2
              first
                | exact ⟨.slice none 0 0, [], by rw [EE.out]; rfl, Chs.nil _, by rw [EE.out]; rfl, hbw9⟩
                | exact ⟨.slice none 0 0, by rw [EE.out]; rfl, [], Chs.nil _, by rw [EE.out]; rfl, hbw9⟩
    · have EE := Lib.hid (HE2.out.trans (if_pos hy))
      have hy' := beqF hy
      clear HE2 HGB hy
      go_wp2
      go_ret2
      first
        | exact ⟨.slice none 0 0, [], by rw [EE.out]; rfl, Chs.nil _, by rw [EE.out]; rfl, hbw2⟩
        | exact ⟨.slice none 0 0, by rw [EE.out]; rfl, [], Chs.nil _, by rw [EE.out]; rfl, hbw2⟩
  · have EE := Lib.hid (HE.out.trans (if_pos hy))
    have hy' := beqF hy
    clear HE HGA hy
    go_wp2
    go_ret2
    first
      | exact ⟨.slice none 0 0, [], by rw [EE.out]; rfl, Chs.nil _, by rw [EE.out]; rfl, hb1'⟩
      | exact ⟨.slice none 0 0, by rw [EE.out]; rfl, [], Chs.nil _, by rw [EE.out]; rfl, hb1'⟩

end Go.Proofs.YtelmlagolmabpaaDoor
