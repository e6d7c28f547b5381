/-
  The reference's told.
-/
import Derived.Test.YtelmlagolmabpaaDoorChg22
import Derived.Test.YtelmlagolmabpaaDoorChgM4
set_option linter.unusedSimpArgs false
set_option linter.unusedVariables false
namespace Go.Proofs.YtelmlagolmabpaaDoor
open Go.RowKit Go.Maps

theorem one_at {w : World} {cs : List Value} {v : Value} {m : Nat} (h : Sl w v m cs) {A : Option Addr} {n c : Nat} (hv : v = .slice A n c) {k : Nat} {u : Value} (hk : cs[k]? = some u) :
    ∃ b off, A = some ⟨b, off, none⟩ ∧ b < w.heap.size ∧ ∀ w', Below w.heap.size w w' → w'.cell? ⟨b, off + k, none⟩ = some u := by
  obtain ⟨A', c', hv', h1, h2, -, h3⟩ := h
  rw [hv] at hv'
  injection hv' with e1 e2 e3
  subst e1
  obtain ⟨b, off, hA, hc⟩ := h3 (by intro h0; rw [h0] at hk; simp at hk)
  have c1 := hc _ _ hk
  exact ⟨b, off, hA, World.block_lt_of_cell? w _ c1, fun w' hb => cell_below hb c1⟩

def kindJ (j : Nat) : Int := if j = 0 then 2 else 1
def preJ (A : AV) (j : Nat) : KL := if j = 0 then [] else if j = 1 then dels A else tell A
def gainJ (j : Nat) (A : AV) : KL := if j = 0 then dels A else inss A
def TurnOf (j : Nat) (t : Int) : Prop := (j = 0 ∧ t = -1) ∨ (j = 1 ∧ t = 1) ∨ (j = 2 ∧ t = 3)
theorem pre_next {j : Nat} (A : AV) (hj : j < 2) : preJ A (j + 1) = preJ A j ++ gainJ j A := by
  have : j = 0 ∨ j = 1 := by omega
  rcases this with rfl | rfl <;> simp [preJ, gainJ, tell]
theorem gain_take {A : AV} {k j : Nat} {t : Int} {p : List Val × Int} (hj : j < 2) (ht : TurnOf j t) (h : A[k]? = some p) : gainJ j (A.take (k + 1)) = gainJ j (A.take k) ++ List.replicate (p.2 * t).toNat (kindJ j, p.1) := by
  rcases ht with ⟨rfl, rfl⟩ | ⟨rfl, rfl⟩ | ⟨rfl, -⟩
  · have e : p.2 * -1 = -p.2 := by omega
    simp only [gainJ, if_true, kindJ, e]; exact dels_take h
  · have e : p.2 * 1 = p.2 := by omega
    simp only [gainJ, kindJ, e]; exact inss_take h
  · omega
theorem gain_len {A : AV} {k j : Nat} (hj : j < 2) : (preJ A j ++ gainJ j (A.take k)).length ≤ (tell A).length := by
  have : j = 0 ∨ j = 1 := by omega
  rcases this with rfl | rfl
  · simpa [preJ, gainJ] using dels_len A k
  · simpa [preJ, gainJ] using inss_len A k

set_option maxHeartbeats 4000000 in
set_option maxRecDepth 100000 in
theorem rtold_any (vr vn : Value) (l : List Cnt) (w : World) (h1 : Sl w vr l.length (l.map Cnt.v)) (h2 : Sl w vn l.length (l.map fun c => .int .i64 c.n)) (hs : ∀ c ∈ l, Sl w c.v c.r.length (rowCells c.r)) (h8 : ∀ c ∈ l, c.r.length ≤ 8) (hn : ∀ c ∈ l, -1099511627776 ≤ c.n ∧ c.n ≤ 1099511627776) :
    Calls Tryd.prog 82 #[vr, vn] w fun e w' => ∃ v l', e = .returned (.tuple #[v, .bool (toldS (av l)).2]) ∧ Chs w' v l' ∧ ac l' = (toldS (av l)).1 ∧ Below w.heap.size w w' := by
  have HR := Lib.hid h1
  have HI := Lib.hid h2
  have HS := Lib.hid hs
  have H8 := Lib.hid h8
  have HB := Lib.hid hn
  obtain ⟨Ar, cr, rfl, hr1, hr2, -⟩ := id h1
  obtain ⟨An, cn, rfl, hn1, hn2, -⟩ := id h2
  have HTY := Lib.hid (@told_yes (av l))
  have HTN := Lib.hid (@told_no (av l))
  generalize toldS (av l) = T at HTY HTN ⊢
  unfold maxLen at hr2 hn2
  clear h1 h2 hs h8 hn
  go_enter Tryd.func82, Tryd.ntmps82
  go_wp2_with fail
  go_loopw [6, 7, 8, 9, 10] (fun out t _ _ _ wr => ∃ (j : Nat) (tt : Int) (v' : Value) (o : List Chn), v' = out ∧ t = .int .i64 tt ∧ Hid (TurnOf j tt) ∧ o.length ≤ 4096 ∧ Hid (ac o = preJ (av l) j) ∧ Hid (OwnC wr w.heap.size v' o) ∧ Below w.heap.size w wr) (fun _ t _ _ _ _ => (4 - intOf t).toNat)
  case atStart => exact ⟨0, _, _, [], rfl, rfl, Lib.hid (.inl ⟨rfl, rfl⟩), by simp, Lib.hid rfl, Lib.hid (OwnC.nil w w.heap.size), Below.refl _ _⟩
  case round =>
    obtain ⟨j, tt, v', o, rfl, rfl, HT, hol, HA, HO, hbw⟩ := hrel
    by_cases hj : j < 2
    · have htt : tt = -1 ∨ tt = 1 := by rcases HT.out with ⟨-, h⟩ | ⟨-, h⟩ | ⟨h, -⟩ <;> omega
      have ht1 : tt ≤ 1 := by omega
      go_wp2_with fail
      go_loopw [6, 8, 9, 10] (fun out i _ _ wr => ∃ (k : Nat) (v' : Value) (o : List Chn), v' = out ∧ i = .int .i64 k ∧ k ≤ l.length ∧ o.length ≤ 4096 ∧ Hid (ac o = preJ (av l) j ++ gainJ j ((av l).take k)) ∧ Hid (OwnC wr w.heap.size v' o) ∧ Below w.heap.size w wr) (fun _ i _ _ _ => l.length - (intOf i).toNat)
      case atStart => exact ⟨0, v', o, rfl, rfl, by omega, hol, Lib.hid (by rw [HA.out]; unfold gainJ; split <;> simp [dels, inss]), HO, hbw⟩
      case round =>
        clear hbw HO HA hol
        obtain ⟨k, v', o, rfl, rfl, hk, hol, HA, HO, hbw⟩ := hrel
        by_cases hlt : k < l.length
        · have hx := List.getElem?_eq_getElem (l := l) hlt
          generalize l[k] = x at hx
          have hmem := List.mem_of_getElem? hx
          have HRX := Lib.hid (HS.out x hmem)
          have h8 := H8.out x hmem
          have hxn := HB.out x hmem
          have HG := Lib.hid (gain_take (A := av l) hj HT.out (k := k) (p := (x.r, x.n)) (by unfold av; rw [List.getElem?_map, hx]; rfl))
          obtain ⟨g, off, rfl, -, hc⟩ := one_at HR.out rfl (k := k) (u := x.v) (by rw [List.getElem?_map, hx]; rfl)
          obtain ⟨g', off', rfl, -, hc'⟩ := one_at HI.out rfl (k := k) (u := .int .i64 x.n) (by rw [List.getElem?_map, hx]; rfl)
          have HC := Lib.hid hc
          have HC' := Lib.hid hc'
          clear hx hmem hc hc'
          obtain ⟨xv, xr, xn⟩ := x
          simp only at HRX h8 hxn HG HC HC'
          obtain ⟨Ax, cx, rfl, -⟩ := id HRX.out
          have k0 : (0 : Int) ≤ (k : Int) := by omega
          have k1 : (k : Int) < (l.length : Int) := by omega
          obtain ⟨q, hq, hqb⟩ : ∃ q, xn * tt = q ∧ -1099511627776 ≤ q ∧ q ≤ 1099511627776 := ⟨_, rfl, by rcases htt with rfl | rfl <;> omega⟩
          have hw : IntKind.i64.wrap (xn * tt) = q := by rw [hq, IntKind.wrap_i64]; omega
          rw [hq] at HG
          obtain ⟨K, hK⟩ : ∃ K, kindJ j = K := ⟨_, rfl⟩
          have hcase : (tt < 0 ∧ K = 2) ∨ (¬ tt < 0 ∧ K = 1) := by
            rcases HT.out with ⟨h, h'⟩ | ⟨h, h'⟩ | ⟨h, h'⟩
            · exact .inl ⟨by omega, by rw [← hK, h]; rfl⟩
            · exact .inr ⟨by omega, by rw [← hK, h]; rfl⟩
            · omega
          rw [hK] at HG
          clear hq hK
          rcases hcase with ⟨ht, rfl⟩ | ⟨ht, rfl⟩
          · go_wp2_with fail
            go_loopw [6, 10] (fun out m wr => ∃ (i : Nat) (v' : Value) (o' : List Chn), v' = out ∧ m = .int .i64 i ∧ i ≤ q.toNat ∧ o'.length ≤ 4096 ∧ Hid (ac o' = ac o ++ List.replicate i (2, xr)) ∧ Hid (OwnC wr w.heap.size v' o') ∧ Below w.heap.size w wr) (fun _ m _ => q.toNat - (intOf m).toNat)
            case atStart => exact ⟨0, v', o, rfl, rfl, by omega, hol, Lib.hid (by simp), HO, hbw⟩
            case round =>
              have HA0 := HA
              clear hbw HO HA
              obtain ⟨i, v', o', rfl, rfl, hi, hol', HA, HO, hbw⟩ := hrel
              have d1 := HC.out _ hbw
              have d2 := HC'.out _ hbw
              obtain ⟨Ao, co, e0, -, hc2, -⟩ := Sl.of_own HO.out.own
              subst e0
              unfold maxLen at hc2
              by_cases hlq : (i : Int) < q
              · by_cases hfull : o'.length = 4096
                · have hfb : ((o'.length : Int) == 4096) = true := by simp [hfull]
                  have EE := Lib.hid (HTN.out (by
                    have h3 := gain_len (A := av l) (k := k + 1) hj
                    have h4 : q.toNat = (q.toNat - i) + i := by omega
                    rw [HG.out, ← List.append_assoc, ← HA0.out, List.length_append, List.length_replicate] at h3
                    have h5 := congrArg List.length HA.out
                    rw [ac_len, List.length_append, List.length_replicate] at h5
                    omega))
                  go_wp2
                  go_ret2
                  first
                    | exact ⟨.slice none 0 0, [], by rw [EE.out]; rfl, Chs.nil _, by rw [EE.out]; rfl, hbw⟩
                    | exact ⟨.slice none 0 0, by rw [EE.out]; rfl, [], Chs.nil _, by rw [EE.out]; rfl, hbw⟩
                · have hfb : ((o'.length : Int) == 4096) = false := by simp; omega
                  have hu : Hid (∀ y, (Value.slice Ao o'.length co).ownBlock = some y → y < wr.heap.size) := Lib.hid (own_lt HO.out.own)
                  go_wp2_with fail
                  refine (copy_any _ xr _ (HRX.out.below hbw) h8).mono ?_
                  rintro e w2 ⟨v2, rfl, hs2, hf2, hb2⟩
                  have hbw2 := below_trans hbw hb2
                  have HO2 := Lib.hid (HO.out.below hb2)
                  have HS2 := Lib.hid hs2
                  have HF2 := Lib.hid (fun y (hy : v2.ownBlock = some y) => And.intro (Nat.le_trans hbw.size (hf2 y hy).1) (And.intro (hf2 y hy).2 (fun e => Nat.lt_irrefl _ (Nat.lt_of_lt_of_le (hu.out y e) (hf2 y hy).1))))
                  obtain ⟨A2, c2, rfl, -⟩ := id hs2
                  clear hs2 hf2
                  have HO3 := Lib.hid (HO2.out.alloc (.cells #[.int .i64 2, .slice A2 xr.length c2] 92))
                  have hbw3 := hbw2.alloc hbw2.size (.cells #[.int .i64 2, .slice A2 xr.length c2] 92)
                  go_wp2_with
                    (at_builtin
                     refine wpList_app rfl (.tmp 36) (.tmp 44) 52 rfl w.heap.size 92 2 32 Tryd.underlying52 chgI (.slice Ao o'.length co) o'.length _ rfl HO3.out.own _ 1 (Chn.cells ⟨.slice A2 xr.length c2, xr, 2⟩) rfl (one_chn w2 ⟨.slice A2 xr.length c2, xr, 2⟩) rfl (chn_one HS2.out) (by unfold maxLen; omega) (by omega) hbw3.size ?_
                     intro v4 w4 hown4 hg4 hat4)
                  have hbw4 := below_grown hbw3 hg4 (own_ge HO2.out.own)
                  have HN : Hid (OwnC w4 w.heap.size v4 (o' ++ [⟨.slice A2 xr.length c2, xr, 2⟩])) := Lib.hid (HO3.out.snoc hown4 hg4 hat4 (HS2.out.below (below_alloc _ _)) (fun y hy => ⟨(HF2.out y hy).1, Nat.lt_of_lt_of_le (HF2.out y hy).2.1 (by simp), (HF2.out y hy).2.2⟩))
                  have HAN : Hid (ac (o' ++ [⟨.slice A2 xr.length c2, xr, 2⟩]) = ac o ++ List.replicate (i + 1) (2, xr)) := Lib.hid (by
                    rw [List.replicate_succ', ← List.append_assoc, ← HA.out]; simp [ac])
                  clear hown4 hg4 hat4
                  go_wp2
                  go_roundw
                  case rel => exact ⟨i + 1, _, _, rfl, by go_num, by omega, by rw [List.length_append, List.length_singleton]; omega, HAN.out, HN.out, hbw4⟩
                  case measure => simp [intOf]; omega
              · have hiq : i = q.toNat := by omega
                have HA2 : Hid (ac o' = preJ (av l) j ++ gainJ j ((av l).take (k + 1))) := Lib.hid (by rw [HG.out, ← List.append_assoc, ← HA0.out, HA.out, hiq])
                clear hiq
                go_wp2
                go_roundw
                case rel => exact ⟨k + 1, _, o', rfl, by go_num, by omega, hol', HA2.out, HO.out, hbw⟩
                case measure => simp [intOf]; omega
          · go_wp2_with fail
            go_loopw [6, 10] (fun out m wr => ∃ (i : Nat) (v' : Value) (o' : List Chn), v' = out ∧ m = .int .i64 i ∧ i ≤ q.toNat ∧ o'.length ≤ 4096 ∧ Hid (ac o' = ac o ++ List.replicate i (1, xr)) ∧ Hid (OwnC wr w.heap.size v' o') ∧ Below w.heap.size w wr) (fun _ m _ => q.toNat - (intOf m).toNat)
            case atStart => exact ⟨0, v', o, rfl, rfl, by omega, hol, Lib.hid (by simp), HO, hbw⟩
            case round =>
              have HA0 := HA
              clear hbw HO HA
              obtain ⟨i, v', o', rfl, rfl, hi, hol', HA, HO, hbw⟩ := hrel
              have d1 := HC.out _ hbw
              have d2 := HC'.out _ hbw
              obtain ⟨Ao, co, e0, -, hc2, -⟩ := Sl.of_own HO.out.own
              subst e0
              unfold maxLen at hc2
              by_cases hlq : (i : Int) < q
              · by_cases hfull : o'.length = 4096
                · have hfb : ((o'.length : Int) == 4096) = true := by simp [hfull]
                  have EE := Lib.hid (HTN.out (by
                    have h3 := gain_len (A := av l) (k := k + 1) hj
                    have h4 : q.toNat = (q.toNat - i) + i := by omega
                    rw [HG.out, ← List.append_assoc, ← HA0.out, List.length_append, List.length_replicate] at h3
                    have h5 := congrArg List.length HA.out
                    rw [ac_len, List.length_append, List.length_replicate] at h5
                    omega))
                  go_wp2
                  go_ret2
                  first
                    | exact ⟨.slice none 0 0, [], by rw [EE.out]; rfl, Chs.nil _, by rw [EE.out]; rfl, hbw⟩
                    | exact ⟨.slice none 0 0, by rw [EE.out]; rfl, [], Chs.nil _, by rw [EE.out]; rfl, hbw⟩
                · have hfb : ((o'.length : Int) == 4096) = false := by simp; omega
                  have hu : Hid (∀ y, (Value.slice Ao o'.length co).ownBlock = some y → y < wr.heap.size) := Lib.hid (own_lt HO.out.own)
                  go_wp2_with fail
                  refine (copy_any _ xr _ (HRX.out.below hbw) h8).mono ?_
                  rintro e w2 ⟨v2, rfl, hs2, hf2, hb2⟩
                  have hbw2 := below_trans hbw hb2
                  have HO2 := Lib.hid (HO.out.below hb2)
                  have HS2 := Lib.hid hs2
                  have HF2 := Lib.hid (fun y (hy : v2.ownBlock = some y) => And.intro (Nat.le_trans hbw.size (hf2 y hy).1) (And.intro (hf2 y hy).2 (fun e => Nat.lt_irrefl _ (Nat.lt_of_lt_of_le (hu.out y e) (hf2 y hy).1))))
                  obtain ⟨A2, c2, rfl, -⟩ := id hs2
                  clear hs2 hf2
                  have HO3 := Lib.hid (HO2.out.alloc (.cells #[.int .i64 1, .slice A2 xr.length c2] 92))
                  have hbw3 := hbw2.alloc hbw2.size (.cells #[.int .i64 1, .slice A2 xr.length c2] 92)
                  go_wp2_with
                    (at_builtin
                     refine wpList_app rfl (.tmp 36) (.tmp 44) 52 rfl w.heap.size 92 2 32 Tryd.underlying52 chgI (.slice Ao o'.length co) o'.length _ rfl HO3.out.own _ 1 (Chn.cells ⟨.slice A2 xr.length c2, xr, 1⟩) rfl (one_chn w2 ⟨.slice A2 xr.length c2, xr, 1⟩) rfl (chn_one HS2.out) (by unfold maxLen; omega) (by omega) hbw3.size ?_
                     intro v4 w4 hown4 hg4 hat4)
                  have hbw4 := below_grown hbw3 hg4 (own_ge HO2.out.own)
                  have HN : Hid (OwnC w4 w.heap.size v4 (o' ++ [⟨.slice A2 xr.length c2, xr, 1⟩])) := Lib.hid (HO3.out.snoc hown4 hg4 hat4 (HS2.out.below (below_alloc _ _)) (fun y hy => ⟨(HF2.out y hy).1, Nat.lt_of_lt_of_le (HF2.out y hy).2.1 (by simp), (HF2.out y hy).2.2⟩))
                  have HAN : Hid (ac (o' ++ [⟨.slice A2 xr.length c2, xr, 1⟩]) = ac o ++ List.replicate (i + 1) (1, xr)) := Lib.hid (by
                    rw [List.replicate_succ', ← List.append_assoc, ← HA.out]; simp [ac])
                  clear hown4 hg4 hat4
                  go_wp2
                  go_roundw
                  case rel => exact ⟨i + 1, _, _, rfl, by go_num, by omega, by rw [List.length_append, List.length_singleton]; omega, HAN.out, HN.out, hbw4⟩
                  case measure => simp [intOf]; omega
              · have hiq : i = q.toNat := by omega
                have HA2 : Hid (ac o' = preJ (av l) j ++ gainJ j ((av l).take (k + 1))) := Lib.hid (by rw [HG.out, ← List.append_assoc, ← HA0.out, HA.out, hiq])
                clear hiq
                go_wp2
                go_roundw
                case rel => exact ⟨k + 1, _, o', rfl, by go_num, by omega, hol', HA2.out, HO.out, hbw⟩
                case measure => simp [intOf]; omega
        · have hkl : k = l.length := by omega
          have HA2 : Hid (ac o = preJ (av l) (j + 1)) := Lib.hid (by rw [HA.out, pre_next _ hj, hkl, List.take_of_length_le (by unfold av; rw [List.length_map]; exact Nat.le_refl _)])
          have HT2 : Hid (TurnOf (j + 1) (tt + 2)) := Lib.hid (by
            rcases HT.out with ⟨h, h'⟩ | ⟨h, h'⟩ | ⟨h, h'⟩
            · exact .inr (.inl ⟨by omega, by omega⟩)
            · exact .inr (.inr ⟨by omega, by omega⟩)
            · omega)
          have hw2 : IntKind.i64.wrap (tt + 2) = tt + 2 := by rw [IntKind.wrap_i64]; omega
          clear hkl
          go_wp2
          go_roundw
          case rel => exact ⟨j + 1, tt + 2, _, o, rfl, rfl, HT2.out, hol, HA2.out, HO.out, hbw⟩
          case measure => simp [intOf]; omega
    · have ht3 : tt = 3 ∧ j = 2 := by rcases HT.out with ⟨h, h'⟩ | ⟨h, h'⟩ | ⟨h, h'⟩ <;> omega
      obtain ⟨rfl, rfl⟩ := ht3
      have EE := Lib.hid (HTY.out (by
        have h5 := congrArg List.length HA.out
        rw [ac_len] at h5
        simp only [preJ] at h5
        simp at h5
        omega))
      go_wp2
      go_ret2
      first
        | exact ⟨_, o, by rw [EE.out]; rfl, HO.out.chs, by rw [EE.out]; exact HA.out, hbw⟩
        | exact ⟨_, by rw [EE.out]; rfl, o, HO.out.chs, by rw [EE.out]; exact HA.out, hbw⟩

end Go.Proofs.YtelmlagolmabpaaDoor
