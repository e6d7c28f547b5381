/-
  told.
-/
import Derived.Test.YtelmlagolmabpaaDoorChg21
set_option linter.unusedSimpArgs false
set_option linter.unusedVariables false
namespace Go.Proofs.YtelmlagolmabpaaDoor
open Go.RowKit Go.Maps

abbrev KL := List (Int × List Val)
def dels (A : AV) : KL := A.flatMap fun p => List.replicate (-p.2).toNat (2, p.1)
def inss (A : AV) : KL := A.flatMap fun p => List.replicate p.2.toNat (1, p.1)
def tell (A : AV) : KL := dels A ++ inss A
def toldS (A : AV) : KL × Bool := if (tell A).length ≤ 4096 then (tell A, true) else ([], false)
theorem told_yes {A : AV} (h : (tell A).length ≤ 4096) : toldS A = (tell A, true) := if_pos h
theorem told_no {A : AV} (h : 4096 < (tell A).length) : toldS A = ([], false) := if_neg (by omega)
theorem dels_app (a b : AV) : dels (a ++ b) = dels a ++ dels b := List.flatMap_append
theorem inss_app (a b : AV) : inss (a ++ b) = inss a ++ inss b := List.flatMap_append
theorem dels_take {A : AV} {k : Nat} {p : List Val × Int} (h : A[k]? = some p) : dels (A.take (k + 1)) = dels (A.take k) ++ List.replicate (-p.2).toNat (2, p.1) := by
  rw [List.take_add_one, h, dels_app]; simp [dels]
theorem inss_take {A : AV} {k : Nat} {p : List Val × Int} (h : A[k]? = some p) : inss (A.take (k + 1)) = inss (A.take k) ++ List.replicate p.2.toNat (1, p.1) := by
  rw [List.take_add_one, h, inss_app]; simp [inss]
theorem dels_len (A : AV) (k : Nat) : (dels (A.take k)).length ≤ (tell A).length := by
  have : dels A = dels (A.take k) ++ dels (A.drop k) := by rw [← dels_app, List.take_append_drop]
  rw [tell, this]; simp only [List.length_append]; omega
theorem inss_len (A : AV) (k : Nat) : (dels A ++ inss (A.take k)).length ≤ (tell A).length := by
  have : inss A = inss (A.take k) ++ inss (A.drop k) := by rw [← inss_app, List.take_append_drop]
  rw [tell, this]; simp only [List.length_append]; omega
theorem ac_len (l : List Chn) : (ac l).length = l.length := by unfold ac; rw [List.length_map]

set_option maxHeartbeats 4000000 in
set_option maxRecDepth 100000 in
theorem told_any {M N : Nat} {A : AV} (w : World) (hp : Pile w M N A) (hA : Rises A) (hn : A.length ≤ 1000000) (hb : ∀ p ∈ A, -1099511627776 ≤ p.2 ∧ p.2 ≤ 1099511627776) :
    Calls Tryd.prog 80 #[.map (some M)] w fun e w' => ∃ v l, e = .returned (.tuple #[v, .bool (toldS A).2]) ∧ Chs w' v l ∧ ac l = (toldS A).1 ∧ Below w.heap.size w w' := by
  have HA := Lib.hid hA
  have HB := Lib.hid hb
  have hM := hp.lt
  have HTY := Lib.hid (@told_yes A)
  have HTN := Lib.hid (@told_no A)
  generalize toldS A = T at HTY HTN ⊢
  have hb0 := below_alloc w (.cells #[.slice none 0 0] 52)
  have HP1 := Lib.hid (hp.below hb0)
  have HBX := Lib.hid (Blk.new w 52 #[.slice none 0 0])
  clear hA hb hp
  go_enter Tryd.func80, Tryd.ntmps80
  go_wp2_with fail
  refine (keys_any _ HP1.out HA.out hn).mono ?_
  rintro e w1 ⟨vk, rfl, hown, hb1⟩
  have HGE := Lib.hid (own_ge hown)
  have HS := Lib.hid (Sl.of_own hown)
  rw [show A.length = (A.map fun p => Value.string (str (keyRow p.1))).length from by rw [List.length_map]] at HS
  clear hown
  generalize hks : (A.map fun p => Value.string (str (keyRow p.1))) = ks at HS
  have HKS := Lib.hid hks
  have hkl : ks.length = A.length := by rw [← hks, List.length_map]
  obtain ⟨Ak, ck, rfl, hc1, hc2, -, hcell⟩ := id HS.out
  have HC := Lib.hid hcell
  have HKL := Lib.hid hkl
  unfold maxLen at hc2
  rw [hkl] at hc1
  clear hks hcell hkl
  rw [HKL.out]
  have HP2 := Lib.hid (HP1.out.below hb1)
  have HBX2 := Lib.hid (HBX.out.below hb1)
  have hs1 : w.heap.size + 1 ≤ w1.heap.size := by have := hb1.size; simpa using this
  have hbw1 := below_trans hb0 hb1
  clear HP1 HBX
  go_wp2_with fail
  go_loopw [8, 16] (fun _ i wr => ∃ (k : Nat) (v' : Value) (o : List Chn), i = .int .i64 k ∧ k ≤ A.length ∧ Hid (ac o = dels (A.take k)) ∧ o.length ≤ 4096 ∧ Hid (OwnC wr w1.heap.size v' o) ∧ Hid (Blk wr w.heap.size 52 #[v']) ∧ w1.grownBy wr (some w.heap.size)) (fun _ i _ => A.length - (intOf i).toNat)
  case atStart => exact ⟨0, _, [], rfl, by omega, Lib.hid (by simp [dels, ac]), by simp, OwnC.nil w1 w1.heap.size, HBX2, World.grownBy.refl w1 _⟩
  case round =>
    obtain ⟨k, v', o, rfl, hk, HAC, hol, HO, HBr, hgr⟩ := hrel
    by_cases hlt : k < A.length
    · have hx := List.getElem?_eq_getElem (l := A) hlt
      generalize A[k] = x at hx
      have hmem := List.mem_of_getElem? hx
      have HG := Lib.hid (HA.out.good x hmem)
      have hnb := HB.out x hmem
      have hlk := look_at HA.out hx
      have HT := Lib.hid (dels_take hx)
      obtain ⟨g, off, rfl, hcc⟩ := HC.out (by intro h0; have := HKL.out; rw [h0] at this; simp at this; omega)
      have hgP : g ≠ w.heap.size := by have := HGE.out g rfl; simp at this; omega
      have hck := hcc k (.string (str (keyRow x.1))) (by rw [← HKS.out, List.getElem?_map, hx]; rfl)
      have hgl := World.block_lt_of_cell? w1 _ hck
      have d1 : wr.cell? ⟨g, off + k, none⟩ = some (.string (str (keyRow x.1))) := (World.cell?_of_block (hgr.block g hgl (fun e => hgP (by injection e)))).trans hck
      have HKY := Lib.hid (keyS HG.out)
      obtain ⟨n2, -, hmap⟩ := HP2.out
      have hmap2 := hmap.kept hgr (by intro e; injection e with e; omega)
      obtain ⟨c, hrun, hat, -⟩ := hmap2.lookup_int (t := 89) lawS Tryd.underlying89 Tryd.underlying3 (zeroS _) HKY.out
      obtain rfl := lit_inj (hat.symm.trans (mkD_at HA.out.good HG.out))
      rw [hlk] at hrun
      have HSAY := Lib.hid (fun n h => say_any w.heap.size v' o 2 n x.1 w1 wr hgr (by omega) HBr.out HO.out hol HG.out h)
      generalize str (keyRow x.1) = ky at d1 HKY hrun HSAY
      obtain ⟨r, n⟩ := x
      simp only at hnb hrun HSAY HT HG
      clear hx hmem hcc hck hat hmap hmap2 hlk
      have k0 : (0 : Int) ≤ (k : Int) := by omega
      have k1 : (k : Int) < (A.length : Int) := by omega
      by_cases hneg : n < 0
      · have HSY := Lib.hid (HSAY.out (-n) (by omega))
        have hwn : IntKind.i64.wrap (-n) = -n := by rw [IntKind.wrap_i64]; omega
        clear HSAY
        go_wp2_with fail
        refine (HSY.out).mono ?_
        rintro e w2 (⟨hq, rfl, hg2, hsz⟩ | ⟨hq, rfl, v2, o2, hO2, ha2, hB2, hg2⟩)
        · have EE := Lib.hid (HTN.out (by
            have h1 := dels_len A (k + 1)
            rw [HT.out, ← HAC.out, List.length_append, List.length_replicate, ac_len] at h1
            omega))
          have hbw : Below w.heap.size w w2 := hbw1.grown hg2 (by omega) (fun j hj => by cases hj; exact Nat.le_refl _)
          go_wp2
          go_ret2
          first
            | exact ⟨.slice none 0 0, [], by rw [EE.out]; rfl, Chs.nil _, by rw [EE.out]; rfl, hbw⟩
            | exact ⟨.slice none 0 0, by rw [EE.out]; rfl, [], Chs.nil _, by rw [EE.out]; rfl, hbw⟩
        · have HA2 : Hid (ac o2 = dels (A.take (k + 1))) := Lib.hid (by rw [HT.out, ha2, HAC.out])
          have ho2 : o2.length ≤ 4096 := by
            have h1 := congrArg List.length ha2
            rw [ac_len, List.length_append, List.length_replicate, ac_len] at h1
            omega
          have HO2 := Lib.hid hO2
          have HB2 := Lib.hid hB2
          clear hO2 hB2 ha2
          go_wp2
          go_roundw
          case rel => exact ⟨k + 1, _, o2, by go_num, by omega, HA2.out, ho2, HO2.out, HB2.out, hg2⟩
          case measure => simp [intOf]; omega
      · have HA2 : Hid (ac o = dels (A.take (k + 1))) := Lib.hid (by rw [HT.out, HAC.out, show (-n).toNat = 0 from by omega]; simp)
        clear HSAY
        go_wp2
        go_roundw
        case rel => exact ⟨k + 1, _, o, by go_num, by omega, HA2.out, hol, HO.out, HBr.out, hgr⟩
        case measure => simp [intOf]; omega
    · obtain rfl : k = A.length := by omega
      have HA1 : Hid (ac o = dels A) := Lib.hid (by rw [HAC.out, List.take_of_length_le (Nat.le_refl _)])
      clear HAC
      revert hol HO HBr hgr HA1
      generalize o = o1
      intro hol1 HO1 HB1 hgr1 HA1
      clear hlt hk
      go_wp2_with fail
      go_loopw [10, 37] (fun _ i wr => ∃ (k : Nat) (v' : Value) (o : List Chn), i = .int .i64 k ∧ k ≤ A.length ∧ Hid (ac o = dels A ++ inss (A.take k)) ∧ o.length ≤ 4096 ∧ Hid (OwnC wr w1.heap.size v' o) ∧ Hid (Blk wr w.heap.size 52 #[v']) ∧ w1.grownBy wr (some w.heap.size)) (fun _ i _ => A.length - (intOf i).toNat)
      case atStart => exact ⟨0, _, o1, rfl, by omega, Lib.hid (by rw [HA1.out]; simp [inss]), hol1, HO1, HB1, hgr1⟩
      case round =>
        obtain ⟨k, v', o, rfl, hk, HAC, hol, HO, HBr, hgr⟩ := hrel
        by_cases hlt : k < A.length
        · have hx := List.getElem?_eq_getElem (l := A) hlt
          generalize A[k] = x at hx
          have hmem := List.mem_of_getElem? hx
          have HG := Lib.hid (HA.out.good x hmem)
          have hnb := HB.out x hmem
          have hlk := look_at HA.out hx
          have HT := Lib.hid (inss_take hx)
          obtain ⟨g, off, rfl, hcc⟩ := HC.out (by intro h0; have := HKL.out; rw [h0] at this; simp at this; omega)
          have hgP : g ≠ w.heap.size := by have := HGE.out g rfl; simp at this; omega
          have hck := hcc k (.string (str (keyRow x.1))) (by rw [← HKS.out, List.getElem?_map, hx]; rfl)
          have hgl := World.block_lt_of_cell? w1 _ hck
          have d1 : wr.cell? ⟨g, off + k, none⟩ = some (.string (str (keyRow x.1))) := (World.cell?_of_block (hgr.block g hgl (fun e => hgP (by injection e)))).trans hck
          have HKY := Lib.hid (keyS HG.out)
          obtain ⟨n2, -, hmap⟩ := HP2.out
          have hmap2 := hmap.kept hgr (by intro e; injection e with e; omega)
          obtain ⟨c, hrun, hat, -⟩ := hmap2.lookup_int (t := 89) lawS Tryd.underlying89 Tryd.underlying3 (zeroS _) HKY.out
          obtain rfl := lit_inj (hat.symm.trans (mkD_at HA.out.good HG.out))
          rw [hlk] at hrun
          have HSAY := Lib.hid (fun n h => say_any w.heap.size v' o 1 n x.1 w1 wr hgr (by omega) HBr.out HO.out hol HG.out h)
          generalize str (keyRow x.1) = ky at d1 HKY hrun HSAY
          obtain ⟨r, n⟩ := x
          simp only at hnb hrun HSAY HT HG
          clear hx hmem hcc hck hat hmap hmap2 hlk
          have k0 : (0 : Int) ≤ (k : Int) := by omega
          have k1 : (k : Int) < (A.length : Int) := by omega
          by_cases hneg : 0 < n
          · have HSY := Lib.hid (HSAY.out n (by omega))
            clear HSAY
            go_wp2_with fail
            refine (HSY.out).mono ?_
            rintro e w2 (⟨hq, rfl, hg2, hsz⟩ | ⟨hq, rfl, v2, o2, hO2, ha2, hB2, hg2⟩)
            · have EE := Lib.hid (HTN.out (by
                have h1 := inss_len A (k + 1)
                rw [HT.out, ← List.append_assoc, ← HAC.out, List.length_append, List.length_replicate, ac_len] at h1
                omega))
              have hbw : Below w.heap.size w w2 := hbw1.grown hg2 (by omega) (fun j hj => by cases hj; exact Nat.le_refl _)
              go_wp2
              go_ret2
              first
                | exact ⟨.slice none 0 0, [], by rw [EE.out]; rfl, Chs.nil _, by rw [EE.out]; rfl, hbw⟩
                | exact ⟨.slice none 0 0, by rw [EE.out]; rfl, [], Chs.nil _, by rw [EE.out]; rfl, hbw⟩
            · have HA2 : Hid (ac o2 = dels A ++ inss (A.take (k + 1))) := Lib.hid (by rw [HT.out, ha2, HAC.out, List.append_assoc])
              have ho2 : o2.length ≤ 4096 := by
                have h1 := congrArg List.length ha2
                rw [ac_len, List.length_append, List.length_replicate, ac_len] at h1
                omega
              have HO2 := Lib.hid hO2
              have HB2 := Lib.hid hB2
              clear hO2 hB2 ha2
              go_wp2
              go_roundw
              case rel => exact ⟨k + 1, _, o2, by go_num, by omega, HA2.out, ho2, HO2.out, HB2.out, hg2⟩
              case measure => simp [intOf]; omega
          · have HA2 : Hid (ac o = dels A ++ inss (A.take (k + 1))) := Lib.hid (by rw [HT.out, HAC.out, show (n).toNat = 0 from by omega]; simp)
            clear HSAY
            go_wp2
            go_roundw
            case rel => exact ⟨k + 1, _, o, by go_num, by omega, HA2.out, hol, HO.out, HBr.out, hgr⟩
            case measure => simp [intOf]; omega
        · obtain rfl : k = A.length := by omega
          have EE := Lib.hid (HTY.out (by rw [tell]; have h1 := congrArg List.length HAC.out; rw [ac_len, List.take_of_length_le (Nat.le_refl _)] at h1; omega))
          have HA3 : Hid (ac o = tell A) := Lib.hid (by rw [HAC.out, List.take_of_length_le (Nat.le_refl _)]; rfl)
          have y0 := HBr.out.cell 0 _ rfl
          have hbw : Below w.heap.size w wr := hbw1.grown hgr (by omega) (fun j hj => by cases hj; exact Nat.le_refl _)
          have HCH := Lib.hid HO.out.chs
          clear HAC
          go_wp2
          go_ret2
          first
            | exact ⟨_, o, by rw [EE.out]; rfl, HCH.out, by rw [EE.out]; exact HA3.out, hbw⟩
            | exact ⟨_, by rw [EE.out]; rfl, o, HCH.out, by rw [EE.out]; exact HA3.out, hbw⟩

end Go.Proofs.YtelmlagolmabpaaDoor
