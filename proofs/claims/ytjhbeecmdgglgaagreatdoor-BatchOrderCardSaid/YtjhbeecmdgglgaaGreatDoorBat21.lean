/-
  Batches: the reference's GroupAll. (Printed by genbat21.py.)
-/
import Derived.Test.YtjhbeecmdgglgaaGreatDoorGrpX42
import Derived.Test.YtjhbeecmdgglgaaGreatDoorGrpX18
import Derived.Test.YtjhbeecmdgglgaaGreatDoorGrpX15
namespace Go.Proofs.YtjhbeecmdgglgaaGreatDoor
open Go.RowKit

theorem lcI : EInfo Tryz.prog 27 1 24 := by
  have h : (Tryz.prog.info? 27).map (fun i => (i.zero, i.size, i.bytes)) = some (some (.slice none 0 0), 1, 24) := by kernel_rfl
  obtain ⟨i, hi, h1, h2, h3⟩ := info_parts h
  exact ⟨i, _, hi, h1, h2, h3, rfl, by omega⟩
theorem lcSize : (Tryz.prog.info? 27).map (·.size) = some 1 := by kernel_rfl
/-- What lies from i on goes one place on. -/
theorem own_shiftP0 {w : World} {base g m cap i c1 c2 : Nat} {xs : List Value} (h : w.ownsRow base 27 1 (.slice (some ⟨g, 0, none⟩) (m + 1) cap) (m + 1) xs) (hi : i < m) (h1 : ∀ v ∈ xs, v.oneCell' = true) :
    ∃ w', (∀ ty, (Builtin.copy_ #[99, 99] ty #[.slice (some ⟨g, (i + 1) * 1, none⟩) (m - i) c1, .slice (some ⟨g, i * 1, none⟩) (m + 1 - i) c2]).run Tryz.prog w = .ok (goInt (m - i : Nat)) w') ∧
      w'.ownsRow base 27 1 (.slice (some ⟨g, 0, none⟩) (m + 1) cap) (m + 1) (xs.take ((i + 1) * 1) ++ (xs.drop (i * 1)).take ((m - i) * 1)) ∧ w.grownBy w' (some g) := by
  have hx := h.1
  rcases h.2 with ⟨h', -⟩ | ⟨g', cap', cur, h', hb, hg, hn, hc, hsz, ht⟩
  · cases h'
  · injection h' with e1 e2 e3
    injection e1 with e1
    injection e1 with e1
    subst e1 e3
    have hlen : ((xs.drop (i * 1)).take ((m - i) * 1)).length = (m - i) * 1 := by rw [List.length_take, List.length_drop, hx]; omega
    have hmin : Nat.min (m + 1 - i) (m - i) = m - i := by show min _ _ = _; omega
    have hcur : (m + 1) * 1 ≤ cur.size := by rw [hsz]; exact Nat.mul_le_mul_right _ hn
    have hrun := fun ty => run_copy_wide (P := Tryz.prog) w 99 99 ty 27 g ((i + 1) * 1) (m - i) c1 ⟨g, i * 1, none⟩ (m + 1 - i) c2 1 cur 27 ((xs.drop (i * 1)).take ((m - i) * 1)) Tryz.underlying99 lcSize hg
      (by rw [hlen, hmin]) (fun j v hj => by
        rw [List.getElem?_take] at hj
        split at hj
        · rw [List.getElem?_drop] at hj
          have := h.cellAt (i * 1 + j) (by have := (List.getElem?_eq_some_iff.1 hj).1; omega)
          rw [hj] at this
          unfold Addr.add
          split
          · rename_i h0; subst h0; simpa using this
          · exact this
        · cases hj) (by rw [hlen]; omega) (fun v hv => h1 v (List.mem_of_mem_drop (List.mem_of_mem_take hv)))
    simp only [hmin] at hrun
    refine ⟨_, hrun, ⟨?_, .inr ⟨g, cap, _, rfl, hb, setRow_heap w g cur _ 27 _ hg, hn, hc, ?_, ?_⟩⟩, ⟨rfl, rfl, rfl, by simp [World.setRow], fun k hk hne => setRow_other w g k _ (fun e => hne (by rw [e]))⟩⟩
    · rw [List.length_append, hlen, List.length_take, hx]; omega
    · simp only [List.size_toArray, List.length_append, List.length_take, List.length_drop, Array.length_toList, hlen]; omega
    · have e1 : cur.toList.take ((i + 1) * 1) = xs.take ((i + 1) * 1) := by rw [← ht, List.take_take, Nat.min_eq_left (by omega)]
      rw [e1]
      have e4 : (xs.take ((i + 1) * 1) ++ (xs.drop (i * 1)).take ((m - i) * 1)).length = (m + 1) * 1 := by rw [List.length_append, hlen, List.length_take, hx]; omega
      exact List.take_left' e4
theorem own_shiftP {w : World} {base g m cap i c1 c2 : Nat} {xs : List Value} (h : w.ownsRow base 27 1 (.slice (some ⟨g, 0, none⟩) (m + 1) cap) (m + 1) xs) (hi : i < m) (h1 : ∀ v ∈ xs, v.oneCell' = true) :
    ∃ w', (∀ ty, (Builtin.copy_ #[99, 99] ty #[.slice (some ⟨g, (i + 1), none⟩) (m - i) c1, .slice (some ⟨g, i, none⟩) (m + 1 - i) c2]).run Tryz.prog w = .ok (goInt (m - i : Nat)) w') ∧
      w'.ownsRow base 27 1 (.slice (some ⟨g, 0, none⟩) (m + 1) cap) (m + 1) (xs.take ((i + 1)) ++ (xs.drop (i)).take ((m - i))) ∧ w.grownBy w' (some g) := by
  have := own_shiftP0 (c1 := c1) (c2 := c2) h hi h1
  simpa only [Nat.mul_one] using this
theorem ys_split {l : List Value} {i : Nat} (hi : i < l.length) (z : Value) : (l ++ [z]).take (i + 1) = l.take i ++ [l[i]] ∧ ((l ++ [z]).drop i).take (l.length - i) = l.drop i := by
  constructor
  · rw [List.take_append_of_le_length (by omega), List.take_add_one, List.getElem?_eq_getElem hi]; rfl
  · rw [List.drop_append_of_le_length (by omega), List.take_append_of_le_length (by rw [List.length_drop]; omega), List.take_of_length_le (by rw [List.length_drop]; omega)]
theorem set_mid {α : Type} (a b : List α) (x y : α) : (a ++ x :: b).set a.length y = a ++ y :: b := by
  induction a with
  | nil => rfl
  | cons z a ih => show z :: (a ++ x :: b).set a.length y = _; rw [ih]; rfl
theorem set_mid2 {α : Type} {l b : List α} {i : Nat} (hi : i ≤ l.length) (x y : α) : (l.take i ++ x :: b).set i y = l.take i ++ y :: b := by
  have e : (l.take i).length = i := by rw [List.length_take]; omega
  have := set_mid (l.take i) b x y
  rwa [e] at this
theorem slc_one {w : World} {base : Nat} {e : TypeId} {size n : Nat} {v : Value} {xs : List Value} (h : w.ownsRow base e size v n xs) : v.oneCell' = true := by
  obtain ⟨A, m, c, rfl⟩ := own_slice h
  rfl
theorem GS.facts {p : Pl} {base : Nat} {w : World} {hv pv : Value} {HL : List Cnt} {X : List Prt} {l : List Cnt} (h : GS base w hv pv HL X l) (hp : px X = partsP p (av l)) (hc : ∀ c ∈ l, GoodR (cellsG p c.r)) : Rises (av HL) ∧ HL.length ≤ l.length ∧ av HL = (px X).map fun q => (q.1, (1 : Int)) := by
  have hP := parts_all (p := p) (A := av l) (fun c hc' => by
    obtain ⟨x, hx, rfl⟩ := List.mem_map.1 hc'
    exact hc x hx)
  rw [← hp] at hP
  have e : av HL = (px X).map fun q => (q.1, (1 : Int)) := by rw [h.hav]; unfold px; rw [List.map_map]; rfl
  have hr : Rises ((px X).map fun q => (q.1, (1 : Int))) := by
    refine ⟨fun q hq => ?_, ?_⟩
    · obtain ⟨r, hr, rfl⟩ := List.mem_map.1 hq
      exact (hP.good r hr).1
    · rw [List.pairwise_map]; exact hP.rise
  refine ⟨by rw [e]; exact hr, ?_, e⟩
  · have h1 := hP.few
    have h2 := h.len
    unfold px av at h1
    rw [List.length_map, List.length_map] at h1
    omega

set_option maxHeartbeats 16000000 in
set_option maxRecDepth 10000 in
theorem groupAll_any (p : Pl) (v : Value) (l : List Cnt) (w : World) (h : p.ok w) (hT : TypedL p l) (hV : View w v l) (hlen : l.length ≤ 4096) :
    Calls Tryz.prog 18 #[.agg #[.int .i64 p.kind, .int .i64 p.mode, .int .i64 p.low, .int .i64 p.high, .int .i64 p.size, .int .i64 p.limit, p.vl, p.vr, p.vk, p.vq, .bool p.grouped, p.vg, p.va], v] w fun e w' => ∃ v' l', e = .returned v' ∧ View w' v' l' ∧ av l' = groupV p (av l) ∧ Below w.heap.size w w' := by
  have HV := Lib.hid hV
  have HT := Lib.hid hT
  have HGI : Hid (∀ x ∈ l, ∀ c ∈ p.group, 0 ≤ c ∧ c < (x.r.length : Nat)) := Lib.hid fun x hx c hc => by
    have a1 := form_group (check_ok hT.plan).2.2.2.2 c hc
    have a2 := (hT.typed x hx).len
    rw [a2]
    exact a1
  have HGO := Lib.hid (fun (W : World) (hb : Below w.heap.size w W) (x : Cnt) (hx : x ∈ l) => rgroupOf_any p x.v x.r W (h.below hb).g ((hV.rows x hx).below hb) (HGI.out x hx) (by have := (group_few hT.plan hT.grp).1; omega))
  have HCG := Lib.hid (fun (x : Cnt) (hx : x ∈ l) => (cells_good hT.plan hT.grp (hT.typed x hx)).1)
  have HAG := Lib.hid h.a
  obtain ⟨A0, c0, h0, n0, m0, -⟩ := id h.l
  obtain ⟨A1, c1, h1, n1, m1, -⟩ := id h.r
  obtain ⟨A2, c2, h2, n2, m2, -⟩ := id h.k
  obtain ⟨A3, c3, h3, n3, m3, -⟩ := id h.q
  obtain ⟨A4, c4, h4, n4, m4, -⟩ := id h.g
  obtain ⟨A5, c5, h5, n5, m5, -⟩ := id h.a
  obtain ⟨Av, cv, rfl, nv, mv, -⟩ := id hV.sl
  unfold maxLen at mv m5
  rw [h5] at HAG
  rw [h0, h1, h2, h3, h4, h5] at HGO ⊢
  have HB := Lib.hid (below_alloc w (.cells #[.int .i64 p.kind, .int .i64 p.mode, .int .i64 p.low, .int .i64 p.high, .int .i64 p.size, .int .i64 p.limit, .slice A0 p.left.length c0, .slice A1 p.right.length c1, .slice A2 p.lkeys.length c2, .slice A3 p.rkeys.length c3, .bool p.grouped, .slice A4 p.group.length c4, .slice A5 p.aggs.length c5] 25))
  have HK0 := Lib.hid (Blk.new w 25 #[.int .i64 p.kind, .int .i64 p.mode, .int .i64 p.low, .int .i64 p.high, .int .i64 p.size, .int .i64 p.limit, .slice A0 p.left.length c0, .slice A1 p.right.length c1, .slice A2 p.lkeys.length c2, .slice A3 p.rkeys.length c3, .bool p.grouped, .slice A4 p.group.length c4, .slice A5 p.aggs.length c5])
  obtain ⟨W1, hW1⟩ : ∃ V, w.alloc (.cells #[.int .i64 p.kind, .int .i64 p.mode, .int .i64 p.low, .int .i64 p.high, .int .i64 p.size, .int .i64 p.limit, .slice A0 p.left.length c0, .slice A1 p.right.length c1, .slice A2 p.lkeys.length c2, .slice A3 p.rkeys.length c3, .bool p.grouped, .slice A4 p.group.length c4, .slice A5 p.aggs.length c5] 25) = V := ⟨_, rfl⟩
  rw [hW1] at HB HK0
  have hb1 := HB.out
  clear h h0 h1 h2 h3 h4 h5 n0 n1 n2 n3 n4 n5 m0 m1 m2 m3 m4 hV hT
  go_enter Tryz.func18, Tryz.ntmps18
  go_wp2_with fail
  go_loopw [5, 6, 7, 8, 9] (fun hv pv iv _ _ wr => ∃ (k : Nat) (HL : List Cnt) (X : List Prt), k ≤ l.length ∧ iv = .int .i64 k ∧ Hid (GS W1.heap.size wr hv pv HL X (l.take k)) ∧ Hid (px X = partsP p (av (l.take k))) ∧ Below W1.heap.size W1 wr) (fun _ _ iv _ _ _ => l.length - (intOf iv).toNat)
  case atStart => exact ⟨0, [], [], by omega, rfl, Lib.hid (GS.start _ _), Lib.hid rfl, Below.refl _ _⟩
  case round =>
    rename World => wr
    obtain ⟨k, HL, X, hk, rfl, HGS, HPX, hbr⟩ := hrel
    have hBr := below_trans hb1 hbr
    have HFA := Lib.hid (HGS.out.facts HPX.out (fun c hc => HCG.out c (List.mem_of_mem_take hc)))
    have HRI := Lib.hid HFA.out.1
    have HLN : Hid (HL.length ≤ k ∧ k ≤ 4096) := Lib.hid ⟨by have := HFA.out.2.1; rw [List.length_take] at this; omega, by omega⟩
    by_cases hlt : k < l.length
    · have hx := List.getElem?_eq_getElem (l := l) hlt
      generalize l[k] = x at hx
      have hxm := List.mem_of_getElem? hx
      obtain ⟨b1, o1, hA1, -, hc1⟩ := cnt_at HV.out.sl rfl hx
      subst hA1
      have HGX := Lib.hid (fun (W : World) (hb : Below w.heap.size w W) => HGO.out W hb x hxm)
      have HGZ := Lib.hid (HCG.out x hxm)
      have HPS := Lib.hid (parts_step (p := p) hx)
      have HTK : Hid (l.take (k + 1) = l.take k ++ [x]) := Lib.hid (by rw [List.take_add_one, hx]; rfl)
      obtain ⟨Ax, cx, ex, -⟩ := id (HV.out.rows x hxm)
      obtain ⟨xv, xr, xn⟩ := x
      simp only at ex hc1 HGX HGZ HPS HTK
      subst ex
      have HC1 := Lib.hid hc1
      obtain ⟨Z, hZ⟩ : ∃ Z, cellsG p xr = Z := ⟨_, rfl⟩
      rw [hZ] at HGX HGZ HPS
      have HKP := Lib.hid (HK0.out.below hbr)
      have HSS := Lib.hid (fun w' (h : Below wr.heap.size wr w') => And.intro ((HKP.out.below h).cell 0 _ rfl) (And.intro ((HKP.out.below h).cell 1 _ rfl) (And.intro ((HKP.out.below h).cell 2 _ rfl) (And.intro ((HKP.out.below h).cell 3 _ rfl) (And.intro ((HKP.out.below h).cell 4 _ rfl) (And.intro ((HKP.out.below h).cell 5 _ rfl) (And.intro ((HKP.out.below h).cell 6 _ rfl) (And.intro ((HKP.out.below h).cell 7 _ rfl) (And.intro ((HKP.out.below h).cell 8 _ rfl) (And.intro ((HKP.out.below h).cell 9 _ rfl) (And.intro ((HKP.out.below h).cell 10 _ rfl) (And.intro ((HKP.out.below h).cell 11 _ rfl) (And.intro ((HKP.out.below h).cell 12 _ rfl) ((HC1.out w' (below_trans hBr h)).1))))))))))))))
      have HSB := Lib.hid (fun w' (h : Below W1.heap.size W1 w') => And.intro ((HK0.out.below h).cell 0 _ rfl) (And.intro ((HK0.out.below h).cell 1 _ rfl) (And.intro ((HK0.out.below h).cell 2 _ rfl) (And.intro ((HK0.out.below h).cell 3 _ rfl) (And.intro ((HK0.out.below h).cell 4 _ rfl) (And.intro ((HK0.out.below h).cell 5 _ rfl) (And.intro ((HK0.out.below h).cell 6 _ rfl) (And.intro ((HK0.out.below h).cell 7 _ rfl) (And.intro ((HK0.out.below h).cell 8 _ rfl) (And.intro ((HK0.out.below h).cell 9 _ rfl) (And.intro ((HK0.out.below h).cell 10 _ rfl) (And.intro ((HK0.out.below h).cell 11 _ rfl) (And.intro ((HK0.out.below h).cell 12 _ rfl) ((HC1.out w' (below_trans hb1 h)).1))))))))))))))
      have hy0 : Below wr.heap.size wr wr.drew := (Below.refl _ wr).drew
      have i0 : (0 : Int) ≤ (k : Int) := by omega
      have i1 : (k : Int) < (l.length : Int) := by omega
      clear hx hxm hc1 hZ
      go_upto_region 6 with fail
      refine tr (S := (fun w' => w'.cell? ⟨w.heap.size, 0, none⟩ = some (.int .i64 p.kind) ∧ w'.cell? ⟨w.heap.size, 1, none⟩ = some (.int .i64 p.mode) ∧ w'.cell? ⟨w.heap.size, 2, none⟩ = some (.int .i64 p.low) ∧ w'.cell? ⟨w.heap.size, 3, none⟩ = some (.int .i64 p.high) ∧ w'.cell? ⟨w.heap.size, 4, none⟩ = some (.int .i64 p.size) ∧ w'.cell? ⟨w.heap.size, 5, none⟩ = some (.int .i64 p.limit) ∧ w'.cell? ⟨w.heap.size, 6, none⟩ = some (.slice A0 p.left.length c0) ∧ w'.cell? ⟨w.heap.size, 7, none⟩ = some (.slice A1 p.right.length c1) ∧ w'.cell? ⟨w.heap.size, 8, none⟩ = some (.slice A2 p.lkeys.length c2) ∧ w'.cell? ⟨w.heap.size, 9, none⟩ = some (.slice A3 p.rkeys.length c3) ∧ w'.cell? ⟨w.heap.size, 10, none⟩ = some (.bool p.grouped) ∧ w'.cell? ⟨w.heap.size, 11, none⟩ = some (.slice A4 p.group.length c4) ∧ w'.cell? ⟨w.heap.size, 12, none⟩ = some (.slice A5 p.aggs.length c5) ∧ w'.cell? ⟨b1, o1 + k * 2, none⟩ = some (.slice Ax xr.length cx))) (HSS.out _ hy0) (fun hHeld => ?_)
      refine tk 0 ?_; refine tk 1 ?_; refine tk 2 ?_; refine tk 3 ?_; refine tk 4 ?_; refine tk 5 ?_; refine tk 6 ?_
      refine tc 7 ?_
      intro K hK
      go_simp
      refine Calls.mono (by with_reducible exact HGX.out _ (below_trans hBr hy0)) ?_
      rintro e w4 ⟨v4, rfl, hown4, hb4⟩
      have hyw4 := below_trans hy0 hb4
      obtain ⟨E4, f4, g4, rfl⟩ := own_slice hown4
      have HO4 := Lib.hid hown4
      clear hown4 hb4
      go_wp2_with fail
      refine hK.out _ _ (HSS.out _ hyw4) (fun hHeld7 => ?_)
      clear hK K
      refine tc 8 ?_
      intro K hK
      have HG4 := HGS.out.below hyw4
      have HPL := Lib.hid (place_any u5 (.slice E4 f4 g4) HL Z w4 HG4.heads.view (by have := HLN.out; omega) (Sl.of_own HO4.out) HRI.out HGZ.out)
      go_simp
      refine Calls.mono (by with_reducible exact HPL.out) ?_
      rintro e w5 ⟨i, is, rfl, hpl, hb5⟩
      have HPO := Lib.hid hpl
      have hyw5 := below_trans hyw4 hb5
      clear hpl hb5 HPL HG4
      go_wp2_with fail
      refine hK.out _ _ (HSS.out _ hyw5) (fun hHeld8 => ?_)
      clear hK K
      refine tk 9 ?_; refine tk 10 ?_; refine tk 11 ?_; refine tk 12 ?_; refine tk 13 ?_
      refine td ?_
      have HG5 := Lib.hid (HGS.out.below hyw5)
      have hy5 := below_trans hbr hyw5
      clear HGS HSS HKP HO4
      clear hHeld hHeld7 hHeld8 hyw4 hy0
      go_upto_if 33 with fail
      go_cut [5, 6] from 34 to 70 (fun hv pv wx => ∃ (g cap : Nat) (HL' : List Cnt) (X' : List Prt), pv = .slice (some ⟨g, 0, none⟩) X'.length cap ∧ i < X'.length ∧ X'.length ≤ 5000 ∧ Hid (GS W1.heap.size wx hv pv HL' X' (l.take k)) ∧ Hid (∃ q, X'[i]? = some q ∧ q.l.length ≤ 4096 ∧ ∀ v', px (X'.set i ⟨q.r, v', q.l ++ [⟨.slice Ax xr.length cx, xr, xn⟩]⟩) = putP (px X) Z (xr, xn)) ∧ Below W1.heap.size W1 wx)
      case' first =>
        cases is with
        | true =>
        have hpo := HPO.out
        rw [HFA.out.2.2] at hpo
        obtain ⟨q', hq', -, hput⟩ := put_here (c := (xr, xn)) hpo
        have hq2 : ∃ q, X[i]? = some q ∧ q' = (q.r, av q.l) := by
          unfold px at hq'
          rw [List.getElem?_map] at hq'
          cases hX : X[i]? with
          | none => rw [hX] at hq'; cases hq'
          | some q =>
            rw [hX] at hq'
            injection hq' with hq'
            exact ⟨q, rfl, hq'.symm⟩
        obtain ⟨q, hqi, rfl⟩ := hq2
        have hil := (List.getElem?_eq_some_iff.1 hqi).1
        have hfew := HG5.out.few q (List.mem_of_getElem? hqi)
        rw [List.length_take] at hfew
        have HFQ : Hid (∃ q, X[i]? = some q ∧ q.l.length ≤ 4096 ∧ ∀ v', px (X.set i ⟨q.r, v', q.l ++ [⟨.slice Ax xr.length cx, xr, xn⟩]⟩) = putP (px X) Z (xr, xn)) := Lib.hid ⟨q, hqi, by omega, fun v' => by
          rw [hput]
          unfold px
          rw [List.map_set]
          unfold av
          rw [List.map_append]
          rfl⟩
        obtain ⟨g, cap, hpv, -, -⟩ := HG5.out.parts.own.form (by omega)
        subst hpv
        have hx5 : X.length ≤ 5000 := by have h1 := HG5.out.len; have h2 := HLN.out; omega
        clear hpo hq' hput hqi hfew
        go_wp2
        go_meet
        exact ⟨g, cap, HL, X, rfl, hil, hx5, HG5, HFQ, hy5⟩
        | false =>
        have hpo := HPO.out
        rw [HFA.out.2.2] at hpo
        have HPUT := Lib.hid (put_none (c := (xr, xn)) hpo)
        have HXL := Lib.hid HG5.out.len
        have hile : i ≤ HL.length := by have := HPO.out.le; unfold av at this; rwa [List.length_map] at this
        have hln : HL.length ≤ 4096 := by have := HLN.out; omega
        have HIL := Lib.hid hile
        have HA5 := Lib.hid (HG5.out.heads.alloc (.cells #[.slice none 0 0, .int .i64 0] 45))
        have HBS : Hid (W1.heap.size ≤ (w5.alloc (.cells #[.slice none 0 0, .int .i64 0] 45)).heap.size) := Lib.hid (by have := hy5.size; simp; omega)
        clear hpo
        go_wp2_with (at_builtin; refine wpList_app rfl (.tmp 34) (.tmp 36) 27 rfl W1.heap.size 45 2 32 Tryz.underlying27 cntI _ HL.length _ rfl HA5.out.own _ 1 (Cnt.cells ⟨.slice none 0 0, [], 0⟩) rfl (one_cnt w5 ⟨.slice none 0 0, [], 0⟩) rfl (cnt_one (Sl.nil_ w5)) ?_ ?_ HBS.out ?_)
        · unfold maxLen; omega
        · omega
        · intro v6 w6 hown6 hg6 hat6
          have HZ : Hid (OwnV w6 W1.heap.size v6 (HL ++ [⟨.slice none 0 0, [], 0⟩])) := Lib.hid (HA5.out.snoc hown6 hg6 (by rw [World.size_alloc]; exact hat6) (Sl.nil_ _) (fun k hk => by cases hk))
          have HG6 := Lib.hid (grown_trans (grown_of_below (below_alloc w5 (.cells #[.slice none 0 0, .int .i64 0] 45)) _) hg6)
          have HAT := Lib.hid hat6
          obtain ⟨g6, cap6, hform, hg6b, hg6l⟩ := hown6.form (by omega)
          subst hform
          have HROW : Hid (∀ j, some g6 = some j → u5.ownBlock = some j ∨ w5.heap.size ≤ j) := Lib.hid (by
            intro j hj
            injection hj with hj
            subst hj
            rcases HAT.out with h | h
            · exact .inl h.symm
            · injection h with h
              have h' : g6 = w5.heap.size + 1 := h
              exact .inr (by omega))
          obtain ⟨Ax6, cx6, hvv, hcap6, hcm6, -⟩ := Sl.of_own hown6
          injection hvv with q1 q2 q3
          subst q3
          unfold maxLen at hcm6
          clear hown6 hg6 hat6 q1
          have hw : IntKind.i64.wrap ((i : Int) + 1) = (i : Int) + 1 := by rw [IntKind.wrap_i64]; omega
          have hw1 : ((i : Int) + 1).toNat = i + 1 := by omega
          have j0 : (0 : Int) ≤ (i : Int) := by omega
          have j2 : (0 : Int) ≤ (i : Int) + 1 := by omega
          have j5 : (i : Int) + 1 ≤ (HL.length : Int) + 1 := by omega
          have j6 : (i : Int) ≤ (HL.length : Int) + 1 := by omega
          have j7 : (i : Int) < (HL.length : Int) + 1 := by omega
          have hcn : ¬ cap6 = i := by omega
          go_upto_region 9 with fail
          go_cut [] from 38 to 45 (fun wx => ∃ Xc : Cnt, Hid (OwnV wx W1.heap.size (.slice (some ⟨g6, 0, none⟩) (HL.length + 1) cap6) (HL.take i ++ Xc :: HL.drop i)) ∧ Hid (w5.grownBy wx u5.ownBlock))
          case' first =>
            by_cases hi : i < HL.length
            · have hc2' : ¬ cap6 = i + 1 := by omega
              obtain ⟨sA, sB⟩ := split_at hi (⟨.slice none 0 0, [], 0⟩ : Cnt)
              have hz := HZ.out.own
              rw [List.length_append, List.length_singleton] at hz
              obtain ⟨w7, hrun, hown7, hg7⟩ := own_shift (c1 := cap6 - (i + 1)) (c2 := cap6 - i) (own_drew hz) hi (fun u hu => by
                obtain ⟨d, hd, hu⟩ := List.mem_flatMap.1 hu
                exact cnt_one (HZ.out.rows d hd) u hu)
              rw [cnt_take, cnt_drop, cnt_take, sA, sB, ← cntCells_app, List.append_assoc, List.singleton_append] at hown7
              have HRUN := Lib.hid hrun
              have HH7 : Hid (OwnV w7 W1.heap.size (.slice (some ⟨g6, 0, none⟩) (HL.length + 1) cap6) (HL.take i ++ HL[i] :: HL.drop i)) := Lib.hid (HZ.out.drew.sub (by rw [show (HL.take i ++ HL[i] :: HL.drop i).length = HL.length + 1 from by simp; omega]; exact hown7) hg7 (.inl rfl) (by
                intro c hc
                rcases List.mem_append.1 hc with hc | hc
                · simp [List.mem_of_mem_take hc]
                · rcases List.mem_cons.1 hc with rfl | hc
                  · simp
                  · simp [List.mem_of_mem_drop hc]))
              have HG7 := Lib.hid (grown_new HG6.out (drew_grown hg7) HROW.out)
              generalize HL[i] = Xc at HH7
              clear hrun hown7 hg7 hz sA sB
              refine tr (S := (fun _ => True)) trivial (fun hHeld => ?_)
              refine tk 0 ?_; refine tk 1 ?_; refine tk 2 ?_; refine tk 3 ?_; refine tk 4 ?_; refine tk 5 ?_; refine tk 6 ?_
              refine tc 7 ?_
              intro K hK
              refine step_copy_run (by rfl) (.tmp 41) (.tmp 44) 27 27 (by rfl) _ _ (by rfl) (by rfl) (HRUN.out _) ?_
              refine hK.out _ _ trivial (fun hHeld7 => ?_)
              clear hK K
              refine td ?_
              go_wp2
              go_meet
              exact ⟨Xc, HH7, HG7⟩
            · have HIE : Hid (i = HL.length) := Lib.hid (by omega)
              clear hi
              have HOE : Hid (OwnV w6.drew W1.heap.size (.slice (some ⟨g6, 0, none⟩) (HL.length + 1) cap6) (HL.take i ++ ⟨.slice none 0 0, [], 0⟩ :: HL.drop i)) := Lib.hid (by
                rw [List.take_of_length_le (by have := HIE.out; omega), List.drop_of_length_le (by have := HIE.out; omega)]; exact HZ.out.drew)
              by_cases hcp : cap6 = i + 1
              all_goals
                try subst hcp
                refine tr (S := (fun _ => True)) trivial (fun hHeld => ?_)
                refine tk 0 ?_; refine tk 1 ?_; refine tk 2 ?_; refine tk 3 ?_; refine tk 4 ?_; refine tk 5 ?_; refine tk 6 ?_
                refine tc 7 ?_
                intro K hK
                refine step_copy_run (by rfl) (.tmp 41) (.tmp 44) 27 27 (by rfl) _ _ (by rfl) (by rfl) (run_copy_zero _ _ _ _ _ _ _ _ _ _ _ Tryz.underlying27 (by rw [cntSize]; rfl) (by show min _ _ = _; have := HIE.out; omega)) ?_
                refine hK.out _ _ trivial (fun hHeld7 => ?_)
                clear hK K
                refine td ?_
                go_wp2
                go_meet
                exact ⟨_, HOE, Lib.hid (grown_drew HG6.out)⟩
          case' rest =>
            obtain ⟨Xc, HH7, HG7⟩ := hcut
            rename World => w7
            have HLT : Hid ((HL.take i).length = i) := Lib.hid (by rw [List.length_take]; have := HIL.out; omega)
            have HL7 : Hid ((HL.take i ++ Xc :: HL.drop i).length = HL.length + 1) := Lib.hid (by simp; have := HIL.out; omega)
            have HX7 : Hid ((HL.take i ++ Xc :: HL.drop i)[i]? = some Xc) := Lib.hid (by rw [List.getElem?_append_right (by rw [HLT.out]; omega), HLT.out, Nat.sub_self]; rfl)
            have hy7 : Below W1.heap.size W1 w7 := hy5.grown HG7.out hy5.size (fun j hj => own_ge HG5.out.heads.own j hj)
            have hy7d : Below W1.heap.size W1 w7.drew := hy7.drew
            clear hw hw1 j2 j5 hcn HZ HG6 HA5 HBS HAT hcap6 hcm6
            go_upto_region 10 with fail
            refine tr (S := (fun w' => w'.cell? ⟨w.heap.size, 0, none⟩ = some (.int .i64 p.kind) ∧ w'.cell? ⟨w.heap.size, 1, none⟩ = some (.int .i64 p.mode) ∧ w'.cell? ⟨w.heap.size, 2, none⟩ = some (.int .i64 p.low) ∧ w'.cell? ⟨w.heap.size, 3, none⟩ = some (.int .i64 p.high) ∧ w'.cell? ⟨w.heap.size, 4, none⟩ = some (.int .i64 p.size) ∧ w'.cell? ⟨w.heap.size, 5, none⟩ = some (.int .i64 p.limit) ∧ w'.cell? ⟨w.heap.size, 6, none⟩ = some (.slice A0 p.left.length c0) ∧ w'.cell? ⟨w.heap.size, 7, none⟩ = some (.slice A1 p.right.length c1) ∧ w'.cell? ⟨w.heap.size, 8, none⟩ = some (.slice A2 p.lkeys.length c2) ∧ w'.cell? ⟨w.heap.size, 9, none⟩ = some (.slice A3 p.rkeys.length c3) ∧ w'.cell? ⟨w.heap.size, 10, none⟩ = some (.bool p.grouped) ∧ w'.cell? ⟨w.heap.size, 11, none⟩ = some (.slice A4 p.group.length c4) ∧ w'.cell? ⟨w.heap.size, 12, none⟩ = some (.slice A5 p.aggs.length c5) ∧ w'.cell? ⟨b1, o1 + k * 2, none⟩ = some (.slice Ax xr.length cx))) (HSB.out _ hy7d) (fun hHeld => ?_)
            refine tk 0 ?_; refine tk 1 ?_; refine tk 2 ?_; refine tk 3 ?_; refine tk 4 ?_; refine tk 5 ?_; refine tk 6 ?_; refine tk 7 ?_
            refine tc 8 ?_
            intro K hK
            go_simp
            refine Calls.mono (by with_reducible exact HGX.out _ (below_trans hb1 hy7d)) ?_
            rintro e w8 ⟨v8, rfl, hown8, hb8⟩
            have hy8 := below_trans hy7d hb8
            obtain ⟨E8, f8, g8, rfl⟩ := own_slice hown8
            have HO8 := Lib.hid hown8
            have HH8 := Lib.hid (HH7.out.drew.below hb8)
            have HG8 := Lib.hid (grown_trans (grown_drew HG7.out) (grown_of_below hb8 _))
            have HE8 : Hid (∀ j, (Value.slice E8 f8 g8).ownBlock = some j → w5.heap.size ≤ j ∧ j < w8.heap.size ∧ j ≠ g6) := Lib.hid (fun j hj => by
              have h1 := hown8.lt j hj
              have h2 := HG7.out.size
              have h3 := (HH7.out.own.lt g6 rfl).2
              have h4 : w7.drew.heap.size = w7.heap.size := rfl
              omega)
            clear hown8 hb8
            go_wp2_with fail
            refine hK.out _ _ (HSB.out _ hy8) (fun hHeld8 => ?_)
            clear hK K
            refine tk 9 ?_; refine tk 10 ?_
            refine tc 11 ?_
            intro K hK
            have hq := HH8.out.own
            rw [HL7.out] at hq
            obtain ⟨b', off', hA', -, hcl⟩ := cnt_at (l := HL.take i ++ Xc :: HL.drop i) (by rw [HL7.out]; exact Sl.of_own hq) rfl HX7.out
            injection hA' with hA'
            injection hA' with e1 e2
            subst e1 e2
            obtain ⟨y1, y2⟩ := hcl _ (Below.refl _ _)
            simp only [Nat.zero_add] at y1 y2
            have f1 := hq.frozenAt (i * 2)
            have f2 := hq.frozenAt (i * 2 + 1)
            obtain ⟨s1, s2⟩ := HH8.out.lay (c := ⟨.slice E8 f8 g8, Z, 1⟩) HL7.out.symm (by have := Sl.of_own HO8.out; exact this) (fun j hj => ⟨(HE8.out j hj).2.1, (HE8.out j hj).2.2⟩)
            rw [HLT.out] at s1 s2
            have HH9 := Lib.hid s1
            have HG9 := Lib.hid (grown_new HG8.out s2 HROW.out)
            have hy9 := (show Below W1.heap.size W1 w8 from hy8).grown s2 hy8.size (fun j hj => by
              have h1 := (HH7.out.own.lt g6 rfl).1
              injection hj with hj
              omega)
            clear s1 s2 hq hcl
            go_simp
            refine hK.out _ _ (HSB.out _ hy9) (fun hHeld11 => ?_)
            clear hK K
            refine td ?_
            clear hHeld hHeld8 hHeld11 y1 y2 f1 f2
            obtain ⟨w9, hw9⟩ : ∃ V, ((w8.setCell ⟨g6, i * 2, none⟩ (.slice E8 f8 g8)).setCell ⟨g6, i * 2 + 1, none⟩ (.int .i64 1)) = V := ⟨_, rfl⟩
            rw [hw9] at HH9 HG9 hy9 ⊢
            clear hw9 HH8 HG8 HO8 HH7 HG7 hy8 hy7d hy7 HX7 HL7
            have HP9 := Lib.hid (HG5.out.parts.turned (turned_grown HG9.out) (fun k hk e => HG5.out.cross k (.inl e) hk))
            have HPA := Lib.hid (HP9.out.own.alloc (.cells #[.slice none 0 0] 27))
            have HS1 := Lib.hid (Sl.block (Blk.new w9 27 #[.slice none 0 0]) 1 1 (Nat.le_refl _) (by decide))
            have hxl : X.length ≤ 4096 := by have := HXL.out; omega
            have hix : i ≤ X.length := by have := HXL.out; omega
            have HBS9 : Hid (W1.heap.size ≤ (w9.alloc (.cells #[.slice none 0 0] 27)).heap.size) := Lib.hid (by have := hy9.size; simp; omega)
            go_wp2_with (at_builtin; refine wpList_app rfl (.tmp 57) (.tmp 58) 99 rfl W1.heap.size 27 1 24 Tryz.underlying99 lcI _ X.length _ rfl HPA.out _ 1 [.slice none 0 0] rfl HS1.out rfl (by simp [Value.oneCell']) ?_ ?_ HBS9.out ?_)
            · unfold maxLen; omega
            · omega
            · intro v10 w10 hown10 hg10 hat10
              have HZ : Hid (w10.ownsRow W1.heap.size 27 1 v10 (X.length + 1) (X.map (·.v) ++ [.slice none 0 0])) := Lib.hid hown10
              have HG10 := Lib.hid (grown_trans (grown_of_below (below_alloc w9 (.cells #[.slice none 0 0] 27)) _) hg10)
              have HAT := Lib.hid hat10
              obtain ⟨g10, cap10, hform, hg10b, hg10l⟩ := hown10.form (by omega)
              subst hform
              have HROWP : Hid (∀ j, some g10 = some j → u6.ownBlock = some j ∨ w9.heap.size ≤ j) := Lib.hid (by
                intro j hj
                injection hj with hj
                subst hj
                rcases HAT.out with h | h
                · exact .inl h.symm
                · injection h with h
                  have h' : g10 = w9.heap.size + 1 := h
                  exact .inr (by omega))
              obtain ⟨Ax10, cx10, hvv, hcap10, hcm10, -⟩ := Sl.of_own hown10
              injection hvv with q1 q2 q3
              subst q3
              unfold maxLen at hcm10
              clear hown10 hg10 hat10 q1
              have hw : IntKind.i64.wrap ((i : Int) + 1) = (i : Int) + 1 := by rw [IntKind.wrap_i64]; omega
              have hw1 : ((i : Int) + 1).toNat = i + 1 := by omega
              have j2 : (0 : Int) ≤ (i : Int) + 1 := by omega
              have j5 : (i : Int) + 1 ≤ (X.length : Int) + 1 := by omega
              have k6 : (i : Int) ≤ (X.length : Int) + 1 := by omega
              have k7 : (i : Int) < (X.length : Int) + 1 := by omega
              have hcn : ¬ cap10 = i := by omega
              have HLX : Hid ((X.map (·.v)).length = X.length) := Lib.hid (List.length_map _)
              go_upto_region 12 with fail
              go_cut [] from 60 to 67 (fun wx => ∃ Y : Value, Hid (wx.ownsRow W1.heap.size 27 1 (.slice (some ⟨g10, 0, none⟩) (X.length + 1) cap10) (X.length + 1) ((X.map (·.v)).take i ++ Y :: (X.map (·.v)).drop i)) ∧ Hid (w9.grownBy wx u6.ownBlock))
              case' first =>
                by_cases hi : i < X.length
                · have hc2' : ¬ cap10 = i + 1 := by omega
                  have hi2 : i < (X.map (·.v)).length := by rw [HLX.out]; exact hi
                  obtain ⟨sA, sB⟩ := ys_split hi2 (.slice none 0 0)
                  obtain ⟨w12, hrun, hown12, hg12⟩ := own_shiftP (c1 := cap10 - (i + 1)) (c2 := cap10 - i) (own_drew HZ.out) hi (fun u hu => by
                    rcases List.mem_append.1 hu with hu | hu
                    · obtain ⟨d, hd, rfl⟩ := List.mem_map.1 hu
                      exact slc_one (HP9.out.each d hd)
                    · rw [List.mem_singleton.1 hu]; rfl)
                  rw [HLX.out] at sB
                  rw [sA, sB, List.append_assoc, List.singleton_append] at hown12
                  have HRUN := Lib.hid hrun
                  have HO12 := Lib.hid hown12
                  have HG12 := Lib.hid (grown_new HG10.out (drew_grown hg12) HROWP.out)
                  clear hrun hown12 hg12 sA sB
                  refine tr (S := (fun _ => True)) trivial (fun hHeld => ?_)
                  refine tk 0 ?_; refine tk 1 ?_; refine tk 2 ?_; refine tk 3 ?_; refine tk 4 ?_; refine tk 5 ?_; refine tk 6 ?_
                  refine tc 7 ?_
                  intro K hK
                  refine step_copy_run (by rfl) (.tmp 63) (.tmp 66) 99 99 (by rfl) _ _ (by rfl) (by rfl) (HRUN.out _) ?_
                  refine hK.out _ _ trivial (fun hHeld7 => ?_)
                  clear hK K
                  refine td ?_
                  go_wp2
                  go_meet
                  exact ⟨_, HO12, HG12⟩
                · have HIE : Hid (i = X.length) := Lib.hid (by omega)
                  clear hi
                  have HOE : Hid (w10.drew.ownsRow W1.heap.size 27 1 (.slice (some ⟨g10, 0, none⟩) (X.length + 1) cap10) (X.length + 1) ((X.map (·.v)).take i ++ .slice none 0 0 :: (X.map (·.v)).drop i)) := Lib.hid (by
                    rw [List.take_of_length_le (by have := HIE.out; have := HLX.out; omega), List.drop_of_length_le (by have := HIE.out; have := HLX.out; omega)]; exact own_drew HZ.out)
                  by_cases hcp : cap10 = i + 1
                  all_goals
                    try subst hcp
                    refine tr (S := (fun _ => True)) trivial (fun hHeld => ?_)
                    refine tk 0 ?_; refine tk 1 ?_; refine tk 2 ?_; refine tk 3 ?_; refine tk 4 ?_; refine tk 5 ?_; refine tk 6 ?_
                    refine tc 7 ?_
                    intro K hK
                    refine step_copy_run (by rfl) (.tmp 63) (.tmp 66) 99 99 (by rfl) _ _ (by rfl) (by rfl) (run_copy_zero _ _ _ _ _ _ _ _ _ _ _ Tryz.underlying99 (by rw [lcSize]; rfl) (by show min _ _ = _; have := HIE.out; omega)) ?_
                    refine hK.out _ _ trivial (fun hHeld7 => ?_)
                    clear hK K
                    refine td ?_
                    go_wp2
                    go_meet
                    exact ⟨_, HOE, Lib.hid (grown_drew HG10.out)⟩
              case' rest =>
                obtain ⟨Y, HO12, HG12⟩ := hcut
                rename World => w12
                have hyl : ((X.map (·.v)).take i ++ Y :: (X.map (·.v)).drop i)[i]? = some Y := by
                  rw [List.getElem?_append_right (by rw [List.length_take, HLX.out]; omega), List.length_take, HLX.out, Nat.min_eq_left hix, Nat.sub_self]; rfl
                have y0 : w12.cell? ⟨g10, i, none⟩ = some Y := by rw [HO12.out.cellAt i (by omega), hyl]
                have f0 := HO12.out.frozenAt i
                obtain ⟨s1, t1⟩ := HO12.out.stored i (.slice none 0 0)
                rw [set_mid2 (by rw [HLX.out]; exact hix)] at s1
                have hgP := grown_new HG12.out t1 HROWP.out
                have HINS := Lib.hid (HG5.out.ins (key := Z) (vr := .slice E8 f8 g8) hix HH9.out HG9.out HROW.out (fun j hj => (HE8.out j hj).1) s1 hgP HROWP.out)
                have hy13 := hy9.grown hgP hy9.size (fun j hj => own_ge HG5.out.parts.own j hj)
                have hXN : (X.take i ++ (⟨Z, .slice none 0 0, []⟩ : Prt) :: X.drop i).length = X.length + 1 := by simp; omega
                have HFQ : Hid (∃ q, (X.take i ++ (⟨Z, .slice none 0 0, []⟩ : Prt) :: X.drop i)[i]? = some q ∧ q.l.length ≤ 4096 ∧ ∀ v', px ((X.take i ++ (⟨Z, .slice none 0 0, []⟩ : Prt) :: X.drop i).set i ⟨q.r, v', q.l ++ [⟨.slice Ax xr.length cx, xr, xn⟩]⟩) = putP (px X) Z (xr, xn)) := Lib.hid ⟨⟨Z, .slice none 0 0, []⟩, by
                  rw [List.getElem?_append_right (by rw [List.length_take]; omega), List.length_take, Nat.min_eq_left hix, Nat.sub_self]; rfl, Nat.zero_le _, fun v' => by
                  rw [set_mid2 hix, HPUT.out]
                  unfold px
                  rw [List.map_append, List.map_cons, List.map_take, List.map_drop]
                  rfl⟩
                clear hyl s1 t1 hgP hw hw1 j2 j5 hcn hcap10 hcm10
                go_wp2
                go_meet
                exact ⟨g10, cap10, _, _, by rw [hXN], by rw [hXN]; omega, by rw [hXN]; omega, HINS, HFQ, hy13⟩
      case' rest =>
      obtain ⟨g, cap, HL2, X2, rfl, hi2, hx2, HGS2, HQ, hyc⟩ := hcut
      obtain ⟨q, HQI', hql, HPU'⟩ := HQ.out
      have HQI := Lib.hid HQI'
      have HPU := Lib.hid HPU'
      clear HQI' HPU' HQ HG5 hy5 HPO HRI HLN HFA
      have hyd : Below W1.heap.size W1 wc.drew := hyc.drew
      have hya : Below W1.heap.size W1 (wc.drew.alloc (.cells #[.slice Ax xr.length cx, .int .i64 xn] 45)) := hyd.alloc hyd.size (.cells #[.slice Ax xr.length cx, .int .i64 xn] 45)
      have hwd : Below wc.heap.size wc wc.drew := (Below.refl _ wc).drew
      have hwa := hwd.alloc hwd.size (.cells #[.slice Ax xr.length cx, .int .i64 xn] 45)
      have HC5 := Lib.hid (fun w' (hb : Below wc.heap.size wc w') => (show w'.cell? ⟨g, i, none⟩ = some q.v from by
        have := (own_below HGS2.out.parts.own hb).cellAt i (by omega)
        rw [List.getElem?_map, HQI.out] at this
        exact this))
      have HQA := Lib.hid (own_below (HGS2.out.parts.each q (List.mem_of_getElem? HQI.out)) hwa)
      have HCA := Lib.hid (Sl.block (Blk.new wc.drew 45 #[.slice Ax xr.length cx, .int .i64 xn]) 1 1 (Nat.le_refl _) (by decide))
      have Q1 : Hid (q.l.length + 1 ≤ maxLen) := Lib.hid (by unfold maxLen; omega)
      have Q2 : Hid ((q.l.length + 1) * 32 ≤ 140737488355328) := Lib.hid (by omega)
      have HSA : Hid (W1.heap.size ≤ (wc.drew.alloc (.cells #[.slice Ax xr.length cx, .int .i64 xn] 45)).heap.size) := Lib.hid hya.size
      have HSB := Lib.hid (fun w' (h : Below W1.heap.size W1 w') => And.intro ((HC1.out w' (below_trans hb1 h)).1) ((HC1.out w' (below_trans hb1 h)).2))
      have j0 : (0 : Int) ≤ (i : Int) := by omega
      have j1 : (i : Int) < (X2.length : Int) := by omega
      go_upto_region 14 with fail
      refine tr (S := (fun w' => w'.cell? ⟨b1, o1 + k * 2, none⟩ = some (.slice Ax xr.length cx) ∧ w'.cell? ⟨b1, o1 + k * 2 + 1, none⟩ = some (.int .i64 xn))) (HSB.out _ hyd) (fun hHeld => ?_)
      refine tk 0 ?_; refine tk 1 ?_; refine tk 2 ?_; refine tk 3 ?_; refine tk 4 ?_; refine tk 6 ?_; refine tk 7 ?_; refine tk 8 ?_; refine tk 9 ?_
      refine tc2 5 10 ?_ ?_
      intro K hK
      have z5 := HC5.out _ hwd
      go_simp
      refine hK.out _ _ (HSB.out _ hyd) (fun hHeld5 => ?_)
      clear hK K
      refine tc 10 ?_
      intro K hK
      go_simp
      obtain ⟨wA, hwA⟩ : ∃ V, (wc.alloc (.cells #[.slice Ax xr.length cx, .int .i64 xn] 45)).drew = V := ⟨_, rfl⟩
      have hwA2 : wc.drew.alloc (.cells #[.slice Ax xr.length cx, .int .i64 xn] 45) = wA := hwA
      rw [hwA2] at hya hwa HQA HCA HSA
      rw [hwA]
      clear hwA hwA2
      refine hK.out _ _ (HSB.out _ hya) (fun hHeld10 => ?_)
      clear hK K
      rotate_left
      intro K hK
      go_simp
      obtain ⟨wA, hwA⟩ : ∃ V, (wc.alloc (.cells #[.slice Ax xr.length cx, .int .i64 xn] 45)).drew = V := ⟨_, rfl⟩
      have hwA2 : wc.drew.alloc (.cells #[.slice Ax xr.length cx, .int .i64 xn] 45) = wA := hwA
      rw [hwA2] at hya hwa HQA HCA HSA
      rw [hwA]
      clear hwA hwA2
      refine hK.out _ _ (HSB.out _ hya) (fun hHeld10 => ?_)
      clear hK K
      refine tc 5 ?_
      intro K hK
      have z5 := HC5.out _ hwa
      go_simp
      refine hK.out _ _ (HSB.out _ hya) (fun hHeld5 => ?_)
      clear hK K
      all_goals
        refine tc 11 ?_
        intro K hK
        refine step_app (by rfl) _ _ 27 (by rfl) W1.heap.size 45 2 32 Tryz.underlying27 cntI q.v q.l.length _ (by rfl) HQA.out _ 1 [.slice Ax xr.length cx, .int .i64 xn] (by rfl) HCA.out rfl (by simp [Value.oneCell']) Q1.out Q2.out HSA.out ?_
        intro v5 w5 hown5 hg5 hat5
        obtain ⟨B7, m7, c7, e7⟩ := own_slice hown5
        subst e7
        have hya5 := hya.grown hg5 hya.size (fun j hj => (HQA.out.lt j hj).1)
        have HAPP := Lib.hid (HGS2.out.app (c := ⟨.slice Ax xr.length cx, xr, xn⟩) HQI.out hwa (by rw [cntCells_app]; exact hown5) hg5 (hat5.imp id fun e j hj => by rw [e] at hj; injection hj with hj; omega))
        have hpo := own_turned (own_below HGS2.out.parts.own hwa) (turned_grown hg5) (fun j hj e => HGS2.out.parts.far q (List.mem_of_getElem? HQI.out) j e hj)
        have y5 : w5.cell? ⟨g, i, none⟩ = some q.v := by
          have := hpo.cellAt i (by omega)
          rw [List.getElem?_map, HQI.out] at this
          exact this
        have f5 := hpo.frozenAt i
        clear hpo
        refine hK.out _ _ (HSB.out _ hya5) (fun hHeld11 => ?_)
        clear hK K
        refine tk 12 ?_
        refine tc 13 ?_
        intro K hK
        have hyF := HAPP.out.2 W1 hyc hyc.size
        go_simp
        refine hK.out _ _ (HSB.out _ hyF) (fun hHeld13 => ?_)
        clear hK K
        refine td ?_
      all_goals
        have HGN := Lib.hid HAPP.out.1
        rw [← HTK.out] at HGN
        have HPN : Hid (px (X2.set i ⟨q.r, .slice B7 m7 c7, q.l ++ [⟨.slice Ax xr.length cx, xr, xn⟩]⟩) = partsP p (av (l.take (k + 1)))) := Lib.hid (by rw [HPU.out, HPX.out]; exact HPS.out.symm)
        go_wp2
        go_roundw
        case rel => exact ⟨k + 1, HL2, _, by omega, by go_num, HGN, HPN, hyF⟩
        case measure => simp [intOf]; omega
    · obtain rfl : k = l.length := by omega
      have hq1 : ¬ (l.length : Int) < (l.length : Int) := by omega
      have HGL := HGS
      have HPL := HPX
      rw [List.take_length] at HGL HPL
      have HXH := Lib.hid HGL.out.len
      have hxl : X.length ≤ 4096 := by have h1 := HXH.out; have h2 := HLN.out; omega
      have h8 := group_few HT.out.plan HT.out.grp
      have HPG := Lib.hid (parts_all (p := p) (A := av l) (fun c hc' => by
        obtain ⟨x, hx, rfl⟩ := List.mem_map.1 hc'
        exact HCG.out x hx))
      obtain ⟨Ah, ch, ehv, -⟩ := id (Sl.of_own HGL.out.heads.own)
      obtain ⟨Ap, cp, epv, -⟩ := id (Sl.of_own HGL.out.parts.own)
      subst ehv epv
      have hlx : (HL.length : Int) = (X.length : Int) := by rw [HXH.out]
      have HLX := Lib.hid hlx
      clear HGS HPX HFA HRI HLN HGO hlx
      go_wp2_with fail
      go_loopw [10, 11, 12, 13] (fun ov iv _ _ wr2 => ∃ (j : Nat) (L : List Cnt), j ≤ X.length ∧ iv = .int .i64 j ∧ Hid (OwnV wr2 wr.heap.size ov L) ∧ Hid (av L = ((partsP p (av l)).take j).map fun q => (headRow p q, (1 : Int))) ∧ Below wr.heap.size wr wr2) (fun _ iv _ _ _ => X.length - (intOf iv).toNat)
      case atStart => exact ⟨0, [], by omega, rfl, Lib.hid (OwnV.nil _ _), Lib.hid rfl, Below.refl _ _⟩
      case round =>
        rename World => wr2
        obtain ⟨j, L, hj, rfl, HO, HA, hb2⟩ := hrel
        have hB2 := below_trans hBr hb2
        have hyw2 := below_trans hbr hb2
        have i0 : (0 : Int) ≤ (j : Int) := by omega
        by_cases hlj : j < X.length
        · have hq := List.getElem?_eq_getElem (l := X) hlj
          generalize X[j] = q at hq
          have hqm := List.mem_of_getElem? hq
          have hlh : j < HL.length := by have := HXH.out; omega
          have hc := List.getElem?_eq_getElem (l := HL) hlh
          generalize HL[j] = c at hc
          have hcr : c.r = q.r := by
            have h1 : (av HL)[j]? = some (c.r, c.n) := by unfold av; rw [List.getElem?_map, hc]; rfl
            rw [HGL.out.hav, List.getElem?_map, hq] at h1
            injection h1 with h1
            injection h1 with h1 _
            exact h1.symm
          obtain ⟨bh, oh, hAh, -, hch⟩ := cnt_at HGL.out.heads.view.sl rfl hc
          subst hAh
          obtain ⟨dh, -⟩ := hch _ hb2
          obtain ⟨gp, capp, hpv, -, -⟩ := HGL.out.parts.own.form (by omega)
          injection hpv with e1 e2 e3
          subst e1 e3
          have HCP := Lib.hid (fun w' (hb : Below wr.heap.size wr w') => (show w'.cell? ⟨gp, j, none⟩ = some q.v from by
            have := (own_below HGL.out.parts.own hb).cellAt j (by omega)
            rw [List.getElem?_map, hq] at this
            exact this))
          have HPQ : Hid ((partsP p (av l))[j]? = some (q.r, av q.l)) := Lib.hid (by rw [← HPL.out]; unfold px; rw [List.getElem?_map, hq]; rfl)
          have HGQ := Lib.hid (HPG.out.good (q.r, av q.l) (List.mem_of_getElem? HPQ.out))
          have HVQ := Lib.hid (fun (W : World) (hb : Below wr.heap.size wr W) => (show View W q.v q.l from ⟨Sl.of_own (own_below (HGL.out.parts.each q hqm) hb), fun c hc => (HV.out.rows c (HGL.out.mem q hqm c hc)).below (below_trans hBr hb)⟩))
          have HFG := Lib.hid (fun (W : World) (hb : Below wr.heap.size wr W) (a : Int × Int) (ha : a ∈ p.aggs) => rfig_any a.1 a.2 q.v q.l W (HVQ.out W hb) (fun h1 => ⟨(form_aggs (check_ok HT.out.plan).2.2.2.2 a ha h1).1, fun x hx => by
            have h2 := (form_aggs (check_ok HT.out.plan).2.2.2.2 a ha h1).2
            rw [(HT.out.typed x (HGL.out.mem q hqm x hx)).len]
            exact h2⟩))
          have hql : q.r.length ≤ 8 := by have h1 : q.r.length = p.group.length := HGQ.out.2; omega
          have HCO := Lib.hid (copy_own c.v c.r wr2 ((HGL.out.heads.rows c (List.mem_of_getElem? hc)).below hb2) (by rw [hcr]; omega))
          rw [hcr] at HCO
          obtain ⟨cv0, cr0, cn0⟩ := c
          simp only at dh HCO
          have k1 : (j : Int) < (X.length : Int) := by omega
          have k2 : (j : Int) < (HL.length : Int) := by omega
          clear hq hqm hlh hc hcr hch
          go_wp2_with fail
          refine Calls.mono (by with_reducible exact HCO.out) ?_
          rintro e w3 ⟨v3, rfl, hown3, hb3⟩
          have HOW := Lib.hid hown3
          have hb3' := hb3
          clear hown3 hb3 HCO dh
          go_wp2_with fail
          go_loopw [12, 13] (fun rv kv wr3 => ∃ m : Nat, m ≤ p.aggs.length ∧ kv = .int .i64 m ∧ Hid (wr3.ownsRow wr2.heap.size 68 3 rv (q.r.length + m) (rowCells (q.r ++ (figsP p (av q.l)).take m))) ∧ Below wr2.heap.size wr2 wr3) (fun _ kv _ => p.aggs.length - (intOf kv).toNat)
          case atStart => exact ⟨0, by omega, rfl, Lib.hid (by simpa using HOW.out), hb3'⟩
          case round =>
            rename World => wr3
            clear HOW hb3'
            obtain ⟨m, hm, rfl, HR, hb4⟩ := hrel
            have hb24 := below_trans hb2 hb4
            have hy4 := below_trans hbr hb24
            have y12 := (HK0.out.below hy4).cell 12 _ rfl
            have m0 : (0 : Int) ≤ (m : Int) := by omega
            by_cases hlm : m < p.aggs.length
            · have hx := List.getElem?_eq_getElem (l := p.aggs) hlm
              generalize p.aggs[m] = a at hx
              obtain ⟨b5, o5, hA5, -, hc5⟩ := agg_at HAG.out rfl hx
              subst hA5
              have HFM := Lib.hid (fun W hb => HFG.out W hb a (List.mem_of_getElem? hx))
              have HFS := Lib.hid (figs_step (p := p) (l := q.l) hx)
              obtain ⟨fn, col⟩ := a
              obtain ⟨F, hF⟩ : ∃ F, figF fn (colC col q.l) = F := ⟨_, rfl⟩
              simp only at HFM HFS hc5
              rw [hF] at HFM HFS
              have HC5 := Lib.hid hc5
              have HSS := Lib.hid (fun w' (h : Below wr2.heap.size wr2 w') => And.intro ((HK0.out.below (below_trans hyw2 h)).cell 12 _ rfl) (And.intro ((HC5.out w' (below_trans hB2 h)).1) (And.intro ((HC5.out w' (below_trans hB2 h)).2) (HCP.out w' (below_trans hb2 h)))))
              have hd4 : Below wr2.heap.size wr2 wr3.drew := hb4.drew
              have hf4 : Below wr.heap.size wr wr3.drew := hb24.drew
              have m1 : (m : Int) < (p.aggs.length : Int) := by omega
              have Q1 : Hid (q.r.length + m + 1 ≤ maxLen) := Lib.hid (by unfold maxLen; omega)
              have Q2 : Hid ((q.r.length + m + 1) * 32 ≤ 140737488355328) := Lib.hid (by omega)
              clear hx hF hc5
              go_upto_region 23 with fail
              refine tr (S := (fun w' => w'.cell? ⟨w.heap.size, 12, none⟩ = some (.slice (some ⟨b5, o5, none⟩) p.aggs.length c5) ∧ w'.cell? ⟨b5, o5 + m * 2, none⟩ = some (.int .i64 fn) ∧ w'.cell? ⟨b5, o5 + m * 2 + 1, none⟩ = some (.int .i64 col) ∧ w'.cell? ⟨gp, j, none⟩ = some (q.v))) (HSS.out _ hd4) (fun hHeld => ?_)
              refine tk 0 ?_; refine tk 1 ?_; refine tk 2 ?_; refine tk 3 ?_; refine tk 4 ?_; refine tk 5 ?_; refine tk 6 ?_; refine tk 7 ?_; refine tk 8 ?_; refine tk 9 ?_
              refine tc 10 ?_
              intro K hK
              go_simp
              refine Calls.mono (by with_reducible exact HFM.out _ hf4) ?_
              rintro e w4 ⟨rfl, hb5⟩
              have hd5 := below_trans hd4 hb5
              have HR5 := Lib.hid (own_below HR.out (show Below wr3.heap.size wr3 w4 from below_trans ((Below.refl _ wr3).drew) hb5))
              clear hb5
              go_wp2_with fail
              refine hK.out _ _ (HSS.out _ hd5) (fun hHeld10 => ?_)
              clear hK K
              refine tc 11 ?_
              intro K hK
              go_simp
              have hd6 := hd5.alloc hd5.size (.cells #[.int .i64 F.k, .int .i64 F.n, .string F.s] 68)
              have HRX := Lib.hid (HR5.out.alloc (.cells #[.int .i64 F.k, .int .i64 F.n, .string F.s] 68))
              have HVX := Lib.hid (Sl.block (Blk.new w4 68 #[.int .i64 F.k, .int .i64 F.n, .string F.s]) 1 1 (Nat.le_refl _) (by decide))
              have HSZ : Hid (wr2.heap.size ≤ (w4.alloc (.cells #[.int .i64 F.k, .int .i64 F.n, .string F.s] 68)).heap.size) := Lib.hid hd6.size
              refine hK.out _ _ (HSS.out _ hd6) (fun hHeld11 => ?_)
              clear hK K
              refine tc 12 ?_
              intro K hK
              refine step_app (by rfl) _ _ 43 (by rfl) wr2.heap.size 68 3 32 Tryz.underlying43 valJ _ (q.r.length + m) _ (by rfl) HRX.out _ 1 [.int .i64 F.k, .int .i64 F.n, .string F.s] (by rfl) HVX.out rfl (by simp [Value.oneCell']) Q1.out Q2.out HSZ.out ?_
              intro v6 w6 hown6 hg6 hat6
              have HO6 := Lib.hid hown6
              have hb6 := hd6.grown hg6 hd6.size (fun j hj => own_ge HRX.out j hj)
              clear hown6 hg6 hat6
              refine hK.out _ _ (HSS.out _ hb6) (fun hHeld12 => ?_)
              clear hK K
              refine tk 13 ?_
              refine td ?_
              have H6 : Hid (w6.ownsRow wr2.heap.size 68 3 v6 (q.r.length + (m + 1)) (rowCells (q.r ++ (figsP p (av q.l)).take (m + 1)))) := Lib.hid (by
                rw [HFS.out, ← List.append_assoc, rcApp, rowCells_one1]
                exact HO6.out)
              go_wp2
              go_roundw
              case rel =>
                first
                  | exact ⟨m + 1, by omega, by go_num, H6, hb6⟩
                  | ((repeat apply Exists.intro); exact ⟨⟨m + 1, by omega, by go_num, H6, hb6⟩, rfl⟩)
              case measure => simp [intOf]; omega
            · obtain rfl : m = p.aggs.length := by omega
              have hq2 : ¬ (p.aggs.length : Int) < (p.aggs.length : Int) := by omega
              have hfl : (figsP p (av q.l)).length = p.aggs.length := by unfold figsP; exact List.length_map _
              have HRZ : Hid (wr3.ownsRow wr2.heap.size 68 3 u12 (headRow p (q.r, av q.l)).length (rowCells (headRow p (q.r, av q.l)))) := Lib.hid (by
                have h1 := HR.out
                rw [List.take_of_length_le (by rw [hfl]; exact Nat.le_refl _)] at h1
                have h2 : (headRow p (q.r, av q.l)).length = q.r.length + p.aggs.length := by show (q.r ++ figsP p (av q.l)).length = _; rw [List.length_append, hfl]
                rw [h2]
                exact h1)
              have HSN : Hid (((partsP p (av l)).take (j + 1)).map (fun q => (headRow p q, (1 : Int))) = ((partsP p (av l)).take j).map (fun q => (headRow p q, (1 : Int))) ++ [(headRow p (q.r, av q.l), 1)]) := Lib.hid (by
                rw [List.take_add_one, HPQ.out, List.map_append]; rfl)
              obtain ⟨ZR, hZR⟩ : ∃ ZR, headRow p (q.r, av q.l) = ZR := ⟨_, rfl⟩
              rw [hZR] at HRZ HSN
              have hlL : L.length ≤ j := by have h1 := congrArg List.length HA.out; unfold av at h1; rw [List.length_map, List.length_map, List.length_take] at h1; omega
              obtain ⟨Ar, nr, cr, hvr⟩ := own_slice HRZ.out
              subst hvr
              have HOA := Lib.hid ((HO.out.below hb4).alloc (.cells #[.slice Ar nr cr, .int .i64 1] 45))
              have HSR := Lib.hid (Sl.of_own (own_below HRZ.out (below_alloc wr3 (.cells #[.slice Ar nr cr, .int .i64 1] 45))))
              have HFR : Hid (∀ i, (Value.slice Ar nr cr).ownBlock = some i → i < (wr3.alloc (.cells #[.slice Ar nr cr, .int .i64 1] 45)).heap.size ∧ u10.ownBlock ≠ some i) := Lib.hid (fun i hi => by
                have h1 := HRZ.out.lt i hi
                refine ⟨by rw [World.size_alloc]; omega, fun e => ?_⟩
                have h2 := (HO.out.own.lt i e).2
                omega)
              have HBA := Lib.hid (hb24.alloc hb24.size (.cells #[.slice Ar nr cr, .int .i64 1] 45))
              clear hZR hfl HR HFG HPQ
              go_wp2_with (at_builtin; refine wpList_app rfl (.tmp 116) (.tmp 119) 27 rfl wr.heap.size 45 2 32 Tryz.underlying27 cntI _ L.length _ rfl HOA.out.own _ 1 (Cnt.cells ⟨.slice Ar nr cr, ZR, 1⟩) rfl (one_cnt wr3 ⟨.slice Ar nr cr, ZR, 1⟩) rfl (cnt_one (c := ⟨.slice Ar nr cr, ZR, 1⟩) HSR.out) ?_ ?_ HBA.out.size ?_)
              · unfold maxLen; omega
              · omega
              · intro v7 w7 hown7 hg7 hat7
                have HN7 := Lib.hid (HOA.out.snoc (c := ⟨.slice Ar nr cr, ZR, 1⟩) hown7 hg7 (by rw [World.size_alloc]; exact hat7) HSR.out HFR.out)
                have HA7 : Hid (av (L ++ [⟨.slice Ar nr cr, ZR, 1⟩]) = ((partsP p (av l)).take (j + 1)).map fun q => (headRow p q, (1 : Int))) := Lib.hid (by
                  rw [HSN.out, ← HA.out]
                  exact List.map_append)
                have hb7 := HBA.out.grown hg7 HBA.out.size (fun i hi => own_ge HOA.out.own i hi)
                clear hown7 hg7 hat7
                go_wp2
                go_roundw
                case rel =>
                  first
                    | exact ⟨j + 1, _, by omega, by go_num, HN7, HA7, hb7⟩
                    | ((repeat apply Exists.intro); exact ⟨⟨j + 1, _, by omega, by go_num, HN7, HA7, hb7⟩, rfl⟩)
                case measure => simp [intOf]; omega
        · obtain rfl : j = X.length := by omega
          have hq2 : ¬ (X.length : Int) < (HL.length : Int) := by have := HLX.out; omega
          have HE : Hid (av L = groupV p (av l)) := Lib.hid (by
            have h1 := HA.out
            have h2 : (partsP p (av l)).length = X.length := by rw [← HPL.out]; unfold px; exact List.length_map _
            rwa [List.take_of_length_le (by omega)] at h1)
          go_wp2
          go_ret
          first
            | exact ⟨_, L, rfl, HO.out.view, HE.out, hB2⟩
            | exact ⟨_, rfl, L, HO.out.view, HE.out, hB2⟩
end Go.Proofs.YtjhbeecmdgglgaaGreatDoor
