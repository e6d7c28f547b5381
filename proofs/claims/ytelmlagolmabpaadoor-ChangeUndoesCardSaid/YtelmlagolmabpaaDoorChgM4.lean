/-
  The reference's Own. The reference's place: where a row stands in a view, or would stand. The reference's more: laws on a view of one's own. The reference's more: a row laid in.
-/
import Derived.Test.YtelmlagolmabpaaDoorChg7
import Derived.Test.YtelmlagolmabpaaDoorChg6
import Derived.Test.YtelmlagolmabpaaDoorChg1
import Derived.Laws.CopyOwn
set_option linter.unusedSimpArgs false
set_option linter.unusedVariables false
namespace Go.Proofs.YtelmlagolmabpaaDoor
open Go.RowKit

theorem one_cnt (W : World) (c : Cnt) : Sl (W.alloc (.cells #[c.v, .int .i64 c.n] 99)) (.slice (some ⟨W.heap.size, 0, none⟩) 1 1) 1 c.cells := Sl.block (Blk.new W 99 #[c.v, .int .i64 c.n]) 1 1 (Nat.le_refl _) (by decide)
theorem cnt_one {w : World} {c : Cnt} {n : Nat} {cs : List Value} (h : Sl w c.v n cs) : ∀ u ∈ c.cells, u.oneCell' = true := by
  obtain ⟨A, k, hv, -⟩ := h
  intro u hu
  simp [Cnt.cells] at hu
  rcases hu with rfl | rfl
  · rw [hv]; rfl
  · rfl
theorem OwnV.alloc {w : World} {base : Nat} {v : Value} {l : List Cnt} (h : OwnV w base v l) (o : Obj) : OwnV (w.alloc o) base v l := h.below (below_alloc w o)
theorem OwnV.drew {w : World} {base : Nat} {v : Value} {l : List Cnt} (h : OwnV w base v l) : OwnV w.drew base v l := ⟨h.own, h.rows, h.far⟩

set_option maxHeartbeats 4000000 in
set_option maxRecDepth 10000 in
theorem own_any (v : Value) (l : List Cnt) (w : World) (h : View w v l) (hl : l.length ≤ 4096) (h8 : ∀ c ∈ l, c.r.length ≤ 8) :
    Calls Tryd.prog 75 #[v] w fun e w' => ∃ v' l', e = .returned v' ∧ OwnV w' w.heap.size v' l' ∧ av l' = av l ∧ Below w.heap.size w w' := by
  have HV := Lib.hid h
  have H8 := Lib.hid h8
  obtain ⟨A, c, rfl, h1, h2, -⟩ := h.sl
  clear h h8
  unfold maxLen at h2
  go_enter Tryd.func75, Tryd.ntmps75
  go_wp2_with fail
  go_loopw [3, 4] (fun out i wr => ∃ (k : Nat) (u : Value) (s : List Cnt), u = out ∧ k ≤ l.length ∧ i = .int .i64 k ∧ s.length = k ∧ Hid (av s = (av l).take k) ∧ Hid (OwnV wr w.heap.size u s) ∧ Below w.heap.size w wr) (fun _ i _ => l.length - (intOf i).toNat)
  case atStart => exact ⟨0, _, [], rfl, by omega, rfl, rfl, rfl, OwnV.nil w w.heap.size, Below.refl _ _⟩
  case round =>
    obtain ⟨k, u, s, rfl, hk, rfl, hsl, HA, HO, hbw⟩ := hrel
    by_cases hlt : k < l.length
    · have hx := List.getElem?_eq_getElem (l := l) hlt
      generalize l[k] = x at hx
      obtain ⟨g, off, rfl, -, hc⟩ := cnt_at HV.out.sl rfl hx
      have HC := Lib.hid hc
      obtain ⟨d1, d2⟩ := hc _ hbw
      have HRX := Lib.hid (HV.out.rows x (List.mem_of_getElem? hx))
      have h8 := H8.out x (List.mem_of_getElem? hx)
      have HT := Lib.hid (show (av l).take (k + 1) = (av l).take k ++ [(x.r, x.n)] from by
        have : (av l)[k]? = some (x.r, x.n) := by unfold av; rw [List.getElem?_map, hx]; rfl
        rw [List.take_add_one, this]; rfl)
      clear hx hc
      obtain ⟨xv, xr, xn⟩ := x
      simp only at d1 d2 HRX HT HC h8
      obtain ⟨Ax, cx, rfl, -⟩ := id HRX.out
      have k0 : (0 : Int) ≤ (k : Int) := by omega
      have k1 : (k : Int) < (l.length : Int) := by omega
      subst hsl
      have hu : Hid (∀ j, u.ownBlock = some j → j < wr.heap.size) := Lib.hid (own_lt HO.out.own)
      go_wp2_with fail
      go_region_held3 (fun w' => w'.cell? ⟨g, off + s.length * 2, none⟩ = some (.slice Ax xr.length cx) ∧ w'.cell? ⟨g, off + s.length * 2 + 1, none⟩ = some (.int .i64 xn))
        (first | go_keep | exact ⟨d1, d2⟩ | exact z2 | exact z3 | exact z4)
        (first
          | (go_at_call 84
             refine (copy_any _ xr _ ((HRX.out.below hbw).drew) h8).mono ?_
             rintro e w2 ⟨v2, rfl, hs2, hf2, hb2⟩
             have hbw2 := below_trans hbw.drew hb2
             have z2 := HC.out _ hbw2
             have HO2 := Lib.hid (HO.out.drew.below hb2)
             have HS2 := Lib.hid hs2
             have HF2 := Lib.hid (fun j (hj : v2.ownBlock = some j) => And.intro (hf2 j hj).2 (fun e => Nat.lt_irrefl _ (Nat.lt_of_lt_of_le (hu.out j e) (hf2 j hj).1)))
             obtain ⟨A2, c2, rfl, -⟩ := id hs2
             clear hs2 hf2
             have hbw3 := hbw2.alloc hbw2.size (.cells #[.slice A2 xr.length c2, .int .i64 xn] 99)
             have z3 := HC.out _ hbw3)
          | (refine step_app (by rfl) _ _ 51 (by rfl) w.heap.size 99 2 32 Tryd.underlying51 cntI u s.length _ (by rfl) (HO2.out.alloc _).own _ 1 (Cnt.cells ⟨.slice A2 xr.length c2, xr, xn⟩) (by rfl) (one_cnt w2 ⟨.slice A2 xr.length c2, xr, xn⟩) (by rfl) (cnt_one HS2.out) (by unfold maxLen; omega) (by omega) hbw3.size ?_
             intro v4 w4 hown4 hg4 hat4
             have hbw4 := below_grown hbw3 hg4 (own_ge HO2.out.own)
             have z4 := HC.out _ hbw4))
      all_goals
        have HN : Hid (OwnV w4 w.heap.size v4 (s ++ [⟨.slice A2 xr.length c2, xr, xn⟩])) := Lib.hid ((HO2.out.alloc _).snoc hown4 hg4 hat4 (HS2.out.below (below_alloc _ _)) (fun j hj => ⟨Nat.lt_of_lt_of_le (HF2.out j hj).1 (by simp), (HF2.out j hj).2⟩))
        have HAN : Hid (av (s ++ [⟨.slice A2 xr.length c2, xr, xn⟩]) = (av l).take (s.length + 1)) := Lib.hid (by rw [HT.out, ← HA.out]; simp [av])
        clear hown4 hg4 hat4
        go_wp2
        go_roundw
        case rel => exact ⟨s.length + 1, _, _, rfl, by omega, by go_num, by simp, HAN.out, HN.out, hbw4⟩
        case measure => simp [intOf]; omega
    · obtain rfl : k = l.length := by omega
      go_wp2
      go_ret
      refine ⟨_, s, rfl, HO.out, ?_, hbw⟩
      rw [HA.out, List.take_of_length_le (by unfold av; rw [List.length_map]; omega)]

end Go.Proofs.YtelmlagolmabpaaDoor
namespace Go.Proofs.YtelmlagolmabpaaDoor
open Go.RowKit

structure PlaceOf (A : AV) (r : List Val) (i : Nat) (is : Bool) : Prop where
  le : i ≤ A.length
  less : ∀ j p, j < i → A[j]? = some p → rowsF p.1 r < 0
  here : is = true → ∃ p, A[i]? = some p ∧ rowsF p.1 r = 0
  more : is = false → ∀ j p, i ≤ j → A[j]? = some p → 0 < rowsF p.1 r

theorem place_skip {A : AV} {x : List Val × Int} {r : List Val} {i : Nat} {is : Bool} (h : PlaceOf (x :: A) r (i + 1) is) : rowsF x.1 r < 0 ∧ PlaceOf A r i is :=
  ⟨h.less 0 x (by omega) rfl, ⟨by have := h.le; simp at this; omega, fun j p hj hp => h.less (j + 1) p (by omega) (by simpa using hp),
    fun hi => by obtain ⟨p, h1, h2⟩ := h.here hi; exact ⟨p, by simpa using h1, h2⟩, fun hi j p hj hp => h.more hi (j + 1) p (by omega) (by simpa using hp)⟩⟩
theorem look_more {A : AV} {r : List Val} (h : ∀ p ∈ A, 0 < rowsF p.1 r) : lookA A r = 0 ∧ hasA A r = false ∧ delA A r = A := by
  induction A with
  | nil => exact ⟨rfl, rfl, rfl⟩
  | cons x t ih =>
    obtain ⟨x, m⟩ := x
    have h0 : 0 < rowsF x r := h (x, m) (by simp)
    obtain ⟨a, b, c⟩ := ih fun p hp => h p (by simp [hp])
    refine ⟨?_, ?_, ?_⟩
    · rw [lookA, if_neg (by omega), a]
    · rw [hasA, b, decide_eq_false (by omega)]; rfl
    · rw [delA, if_neg (by omega), c]
/-- The row is there. -/
theorem place_here {A : AV} {r : List Val} {i : Nat} (h : PlaceOf A r i true) : ∃ x m, A[i]? = some (x, m) ∧ lookA A r = m ∧ hasA A r = true ∧ delA A r = A.take i ++ A.drop (i + 1) ∧ ∀ n, putA A r n = A.take i ++ (x, n) :: A.drop (i + 1) := by
  induction A generalizing i with
  | nil => obtain ⟨p, h1, -⟩ := h.here rfl; simp at h1
  | cons x t ih =>
    obtain ⟨x, m⟩ := x
    cases i with
    | zero =>
      obtain ⟨p, h1, h2⟩ := h.here rfl
      simp at h1
      subst h1
      refine ⟨x, m, rfl, ?_, ?_, ?_, fun n => ?_⟩
      · rw [lookA, if_pos h2]
      · rw [hasA, decide_eq_true h2]; rfl
      · rw [delA, if_pos h2]; rfl
      · rw [putA, if_pos h2]; rfl
    | succ i =>
      obtain ⟨h0, h1⟩ := place_skip h
      simp only at h0
      obtain ⟨y, n, a, b, c, d, e⟩ := ih h1
      refine ⟨y, n, by simpa using a, ?_, ?_, ?_, fun q => ?_⟩
      · rw [lookA, if_neg (by omega), b]
      · rw [hasA, c, Bool.or_true]
      · rw [delA, if_neg (by omega), d]; rfl
      · rw [putA, if_neg (by omega), if_pos h0, e]; rfl
/-- The row is not there. -/
theorem place_none {A : AV} {r : List Val} {i : Nat} (h : PlaceOf A r i false) : lookA A r = 0 ∧ hasA A r = false ∧ delA A r = A ∧ ∀ n, putA A r n = A.take i ++ (r, n) :: A.drop i := by
  induction A generalizing i with
  | nil => exact ⟨rfl, rfl, rfl, fun n => by simp [putA]⟩
  | cons x t ih =>
    obtain ⟨x, m⟩ := x
    cases i with
    | zero =>
      have hall : ∀ p ∈ (x, m) :: t, 0 < rowsF p.1 r := by
        intro p hp
        obtain ⟨j, hj⟩ := List.getElem?_of_mem hp
        exact h.more rfl j p (by omega) hj
      obtain ⟨a, b, c⟩ := look_more hall
      refine ⟨a, b, c, fun n => ?_⟩
      have h0 : 0 < rowsF x r := hall (x, m) (by simp)
      rw [putA, if_neg (by omega), if_neg (by omega)]; rfl
    | succ i =>
      obtain ⟨h0, h1⟩ := place_skip h
      simp only at h0
      obtain ⟨a, b, c, d⟩ := ih h1
      refine ⟨?_, ?_, ?_, fun n => ?_⟩
      · rw [lookA, if_neg (by omega), a]
      · rw [hasA, b, decide_eq_false (by omega)]; rfl
      · rw [delA, if_neg (by omega), c]
      · rw [putA, if_neg (by omega), if_pos h0, d]; rfl

theorem rises_less {A : AV} {r : List Val} (h : Rises A) (hr : GoodR r) {i j : Nat} {p q : List Val × Int} (hi : A[i]? = some p) (hj : A[j]? = some q) (hle : i ≤ j) (hq : rowsF q.1 r < 0) : rowsF p.1 r < 0 := by
  rcases Nat.lt_or_ge i j with hlt | hge
  · obtain ⟨h1, e1⟩ := List.getElem?_eq_some_iff.1 hi
    obtain ⟨h2, e2⟩ := List.getElem?_eq_some_iff.1 hj
    have := List.pairwise_iff_getElem.1 h.rise i j h1 h2 hlt
    rw [e1, e2] at this
    exact rowsF_trans (h.good p (List.mem_of_getElem? hi)) (h.good q (List.mem_of_getElem? hj)) hr this hq
  · obtain rfl : i = j := by omega
    rw [hi] at hj
    obtain rfl := Option.some.inj hj
    exact hq
theorem rises_more {A : AV} {r : List Val} (h : Rises A) (hr : GoodR r) {i j : Nat} {p q : List Val × Int} (hi : A[i]? = some p) (hj : A[j]? = some q) (hle : i ≤ j) (hp : 0 < rowsF p.1 r) : 0 < rowsF q.1 r := by
  rcases Nat.lt_or_ge i j with hlt | hge
  · obtain ⟨h1, e1⟩ := List.getElem?_eq_some_iff.1 hi
    obtain ⟨h2, e2⟩ := List.getElem?_eq_some_iff.1 hj
    have := List.pairwise_iff_getElem.1 h.rise i j h1 h2 hlt
    rw [e1, e2] at this
    have gp := h.good p (List.mem_of_getElem? hi)
    have gq := h.good q (List.mem_of_getElem? hj)
    have h3 : rowsF r p.1 < 0 := by rw [rowsF_flip gp hr]; omega
    have h4 := rowsF_trans hr gp gq h3 this
    rw [rowsF_flip hr gq]
    omega
  · obtain rfl : i = j := by omega
    rw [hi] at hj
    obtain rfl := Option.some.inj hj
    exact hp

set_option maxHeartbeats 4000000 in
set_option maxRecDepth 10000 in
theorem place_any (v vr : Value) (l : List Cnt) (r : List Val) (w : World) (h : View w v l) (hl : l.length ≤ 1000000) (hs : Sl w vr r.length (rowCells r)) (hr : Rises (av l)) (hg : GoodR r) :
    Calls Tryd.prog 99 #[v, vr] w fun e w' => ∃ i is, e = .returned (.tuple #[.int .i64 (i : Nat), .bool is]) ∧ PlaceOf (av l) r i is ∧ Below w.heap.size w w' := by
  have HV := Lib.hid h
  have HS := Lib.hid hs
  have HR := Lib.hid hr
  have HG := Lib.hid hg
  have HAL := Lib.hid (show (av l).length = l.length from by unfold av; rw [List.length_map])
  obtain ⟨A, c, rfl, h1, h2, -⟩ := h.sl
  obtain ⟨Ar, cr, rfl, -⟩ := id hs
  clear h hs hr hg
  unfold maxLen at h2
  go_enter Tryd.func99, Tryd.ntmps99
  go_wp2_with fail
  go_loopw [6, 7, 8, 9] (fun lo hi _ _ wr => ∃ a b : Nat, lo = .int .i64 a ∧ hi = .int .i64 b ∧ a ≤ b ∧ b ≤ l.length ∧ Hid (∀ j p, j < a → (av l)[j]? = some p → rowsF p.1 r < 0) ∧ Hid (∀ j p, b ≤ j → (av l)[j]? = some p → 0 < rowsF p.1 r) ∧ Below w.heap.size w wr) (fun lo hi _ _ _ => (intOf hi).toNat - (intOf lo).toNat)
  case atStart => exact ⟨0, l.length, rfl, rfl, by omega, by omega, fun j p h => absurd h (by omega), fun j p h hp => by have := (List.getElem?_eq_some_iff.1 hp).1; rw [HAL.out] at this; omega, Below.refl _ _⟩
  case round =>
    obtain ⟨a, b, rfl, rfl, hab, hbl, HL, HM, hbw⟩ := hrel
    by_cases hlt : a < b
    · obtain ⟨m, hm⟩ : ∃ m, (a + b) / 2 = m := ⟨_, rfl⟩
      have hma : a ≤ m := by omega
      have hmb : m < b := by omega
      have hq : ((a : Int) + (b : Int)).tdiv 2 = (m : Int) := by rw [Int.tdiv_eq_ediv_of_nonneg (by omega)]; omega
      have hml : m < l.length := by omega
      have hx := List.getElem?_eq_getElem (l := l) hml
      generalize l[m] = x at hx
      obtain ⟨g, off, rfl, -, hc⟩ := cnt_at HV.out.sl rfl hx
      obtain ⟨d1, d2⟩ := hc _ hbw
      have HRX := Lib.hid (HV.out.rows x (List.mem_of_getElem? hx))
      have HX := Lib.hid (show (av l)[m]? = some (x.r, x.n) from by unfold av; rw [List.getElem?_map, hx]; rfl)
      clear hx hc hm
      obtain ⟨xv, xr, xn⟩ := x
      simp only at d1 d2 HRX HX
      obtain ⟨Ax, cx, rfl, -⟩ := id HRX.out
      have m0 : (0 : Int) ≤ (m : Int) := by omega
      have m1 : (m : Int) < (l.length : Int) := by omega
      have hD : rowsF xr r = 0 ∨ rowsF xr r < 0 ∨ 0 < rowsF xr r := by omega
      rcases hD with hz | hz | hz
      · have hb0 := beqT hz
        have HP : Hid (PlaceOf (av l) r m true) := Lib.hid ⟨by rw [HAL.out]; omega, fun j p hj hp => by
            have := (List.getElem?_eq_some_iff.1 hp)
            obtain ⟨h1, e1⟩ := this
            obtain ⟨h2, e2⟩ := List.getElem?_eq_some_iff.1 HX.out
            have h3 := List.pairwise_iff_getElem.1 HR.out.rise j m h1 h2 hj
            rw [e1, e2] at h3
            have e := (rowsF_zero (HR.out.good _ (List.mem_of_getElem? HX.out)) HG.out).1 hz
            simp only at h3 e
            rw [← e]
            exact h3, fun _ => ⟨_, HX.out, hz⟩, nofun⟩
        clear hz
        go_wp2_with fail
        refine (rrows_any _ _ xr r _ (HRX.out.below hbw) (HS.out.below hbw)).mono ?_
        rintro e w2 ⟨rfl, hb2⟩
        go_wp2
        go_ret2
        exact ⟨m, true, rfl, HP.out, below_trans hbw hb2⟩
      · have hb0 := beqF (show rowsF xr r ≠ 0 by omega)
        have HL2 : Hid (∀ j p, j < m + 1 → (av l)[j]? = some p → rowsF p.1 r < 0) := Lib.hid fun j p hj hp => rises_less HR.out HG.out hp HX.out (by omega) hz
        go_wp2_with fail
        refine (rrows_any _ _ xr r _ (HRX.out.below hbw) (HS.out.below hbw)).mono ?_
        rintro e w2 ⟨rfl, hb2⟩
        go_wp2
        go_roundw
        case rel => exact ⟨m + 1, b, by go_num, rfl, by omega, hbl, HL2.out, HM.out, below_trans hbw hb2⟩
        case measure => simp [intOf]; omega
      · have hb0 := beqF (show rowsF xr r ≠ 0 by omega)
        have hn : ¬ rowsF xr r < 0 := by omega
        have HM2 : Hid (∀ j p, m ≤ j → (av l)[j]? = some p → 0 < rowsF p.1 r) := Lib.hid fun j p hj hp => rises_more HR.out HG.out HX.out hp hj hz
        clear hz
        go_wp2_with fail
        refine (rrows_any _ _ xr r _ (HRX.out.below hbw) (HS.out.below hbw)).mono ?_
        rintro e w2 ⟨rfl, hb2⟩
        go_wp2
        go_roundw
        case rel => exact ⟨a, m, rfl, rfl, hma, by omega, HL.out, HM2.out, below_trans hbw hb2⟩
        case measure => simp [intOf]; omega
    · obtain rfl : a = b := by omega
      go_wp2
      go_ret2
      exact ⟨a, false, rfl, ⟨by rw [HAL.out]; omega, HL.out, nofun, fun _ => HM.out⟩, hbw⟩

end Go.Proofs.YtelmlagolmabpaaDoor
namespace Go.Proofs.YtelmlagolmabpaaDoor
open Go.RowKit

theorem own_prefix {w : World} {base : Nat} {e : TypeId} {size g n cap k : Nat} {xs : List Value} (h : w.ownsRow base e size (.slice (some ⟨g, 0, none⟩) n cap) n xs) (hk : k ≤ n) : w.ownsRow base e size (.slice (some ⟨g, 0, none⟩) k cap) k (xs.take (k * size)) := by
  have hx := h.1
  have hks : k * size ≤ n * size := Nat.mul_le_mul_right _ hk
  refine ⟨by rw [List.length_take, hx]; omega, ?_⟩
  rcases h.2 with ⟨h', -⟩ | ⟨g', cap', cur, h', hb, hg, hn, hc, hsz, ht⟩
  · cases h'
  · injection h' with e1 e2 e3
    injection e1 with e1
    injection e1 with e1
    subst e1 e3
    refine .inr ⟨g, cap, cur, rfl, hb, hg, by omega, hc, hsz, ?_⟩
    rw [← ht, List.take_take, Nat.min_eq_left hks]

/-! ### copy, of elements of any size -/
theorem run_copy_wide {P : Program} (w : World) (dT sT ty elem : TypeId) (g o dLen dCap : Nat) (a : Addr) (sLen sCap size : Nat) (cur : Array Value) (t : TypeId) (cs : List Value)
    (hu : P.underlying dT = some (.slice elem)) (hs : (P.info? elem).map (·.size) = some size)
    (hg : w.heap[g]? = some (.cells cur t (0, 0))) (hn : cs.length = Nat.min sLen dLen * size)
    (hsrc : ∀ j v, cs[j]? = some v → w.cell? (a.add j) = some v) (hfit : o + cs.length ≤ cur.size) (h1 : ∀ v ∈ cs, v.oneCell' = true) :
    (Builtin.copy_ #[dT, sT] ty #[.slice (some ⟨g, o, none⟩) dLen dCap, .slice (some a) sLen sCap]).run P w =
      .ok (goInt (Nat.min sLen dLen)) (w.setRow g (cur.toList.take o ++ cs ++ cur.toList.drop (o + cs.length)).toArray) := by
  have hl := run_loadCells_list (P := P) w a cs hsrc
  have hst := run_storeCells_at P g o t cs 0 cur w hg (by simpa using hfit) h1
  cases hq : P.info? elem with
  | none => simp [hq] at hs
  | some i =>
    have hi : i.size = size := by simpa [hq] using hs
    simp [Builtin.copy_, run_underlying hu, Builtin.lenOf, Builtin.firstCells, sizeOf, typeInfo, hq, hi, ← hn, hl, hst]

/-! ### a view of one's own, turned -/
theorem flat_take {α : Type} {f : α → List Value} {size : Nat} (hf : ∀ a, (f a).length = size) (l : List α) (k : Nat) : (l.flatMap f).take (k * size) = (l.take k).flatMap f := by
  induction l generalizing k with
  | nil => simp
  | cons a l ih =>
    cases k with
    | zero => simp
    | succ k => rw [List.flatMap_cons, List.take_succ_cons, List.flatMap_cons, List.take_append, hf a, List.take_of_length_le (by rw [hf a, Nat.add_mul]; omega), ← ih k]; congr 2; rw [Nat.add_mul]; omega
theorem flat_drop {α : Type} {f : α → List Value} {size : Nat} (hf : ∀ a, (f a).length = size) (l : List α) (k : Nat) : (l.flatMap f).drop (k * size) = (l.drop k).flatMap f := by
  induction l generalizing k with
  | nil => simp
  | cons a l ih =>
    cases k with
    | zero => simp
    | succ k => rw [List.flatMap_cons, List.drop_succ_cons, List.drop_append, hf a, List.drop_of_length_le (by rw [hf a, Nat.add_mul]; omega), List.nil_append, ← ih k]; congr 1; rw [Nat.add_mul]; omega
theorem cnt_take (l : List Cnt) (k : Nat) : (cntCells l).take (k * 2) = cntCells (l.take k) := flat_take Cnt.cells_len l k
theorem cnt_drop (l : List Cnt) (k : Nat) : (cntCells l).drop (k * 2) = cntCells (l.drop k) := flat_drop Cnt.cells_len l k
theorem grown_of_below {w w' : World} (h : Below w.heap.size w w') (row : Option Nat) : w.grownBy w' row := ⟨h.os, h.tape, h.output, h.size, fun k hk _ => h.block k hk⟩
theorem grown_trans {a b c : World} {row : Option Nat} (h : a.grownBy b row) (k : b.grownBy c row) : a.grownBy c row := ⟨k.os.trans h.os, k.tape.trans h.tape, k.output.trans h.output, Nat.le_trans h.size k.size, fun j hj hn => (k.block j (Nat.lt_of_lt_of_le hj h.size) hn).trans (h.block j hj hn)⟩
theorem grown_new {a b c : World} {row row' : Option Nat} (h : a.grownBy b row) (k : b.grownBy c row') (hr : ∀ j, row' = some j → row = some j ∨ a.heap.size ≤ j) : a.grownBy c row := ⟨k.os.trans h.os, k.tape.trans h.tape, k.output.trans h.output, Nat.le_trans h.size k.size, fun j hj hn => (k.block j (Nat.lt_of_lt_of_le hj h.size) (fun e => by
  rcases hr j e.symm with h1 | h1
  · exact hn h1.symm
  · omega)).trans (h.block j hj hn)⟩
theorem drew_grown {w w' : World} {row : Option Nat} (h : w.drew.grownBy w' row) : w.grownBy w' row := ⟨h.os, h.tape, h.output, h.size, h.block⟩
theorem grown_drew {w w' : World} {row : Option Nat} (h : w.grownBy w' row) : w.grownBy w'.drew row := ⟨h.os, h.tape, h.output, h.size, h.block⟩
/-- Some of the entries, in the same row or a new one. -/
theorem OwnV.sub {w w' : World} {base : Nat} {v v' : Value} {l l' : List Cnt} (h : OwnV w base v l) (hown : w'.ownsRow base 99 2 v' l'.length (cntCells l')) (hg : w.grownBy w' v.ownBlock) (hat : v'.ownBlock = v.ownBlock ∨ v'.ownBlock = some w.heap.size) (hsub : ∀ c ∈ l', c ∈ l) : OwnV w' base v' l' := by
  refine ⟨hown, fun d hd => sl_grown (h.rows d (hsub d hd)) hg (fun k hk => (h.far d (hsub d hd) k hk).2), fun d hd k hk => ?_⟩
  obtain ⟨h1, h2⟩ := h.far d (hsub d hd) k hk
  refine ⟨Nat.lt_of_lt_of_le h1 hg.size, ?_⟩
  rcases hat with hat | hat
  · rw [hat]; exact h2
  · rw [hat]; intro e; injection e with e; omega
theorem cnt_set (l : List Cnt) (i : Nat) (c : Cnt) (n : Int) (hi : l[i]? = some c) : (cntCells l).set (i * 2 + 1) (.int .i64 n) = cntCells (l.set i ⟨c.v, c.r, n⟩) := by
  induction l generalizing i with
  | nil => simp at hi
  | cons a l ih =>
    cases i with
    | zero =>
      simp at hi
      subst hi
      simp [cntCells, Cnt.cells]
    | succ i =>
      have := ih i (by simpa using hi)
      have e : (i + 1) * 2 + 1 = i * 2 + 1 + 1 + 1 := by omega
      rw [e, List.set_cons_succ]
      unfold cntCells at this ⊢
      rw [List.flatMap_cons, List.flatMap_cons, ← this]
      simp [Cnt.cells]
/-- One number set anew. -/
theorem OwnV.set {w : World} {base g cap i : Nat} {l : List Cnt} {c : Cnt} {n : Int} (h : OwnV w base (.slice (some ⟨g, 0, none⟩) l.length cap) l) (hi : l[i]? = some c) :
    OwnV (w.setCell ⟨g, i * 2 + 1, none⟩ (.int .i64 n)) base (.slice (some ⟨g, 0, none⟩) l.length cap) (l.set i ⟨c.v, c.r, n⟩) ∧ w.grownBy (w.setCell ⟨g, i * 2 + 1, none⟩ (.int .i64 n)) (some g) := by
  obtain ⟨h1, h2⟩ := h.own.stored (i * 2 + 1) (.int .i64 n)
  rw [cnt_set l i c n hi] at h1
  have hsub : ∀ d ∈ l.set i ⟨c.v, c.r, n⟩, ∃ d' ∈ l, d'.v = d.v ∧ d'.r = d.r := by
    intro d hd
    rcases List.mem_or_eq_of_mem_set hd with hd | rfl
    · exact ⟨d, hd, rfl, rfl⟩
    · exact ⟨c, List.mem_of_getElem? hi, rfl, rfl⟩
  refine ⟨⟨by rw [List.length_set]; exact h1, fun d hd => ?_, fun d hd k hk => ?_⟩, h2⟩
  · obtain ⟨d', hd', e1, e2⟩ := hsub d hd
    rw [← e1, ← e2]
    exact sl_grown (h.rows d' hd') h2 (fun k hk => (h.far d' hd' k hk).2)
  · obtain ⟨d', hd', e1, -⟩ := hsub d hd
    rw [← e1] at hk
    obtain ⟨a, b⟩ := h.far d' hd' k hk
    exact ⟨Nat.lt_of_lt_of_le a h2.size, b⟩
theorem av_set (l : List Cnt) (i : Nat) (c : Cnt) (n : Int) (hi : i < l.length) : av (l.set i ⟨c.v, c.r, n⟩) = (av l).take i ++ (c.r, n) :: (av l).drop (i + 1) := by
  unfold av
  rw [List.set_eq_take_append_cons_drop, if_pos hi]
  simp [List.map_take, List.map_drop]
theorem av_cut (l : List Cnt) (i : Nat) : av (l.take i ++ l.drop (i + 1)) = (av l).take i ++ (av l).drop (i + 1) := by
  unfold av
  simp [List.map_take, List.map_drop]
theorem sl_none {w : World} {A : Addr} {n c : Nat} (h : n ≤ c) (hc : c ≤ maxLen) : Sl w (.slice (some A) n c) n [] := ⟨_, c, rfl, h, hc, nofun, fun h => absurd rfl h⟩

end Go.Proofs.YtelmlagolmabpaaDoor
namespace Go.Proofs.YtelmlagolmabpaaDoor
open Go.RowKit

theorem cntSize : (Tryd.prog.info? 99).map (·.size) = some 2 := by kernel_rfl
theorem run_copy_zero {P : Program} (w : World) (dT sT ty elem : TypeId) (d s : Option Addr) (dLen dCap sLen sCap : Nat)
    (hu : P.underlying dT = some (.slice elem)) (hs : ((P.info? elem).map (·.size)).isSome = true) (hn : Nat.min sLen dLen = 0) :
    (Builtin.copy_ #[dT, sT] ty #[.slice d dLen dCap, .slice s sLen sCap]).run P w = .ok (goInt 0) w := by
  cases hq : P.info? elem with
  | none => simp [hq] at hs
  | some i => cases d <;> cases s <;> simp [Builtin.copy_, run_underlying hu, Builtin.lenOf, Builtin.firstCells, sizeOf, typeInfo, hq, hn, storeCells, loadCells, loadCellsFrom]

/-- What lies from i on goes one place on. -/
theorem own_shift {w : World} {base g m cap i c1 c2 : Nat} {xs : List Value} (h : w.ownsRow base 99 2 (.slice (some ⟨g, 0, none⟩) (m + 1) cap) (m + 1) xs) (hi : i < m) (h1 : ∀ v ∈ xs, v.oneCell' = true) :
    ∃ w', (∀ ty, (Builtin.copy_ #[51, 51] ty #[.slice (some ⟨g, (i + 1) * 2, none⟩) (m - i) c1, .slice (some ⟨g, i * 2, none⟩) (m + 1 - i) c2]).run Tryd.prog w = .ok (goInt (m - i : Nat)) w') ∧
      w'.ownsRow base 99 2 (.slice (some ⟨g, 0, none⟩) (m + 1) cap) (m + 1) (xs.take ((i + 1) * 2) ++ (xs.drop (i * 2)).take ((m - i) * 2)) ∧ w.grownBy w' (some g) := by
  have hx := h.1
  rcases h.2 with ⟨h', -⟩ | ⟨g', cap', cur, h', hb, hg, hn, hc, hsz, ht⟩
  · cases h'
  · injection h' with e1 e2 e3
    injection e1 with e1
    injection e1 with e1
    subst e1 e3
    have hlen : ((xs.drop (i * 2)).take ((m - i) * 2)).length = (m - i) * 2 := by rw [List.length_take, List.length_drop, hx]; omega
    have hmin : Nat.min (m + 1 - i) (m - i) = m - i := by show min _ _ = _; omega
    have hcur : (m + 1) * 2 ≤ cur.size := by rw [hsz]; exact Nat.mul_le_mul_right _ hn
    have hrun := fun ty => run_copy_wide (P := Tryd.prog) w 51 51 ty 99 g ((i + 1) * 2) (m - i) c1 ⟨g, i * 2, none⟩ (m + 1 - i) c2 2 cur 99 ((xs.drop (i * 2)).take ((m - i) * 2)) Tryd.underlying51 cntSize hg
      (by rw [hlen, hmin]) (fun j v hj => by
        rw [List.getElem?_take] at hj
        split at hj
        · rw [List.getElem?_drop] at hj
          have := h.cellAt (i * 2 + j) (by have := (List.getElem?_eq_some_iff.1 hj).1; omega)
          rw [hj] at this
          unfold Addr.add
          split
          · rename_i h0; subst h0; simpa using this
          · exact this
        · cases hj) (by rw [hlen]; omega) (fun v hv => h1 v (List.mem_of_mem_drop (List.mem_of_mem_take hv)))
    simp only [hmin] at hrun
    refine ⟨_, hrun, ⟨?_, .inr ⟨g, cap, _, rfl, hb, setRow_heap w g cur _ 99 _ hg, hn, hc, ?_, ?_⟩⟩, ⟨rfl, rfl, rfl, by simp [World.setRow], fun k hk hne => setRow_other w g k _ (fun e => hne (by rw [e]))⟩⟩
    · rw [List.length_append, hlen, List.length_take, hx]; omega
    · simp only [List.size_toArray, List.length_append, List.length_take, List.length_drop, Array.length_toList, hlen]; omega
    · have e1 : cur.toList.take ((i + 1) * 2) = xs.take ((i + 1) * 2) := by rw [← ht, List.take_take, Nat.min_eq_left (by omega)]
      rw [e1]
      have e4 : (xs.take ((i + 1) * 2) ++ (xs.drop (i * 2)).take ((m - i) * 2)).length = (m + 1) * 2 := by rw [List.length_append, hlen, List.length_take, hx]; omega
      exact List.take_left' e4

theorem step_copy_run {P : Program} {ops : Array Oper} {o : Oper} {a : Act} {w w' : World} {K : Act → World → Prop} {Q : Exit → Act → World → Prop} {E : Prop} {r : Value} (hgd : o.guard = none) (d s : Operand) (dT sT : TypeId)
    (ho : o.op = .call { callee := .builtin .copy, args := #[d, s], argTypes := #[dT, sT] }) (dv sv : Value) (hd : a.eval d = dv) (hs : a.eval s = sv) (hrun : (Builtin.copy_ #[dT, sT] o.type #[dv, sv]).run P w = .ok r w')
    (h : K (a.put o.dst r) w') : if Region.wanted o (yielded ops a.tmps) = true then Oper.wp P o a w K Q else E := by
  rw [if_pos (by simp [Region.wanted, hgd])]
  unfold Oper.wp
  simp [execOp, ho, resolve, invoke, builtin, hd, hs, hrun, Result.andThen]
  exact h

/-- The entry at place i laid anew. -/
theorem cnt_lay (a b : List Cnt) (x c : Cnt) : ((cntCells (a ++ x :: b)).set (a.length * 2) c.v).set (a.length * 2 + 1) (.int .i64 c.n) = cntCells (a ++ c :: b) := by
  induction a with
  | nil => simp [cntCells, Cnt.cells]
  | cons y a ih =>
    have e1 : (y :: a).length * 2 = a.length * 2 + 1 + 1 := by simp; omega
    rw [e1]
    unfold cntCells at ih ⊢
    simp only [List.cons_append, List.flatMap_cons]
    rw [← ih]
    simp [Cnt.cells]

theorem OwnV.lay {w : World} {base g n cap : Nat} {a b : List Cnt} {x c : Cnt} (h : OwnV w base (.slice (some ⟨g, 0, none⟩) n cap) (a ++ x :: b)) (hn : n = (a ++ x :: b).length) (hc : Sl w c.v c.r.length (rowCells c.r)) (hf : ∀ k, c.v.ownBlock = some k → k < w.heap.size ∧ k ≠ g) :
    OwnV ((w.setCell ⟨g, a.length * 2, none⟩ c.v).setCell ⟨g, a.length * 2 + 1, none⟩ (.int .i64 c.n)) base (.slice (some ⟨g, 0, none⟩) n cap) (a ++ c :: b) ∧ w.grownBy ((w.setCell ⟨g, a.length * 2, none⟩ c.v).setCell ⟨g, a.length * 2 + 1, none⟩ (.int .i64 c.n)) (some g) := by
  have ho := h.own
  rw [← hn] at ho
  obtain ⟨h1, g1⟩ := ho.stored (a.length * 2) c.v
  obtain ⟨h2, g2⟩ := h1.stored (a.length * 2 + 1) (.int .i64 c.n)
  have hg := grown_trans g1 g2
  rw [cnt_lay] at h2
  have hlen : (a ++ c :: b).length = n := by rw [hn]; simp
  have hd : ∀ d ∈ a ++ c :: b, Sl w d.v d.r.length (rowCells d.r) ∧ ∀ k, d.v.ownBlock = some k → k < w.heap.size ∧ k ≠ g := by
    intro d hd
    rcases List.mem_append.1 hd with hd | hd
    · exact ⟨h.rows d (by simp [hd]), fun k hk => by obtain ⟨p, q⟩ := h.far d (by simp [hd]) k hk; exact ⟨p, fun e => q (by rw [e]; rfl)⟩⟩
    · rcases List.mem_cons.1 hd with rfl | hd
      · exact ⟨hc, hf⟩
      · exact ⟨h.rows d (by simp [hd]), fun k hk => by obtain ⟨p, q⟩ := h.far d (by simp [hd]) k hk; exact ⟨p, fun e => q (by rw [e]; rfl)⟩⟩
  refine ⟨⟨by rw [hlen]; exact h2, fun d hd' => sl_grown (hd d hd').1 hg (fun k hk e => ((hd d hd').2 k hk).2 (by injection e with e; exact e.symm)), fun d hd' k hk => ?_⟩, hg⟩
  obtain ⟨p, q⟩ := (hd d hd').2 k hk
  exact ⟨Nat.lt_of_lt_of_le p hg.size, fun e => q (by simp [Value.ownBlock] at e; exact e.symm)⟩
theorem split_at {l : List Cnt} {i : Nat} (hi : i < l.length) (z : Cnt) : (l ++ [z]).take (i + 1) = l.take i ++ [l[i]] ∧ ((l ++ [z]).drop i).take (l.length - i) = l.drop i := by
  constructor
  · rw [List.take_append_of_le_length (by omega), List.take_add_one, List.getElem?_eq_getElem hi]; rfl
  · rw [List.drop_append_of_le_length (by omega), List.take_append_of_le_length (by rw [List.length_drop]; omega), List.take_of_length_le (by rw [List.length_drop]; omega)]
theorem av_lay (l : List Cnt) (i : Nat) (c : Cnt) : av (l.take i ++ c :: l.drop i) = (av l).take i ++ (c.r, c.n) :: (av l).drop i := by
  unfold av
  simp [List.map_take, List.map_drop]

end Go.Proofs.YtelmlagolmabpaaDoor
