/-
  Piles: add.
-/
import Derived.Test.YtelmlagolmabpaaDoorChgLaw1
import Derived.Test.YtelmlagolmabpaaDoorPlan4
import Derived.Maps.OwnSet
import Derived.StringKeys
set_option linter.unusedSimpArgs false
set_option linter.unusedVariables false
namespace Go.Proofs.YtelmlagolmabpaaDoor
open Go.RowKit Go.Maps

theorem lawS : Keyed Tryd.prog 9 := string_keyed Tryd.underlying9
theorem keyRow_short {l : List Val} (h : GoodR l) : (keyRow l).length ≤ 1048 := by
  have h8 := h.few
  have hg := h.good
  clear h
  have : (keyRow l).length ≤ 131 * l.length := by
    clear h8
    induction l with
    | nil => simp [keyRow]
    | cons x l ih =>
      have h1 := keyCell_len x (good_size (hg x (by simp)).1)
      have h2 := ih fun y hy => hg y (by simp [hy])
      rw [show keyRow (x :: l) = keyCell x ++ keyRow l from List.flatMap_cons, List.length_append, List.length_cons]
      omega
  omega
theorem keyS {r : List Val} (h : GoodR r) : keyOf Tryd.prog 9 (.string (str (keyRow r))) = some (kOf r) := by
  have hl := keyRow_short h
  have := WideMaps.keyOf_string_mk (P := Tryd.prog) (k := 9) Tryd.underlying9 (s := str (keyRow r)) (by rw [str_size]; unfold maxLen; omega)
  rw [this]
  rfl
theorem zeroS (w : World) : (zeroValue 3).run Tryd.prog w = .ok (.int .i64 0) w := by kernel_rfl
theorem isKey_s (r : List Val) : WideAt.IsKeyLit (kOf r) := trivial

/-- A pile in block M: the entries A, by their keys. -/
def Pile (w : World) (M N : Nat) (A : AV) : Prop := ∃ n, n ≤ N ∧ w.ownsMap Tryd.prog 9 (plainElem (H := Unit) Tryd.prog 3) M n (mkD A)

def addR (A : AV) (r : List Val) (n : Int) : AV × Int :=
  if lookA A r + n < 0 then (A, 9)
  else if 1073741824 < lookA A r + n ∨ (hasA A r = false ∧ 0 < lookA A r + n ∧ A.length = 4096) then (A, 2)
  else if lookA A r + n = 0 then (delA A r, 0) else (putA A r (lookA A r + n), 0)
theorem del_put {A : AV} {r : List Val} {n : Int} (h : Rises A) (hr : GoodR r) : delA (putA A r n) r = delA A r := by
  induction A with
  | nil => simp [putA, delA, rowsF_self hr]
  | cons x t ih =>
    obtain ⟨x, m⟩ := x
    have hx : GoodR x := h.good (x, m) (by simp)
    obtain ⟨h1, h2⟩ := List.pairwise_cons.1 h.rise
    have h1 : ∀ p ∈ t, rowsF x p.1 < 0 := h1
    unfold putA
    by_cases e : rowsF x r = 0
    · rw [if_pos e]; simp [delA, e]
    · rw [if_neg e]
      by_cases l : rowsF x r < 0
      · rw [if_pos l]; simp [delA, e, ih h.tail]
      · rw [if_neg l]
        simp [delA, rowsF_self hr, e]
        have hlt : rowsF r x < 0 := by rw [rowsF_flip hx hr]; omega
        have : ∀ q : AV, (∀ p ∈ q, GoodR p.1) → (∀ p ∈ q, rowsF r p.1 < 0) → delA q r = q := by
          intro q
          induction q with
          | nil => intros; rfl
          | cons y q ih2 =>
            obtain ⟨y, c⟩ := y
            intro hq hq2
            have hy : GoodR y := hq (y, c) (by simp)
            have := hq2 (y, c) (by simp)
            simp only at this
            unfold delA
            rw [if_neg (by rw [rowsF_flip hr hy]; omega), ih2 (fun p hp => hq p (by simp [hp])) (fun p hp => hq2 p (by simp [hp]))]
        exact (this t (fun p hp => h.good p (by simp [hp])) fun p hp => rowsF_trans hr hx (h.good p (by simp [hp])) hlt (h1 p hp)).symm

set_option maxHeartbeats 4000000 in
set_option maxRecDepth 100000 in
theorem add_any {M N : Nat} {A : AV} {r : List Val} {n : Int} (w : World) (hp : Pile w M N A) (hN : N ≤ 1000000) (hA : Rises A) (hr : GoodR r) (hb : -1099511627776 ≤ lookA A r ∧ lookA A r ≤ 1099511627776) (hn : -1099511627776 ≤ n ∧ n ≤ 1099511627776) :
    Calls Tryd.prog 72 #[.map (some M), .string (str (keyRow r)), .int .i64 n] w fun e w' => e = .returned (.int .i64 (addR A r n).2) ∧ Pile w' M (N + 1) (addR A r n).1 ∧ w.grownBy w' (some M) := by
  obtain ⟨k, hk, hown⟩ := hp
  have HK := Lib.hid (keyS hr)
  have hat0 := mkD_at hA.good hr
  have hhas := mkD_has hA.good hr
  have hput := fun m => mkD_put (n := m) hA hr
  have HPD := Lib.hid (fun m => show ((mkD A).put (kOf r) (.lit (.int .i64 m))).del (kOf r) = mkD (delA A r) from by
    rw [hput m, mkD_del (rises_put hA hr) hr, del_put hA hr])
  have HPUT := Lib.hid hput
  have HH := Lib.hid hhas
  have HSZ := Lib.hid (mkD_size A)
  have HR : Hid (addR A r n = if lookA A r + n < 0 then (A, 9) else if 1073741824 < lookA A r + n ∨ (hasA A r = false ∧ 0 < lookA A r + n ∧ A.length = 4096) then (A, 2) else if lookA A r + n = 0 then (delA A r, 0) else (putA A r (lookA A r + n), 0)) := Lib.hid rfl
  generalize addR A r n = R at HR ⊢
  obtain ⟨c, hrun, hat, -⟩ := hown.lookup_int (t := 89) lawS Tryd.underlying89 Tryd.underlying3 (zeroS _) HK.out
  obtain rfl := lit_inj (hat.symm.trans hat0)
  generalize lookA A r = c at hrun hb HR HPUT
  generalize hasA A r = b at HH HR
  have hlen : ∀ ty, (Builtin.len_ #[89] ty #[.map (some M)]).run Tryd.prog w = .ok (.int .i64 A.length) w := fun ty => by
    have := hown.len (t := 89) (e := 3) Tryd.underlying89 ty
    rw [HSZ.out] at this
    exact this
  have HWN := Lib.hid (show (Lit.int .i64 (c + n)).wf = true from wf_of (by omega))
  have hkk : k < maxLen := by unfold maxLen; omega
  have HKK := Lib.hid hkk
  clear hat hat0 hhas hput hA hr hkk
  generalize str (keyRow r) = s at HK hrun ⊢
  by_cases h1 : c + n < 0
  · have EE := Lib.hid (HR.out.trans (if_pos h1))
    go_enter Tryd.func72, Tryd.ntmps72
    go_wp2
    go_ret
    exact ⟨ret_int (by rw [EE.out]), ⟨k, by omega, by rw [EE.out]; exact hown⟩, World.grownBy.refl w _⟩
  · have HR2 := Lib.hid (HR.out.trans (if_neg h1))
    clear HR
    by_cases h2 : 1073741824 < c + n
    · have EE := Lib.hid (HR2.out.trans (if_pos (.inl h2)))
      clear HR2
      go_enter Tryd.func72, Tryd.ntmps72
      go_wp2_with (at_lookup; refine wpList_lookup_own_ok_int _ rfl _ _ 89 rfl 9 3 .i64 lawS Tryd.underlying89 Tryd.underlying3 (zeroS _) M k _ rfl hown _ _ rfl HK.out ?_; intro c2 hat2 hwc2; rw [HH.out]; clear hat2 hwc2)
      go_ret
      exact ⟨ret_int (by rw [EE.out]), ⟨k, by omega, by rw [EE.out]; exact hown⟩, World.grownBy.refl w _⟩
    · cases b
      · by_cases h3 : 0 < c + n
        · by_cases h4 : A.length = 4096
          · have EE := Lib.hid (HR2.out.trans (if_pos (.inr ⟨rfl, h3, h4⟩)))
            have hb4 : ((A.length : Int) == 4096) = true := by simp [h4]
            clear HR2 h4
            go_enter Tryd.func72, Tryd.ntmps72
            go_wp2_with (first
              | (at_lookup; refine wpList_lookup_own_ok_int _ rfl _ _ 89 rfl 9 3 .i64 lawS Tryd.underlying89 Tryd.underlying3 (zeroS _) M k _ rfl hown _ _ rfl HK.out ?_; intro c2 hat2 hwc2; rw [HH.out]; clear hat2 hwc2))
            go_ret
            exact ⟨ret_int (by rw [EE.out]), ⟨k, by omega, by rw [EE.out]; exact hown⟩, World.grownBy.refl w _⟩
          · have hz : ¬ c + n = 0 := by omega
            have EE := Lib.hid (HR2.out.trans ((if_neg (by rintro (h | ⟨-, -, h⟩); exact h2 h; exact h4 h)).trans (if_neg hz)))
            have hb4 : ((A.length : Int) == 4096) = false := by simp; omega
            have hbz := beqF hz
            clear HR2 h4 hz
            go_enter Tryd.func72, Tryd.ntmps72
            go_wp2_with (first
              | (at_lookup; refine wpList_lookup_own_ok_int _ rfl _ _ 89 rfl 9 3 .i64 lawS Tryd.underlying89 Tryd.underlying3 (zeroS _) M k _ rfl hown _ _ rfl HK.out ?_; intro c2 hat2 hwc2; rw [HH.out]; clear hat2 hwc2)
              | (at_mapUpdate; refine wpList_mapUpdate_own _ rfl _ _ _ 89 rfl 9 3 lawS Tryd.underlying89 _ M k _ rfl hown HKK.out _ _ _ rfl rfl HK.out _ [] (plainElem_int Tryd.underlying3 HWN.out) ?_; intro w1 hown1 hgrow1; clear hrun))
            go_ret
            exact ⟨ret_int (by rw [EE.out]), ⟨k + 1, by omega, by rw [EE.out]; have h := hown1; rw [HPUT.out] at h; exact h⟩, hgrow1⟩
        · have hz : c + n = 0 := by omega
          have EE := Lib.hid (HR2.out.trans ((if_neg (by rintro (h | ⟨-, h, -⟩); exact h2 h; exact h3 h)).trans (if_pos hz)))
          have hbz := beqT hz
          clear HR2 hz
          go_enter Tryd.func72, Tryd.ntmps72
          go_wp2_with (first
            | (at_lookup; refine wpList_lookup_own_ok_int _ rfl _ _ 89 rfl 9 3 .i64 lawS Tryd.underlying89 Tryd.underlying3 (zeroS _) M k _ rfl hown _ _ rfl HK.out ?_; intro c2 hat2 hwc2; rw [HH.out]; clear hat2 hwc2)
            | (at_mapUpdate; refine wpList_mapUpdate_own _ rfl _ _ _ 89 rfl 9 3 lawS Tryd.underlying89 _ M k _ rfl hown HKK.out _ _ _ rfl rfl HK.out _ [] (plainElem_int Tryd.underlying3 HWN.out) ?_; intro w1 hown1 hgrow1; clear hrun)
            | (at_delete; refine wpList_delete_own _ rfl _ _ 89 9 rfl 3 lawS Tryd.underlying89 _ M (k + 1) _ rfl hown1 _ _ rfl HK.out ?_; intro w2 hown2 hturn2))
          go_ret
          exact ⟨ret_int (by rw [EE.out]), ⟨k + 1, by omega, by rw [EE.out]; have h := hown2; rw [HPD.out] at h; exact h⟩, hgrow1.andThen hturn2.grown (fun j hj => .inr hj)⟩
      · by_cases hz : c + n = 0
        · have EE := Lib.hid (HR2.out.trans ((if_neg (by rintro (h | ⟨h, -⟩); exact h2 h; exact absurd h (by decide))).trans (if_pos hz)))
          have hbz := beqT hz
          clear HR2 hz
          go_enter Tryd.func72, Tryd.ntmps72
          go_wp2_with (first
            | (at_lookup; refine wpList_lookup_own_ok_int _ rfl _ _ 89 rfl 9 3 .i64 lawS Tryd.underlying89 Tryd.underlying3 (zeroS _) M k _ rfl hown _ _ rfl HK.out ?_; intro c2 hat2 hwc2; rw [HH.out]; clear hat2 hwc2)
            | (at_mapUpdate; refine wpList_mapUpdate_own _ rfl _ _ _ 89 rfl 9 3 lawS Tryd.underlying89 _ M k _ rfl hown HKK.out _ _ _ rfl rfl HK.out _ [] (plainElem_int Tryd.underlying3 HWN.out) ?_; intro w1 hown1 hgrow1; clear hrun)
            | (at_delete; refine wpList_delete_own _ rfl _ _ 89 9 rfl 3 lawS Tryd.underlying89 _ M (k + 1) _ rfl hown1 _ _ rfl HK.out ?_; intro w2 hown2 hturn2))
          go_ret
          exact ⟨ret_int (by rw [EE.out]), ⟨k + 1, by omega, by rw [EE.out]; have h := hown2; rw [HPD.out] at h; exact h⟩, hgrow1.andThen hturn2.grown (fun j hj => .inr hj)⟩
        · have EE := Lib.hid (HR2.out.trans ((if_neg (by rintro (h | ⟨h, -⟩); exact h2 h; exact absurd h (by decide))).trans (if_neg hz)))
          have hbz := beqF hz
          clear HR2 hz
          go_enter Tryd.func72, Tryd.ntmps72
          go_wp2_with (first
            | (at_lookup; refine wpList_lookup_own_ok_int _ rfl _ _ 89 rfl 9 3 .i64 lawS Tryd.underlying89 Tryd.underlying3 (zeroS _) M k _ rfl hown _ _ rfl HK.out ?_; intro c2 hat2 hwc2; rw [HH.out]; clear hat2 hwc2)
            | (at_mapUpdate; refine wpList_mapUpdate_own _ rfl _ _ _ 89 rfl 9 3 lawS Tryd.underlying89 _ M k _ rfl hown HKK.out _ _ _ rfl rfl HK.out _ [] (plainElem_int Tryd.underlying3 HWN.out) ?_; intro w1 hown1 hgrow1; clear hrun))
          go_ret
          exact ⟨ret_int (by rw [EE.out]), ⟨k + 1, by omega, by rw [EE.out]; have h := hown1; rw [HPUT.out] at h; exact h⟩, hgrow1⟩

end Go.Proofs.YtelmlagolmabpaaDoor
