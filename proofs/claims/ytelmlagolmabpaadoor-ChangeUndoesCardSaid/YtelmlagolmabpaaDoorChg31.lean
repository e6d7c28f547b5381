/-
  The reference's NetOf.
-/
import Derived.Test.YtelmlagolmabpaaDoorChg28
import Derived.Test.YtelmlagolmabpaaDoorChgM7
import Derived.Test.YtelmlagolmabpaaDoorChgM5
set_option linter.unusedSimpArgs false
set_option linter.unusedVariables false
namespace Go.Proofs.YtelmlagolmabpaaDoor
open Go.RowKit Go.Maps

/-- A list of rows that came, or went, n times at most. -/
structure GoodK (A : AV) (n : Nat) : Prop where
  rises : Rises A
  few : A.length ≤ n
  nums : ∀ p ∈ A, 1 ≤ p.2 ∧ p.2 ≤ (n : Int)
theorem GoodK.nil : GoodK [] 0 := ⟨Rises.nil, by simp, nofun⟩
theorem GoodK.more {A : AV} {n : Nat} (h : GoodK A n) : GoodK A (n + 1) := ⟨h.rises, by have := h.few; omega, fun p hp => by have := h.nums p hp; omega⟩
theorem look_nat {A : AV} {n : Nat} (r : List Val) (h : ∀ p ∈ A, 1 ≤ p.2 ∧ p.2 ≤ (n : Int)) : 0 ≤ lookA A r ∧ lookA A r ≤ (n : Int) := by
  induction A with
  | nil => simp [lookA]
  | cons x t ih =>
    obtain ⟨x, m⟩ := x
    have := h (x, m) (by simp)
    have i := ih fun p hp => h p (by simp [hp])
    simp only at this
    unfold lookA
    split
    · omega
    · exact i
theorem GoodK.add {A : AV} {n : Nat} {r : List Val} (h : GoodK A n) (hn : n < 4096) (hr : GoodR r) : GoodK (addR A r 1).1 (n + 1) ∧ ∀ x, GoodR x → lookA (addR A r 1).1 x = if r = x then lookA A r + 1 else lookA A x := by
  have hl := look_nat r h.nums
  have hf := h.few
  have e : addR A r 1 = (putA A r (lookA A r + 1), 0) := by
    unfold addR
    rw [if_neg (by omega), if_neg (by rintro (h | ⟨-, -, h⟩) <;> omega), if_neg (by omega)]
  rw [e]
  refine ⟨⟨rises_put h.rises hr, by have := putA_len A r (lookA A r + 1); simp only; omega, fun p hp => ?_⟩, fun x hx => look_put h.rises hr hx⟩
  rcases put_mem2 hp with hp | hp
  · have := h.nums p hp; omega
  · omega
/-- What came and what went, behind the changes L. -/
structure Halves (C W : AV) (L : KL) : Prop where
  come : GoodK C L.length
  went : GoodK W L.length
  look : ∀ r, GoodR r → lookA C r - lookA W r = sumS L r
theorem Halves.nil : Halves [] [] [] := ⟨GoodK.nil, GoodK.nil, fun r _ => by simp [lookA, sumS]⟩
theorem Halves.in_ {C W : AV} {L : KL} {c : Int × List Val} (h : Halves C W L) (hl : L.length < 4096) (hr : GoodR c.2) (hs : stepI c.1 = 1) : Halves (addR C c.2 1).1 W (L ++ [c]) := by
  obtain ⟨a, b⟩ := h.come.add hl hr
  refine ⟨by rw [List.length_append]; exact a, by rw [List.length_append]; exact h.went.more, fun r hr' => ?_⟩
  have := h.look r hr'
  rw [b r hr', sumS_app, sumS, sumS, hs]
  split
  · rename_i e; subst e; omega
  · omega
theorem Halves.out_ {C W : AV} {L : KL} {c : Int × List Val} (h : Halves C W L) (hl : L.length < 4096) (hr : GoodR c.2) (hs : stepI c.1 = -1) : Halves C (addR W c.2 1).1 (L ++ [c]) := by
  obtain ⟨a, b⟩ := h.went.add hl hr
  refine ⟨by rw [List.length_append]; exact h.come.more, by rw [List.length_append]; exact a, fun r hr' => ?_⟩
  have := h.look r hr'
  rw [b r hr', sumS_app, sumS, sumS, hs]
  split
  · rename_i e; subst e; omega
  · omega
theorem GoodK.a {A : AV} {n : Nat} (h : GoodK A n) (hn : n ≤ 4096) : GoodA A := ⟨by have := h.few; omega, h.rises, fun p hp => by have := h.nums p hp; omega⟩
theorem Halves.done {C W : AV} {L : KL} (h : Halves C W L) (hl : L.length ≤ 4096) (hg : ∀ c ∈ L, GoodR c.2) : toldS (mergeD W C) = (tell (netR [] L), true) := by
  rw [← net_told hg hl]
  refine told_ext (merge_rises h.went.rises h.come.rises) (net_rises L [] Rises.nil hg) fun r hr => ?_
  rw [merge_look h.went.rises h.come.rises hr, net_look L [] Rises.nil hg r hr, h.look r hr]
  simp [lookA]

/-- Two views of one's own, none of which lies in the other's block. -/
structure TwoV (w : World) (base : Nat) (va vb : Value) (a b : List Cnt) : Prop where
  one : OwnV w base va a
  two : OwnV w base vb b
  apart : ∀ j, va.ownBlock = some j → vb.ownBlock ≠ some j
  rows1 : ∀ c ∈ a, ∀ j, c.v.ownBlock = some j → vb.ownBlock ≠ some j
  rows2 : ∀ c ∈ b, ∀ j, c.v.ownBlock = some j → va.ownBlock ≠ some j
theorem TwoV.swap {w : World} {base : Nat} {va vb : Value} {a b : List Cnt} (h : TwoV w base va vb a b) : TwoV w base vb va b a := ⟨h.two, h.one, fun j h1 h2 => h.apart j h2 h1, h.rows2, h.rows1⟩
theorem TwoV.below {w w' : World} {base : Nat} {va vb : Value} {a b : List Cnt} (h : TwoV w base va vb a b) (hb : Below w.heap.size w w') : TwoV w' base va vb a b := ⟨h.one.below hb, h.two.below hb, h.apart, h.rows1, h.rows2⟩
theorem TwoV.nil (w : World) (base : Nat) : TwoV w base (.slice none 0 0) (.slice none 0 0) [] [] := ⟨OwnV.nil w base, OwnV.nil w base, nofun, nofun, nofun⟩
/-- The one grows; the other stays. -/
theorem TwoV.grow {w w' : World} {base : Nat} {va vb v' : Value} {a b l' : List Cnt} (h : TwoV w base va vb a b) (ho : OwnV w' base v' l') (hg : w.grownBy w' va.ownBlock) (hf : ∀ k, v'.ownBlock = some k → va.ownBlock = some k ∨ w.heap.size ≤ k)
    (hr : ∀ c ∈ l', (∃ d ∈ a, d.v = c.v) ∨ ∀ k, c.v.ownBlock = some k → w.heap.size ≤ k) : TwoV w' base v' vb l' b := by
  have hbl : ∀ j, vb.ownBlock = some j → j < w.heap.size := fun j hj => own_lt h.two.own j hj
  refine ⟨ho, ⟨h.two.own.kept hg ?_, fun c hc => sl_grown (h.two.rows c hc) hg (fun k hk e => h.rows2 c hc k hk e), fun c hc k hk => ?_⟩, fun j hj hn => ?_, fun c hc j hj hn => ?_, fun c hc j hj hn => ?_⟩
  · cases hn : vb.ownBlock with
    | none => exact .inl rfl
    | some j => exact .inr fun e => h.apart j e.symm hn
  · exact ⟨Nat.lt_of_lt_of_le (h.two.far c hc k hk).1 hg.size, (h.two.far c hc k hk).2⟩
  · rcases hf j hj with e | e
    · exact h.apart j e hn
    · have := hbl j hn; omega
  · rcases hr c hc with ⟨d, hd, e⟩ | e
    · exact h.rows1 d hd j (by rw [e]; exact hj) hn
    · have := e j hj; have := hbl j hn; omega
  · rcases hf j hn with e | e
    · exact h.rows2 c hc j hj e
    · have := (h.two.far c hc j hj).1; omega

set_option maxHeartbeats 8000000 in
set_option maxRecDepth 100000 in
theorem rnet_any (vm : Value) (m : List Chn) (w : World) (hs : Chs w vm m) (hg : GoodC m) :
    Calls Tryd.prog 46 #[vm] w fun e w' => ∃ v' l', e = .returned v' ∧ Chs w' v' l' ∧ ac l' = tell (netR [] (ac m)) ∧ Below w.heap.size w w' := by
  have HS := Lib.hid hs
  have HGC := Lib.hid hg
  obtain ⟨Am, cm, rfl, hm1, hm2, -⟩ := id hs.sl
  unfold maxLen at hm2
  have hml : m.length ≤ 4096 := hg.few
  clear hs hg
  go_enter Tryd.func46, Tryd.ntmps46
  go_wp2_with fail
  go_loopw [3, 4, 5] (fun come went ii wr => ∃ (k : Nat) (vc vw : Value) (lc lw : List Cnt), vc = come ∧ vw = went ∧ ii = .int .i64 k ∧ k ≤ m.length ∧ Hid (Halves (av lc) (av lw) ((ac m).take k)) ∧ Hid (TwoV wr w.heap.size vc vw lc lw) ∧ Below w.heap.size w wr) (fun _ _ ii _ => m.length - (intOf ii).toNat)
  case atStart => exact ⟨0, _, _, [], [], rfl, rfl, rfl, by omega, Lib.hid Halves.nil, Lib.hid (TwoV.nil _ _), Below.refl _ _⟩
  case round =>
    obtain ⟨k, vc, vw, lc, lw, rfl, rfl, rfl, hk, HH, HT, hbw⟩ := hrel
    by_cases hlt : k < m.length
    · have hx := List.getElem?_eq_getElem (l := m) hlt
      generalize m[k] = x at hx
      obtain ⟨g, off, rfl, -, hcc⟩ := chn_at HS.out.sl rfl hx
      have HC := Lib.hid hcc
      have hmem := List.mem_of_getElem? hx
      have HRX := Lib.hid (HS.out.rows x hmem)
      have HGX := Lib.hid (HGC.out.good x hmem).1
      have hx1 := (HGC.out.good x hmem).2.1
      have hx4 := (HGC.out.good x hmem).2.2
      have hkl : ((ac m).take k).length = k := by rw [List.length_take, ac_len]; omega
      have HTK : Hid ((ac m).take (k + 1) = (ac m).take k ++ [(x.k, x.r)]) := Lib.hid (by
        have : (ac m)[k]? = some (x.k, x.r) := by unfold ac; rw [List.getElem?_map, hx]; rfl
        rw [List.take_add_one, this]; rfl)
      clear hx hcc hmem
      obtain ⟨xv, xr, xk⟩ := x
      simp only at HC HRX HGX hx1 hx4 HTK
      obtain ⟨Ax, cx, rfl, -⟩ := id HRX.out
      obtain ⟨d1, d2⟩ := HC.out _ hbw
      have k0 : (0 : Int) ≤ (k : Int) := by omega
      have k1 : (k : Int) < (m.length : Int) := by omega
      have hs2 := stepI_two xk
      have hKC := HH.out.come
      have hKW := HH.out.went
      rw [hkl] at hKC hKW
      have hlc : lc.length ≤ 4096 := by have := hKC.few; unfold av at this; rw [List.length_map] at this; omega
      have hlw : lw.length ≤ 4096 := by have := hKW.few; unfold av at this; rw [List.length_map] at this; omega
      have hnc := look_nat xr hKC.nums
      have hnw := look_nat xr hKW.nums
      have HRC := Lib.hid hKC.rises
      have HRW := Lib.hid hKW.rises
      have HKL := Lib.hid hkl
      clear hKC hKW hkl
      rcases hs2 with hst | hst
      · have HST := Lib.hid hst
        have HH2 := Lib.hid (HH.out.in_ (c := (xk, xr)) (by rw [HKL.out]; omega) HGX.out hst)
        rw [← HTK.out] at HH2
        clear hst HH
        go_wp2_with fail
        refine (csign_any xk _ _ hx1 hx4).mono ?_
        rw [HST.out]
        rintro e w2 ⟨rfl, hb2⟩
        have hbw2 := below_trans hbw hb2
        have HT2 := Lib.hid (HT.out.below hb2)
        obtain ⟨z1, z2⟩ := HC.out _ hbw2
        clear d1 d2 hb2 HT
        go_wp2_with fail
        refine (more_own_any vc _ lc xr 1 w.heap.size _ HT2.out.one hbw2.size hlc (HRX.out.below hbw2) (fun hne j hj e => by
          have h1 := row_block HRX.out hne hj
          have h2 := own_ge HT2.out.one.own j e
          omega) HRC.out HGX.out (by omega) (by omega)).mono ?_
        rintro e w4 ⟨v4, l4, rfl, hO4, ha4, hg4, hf4, hr4⟩
        have hbw4 := below_grown hbw2 hg4 (own_ge HT2.out.one.own)
        have HT4 := Lib.hid (HT2.out.grow hO4 hg4 hf4 hr4)
        rw [← ha4] at HH2
        clear hO4 hg4 hf4 hr4 ha4 z1 z2
        go_wp2
        go_roundw
        case rel => exact ⟨k + 1, _, _, l4, lw, rfl, rfl, by go_num, by omega, HH2, HT4, hbw4⟩
        case measure => simp [intOf]; omega
      · have HST := Lib.hid hst
        have HH2 := Lib.hid (HH.out.out_ (c := (xk, xr)) (by rw [HKL.out]; omega) HGX.out hst)
        rw [← HTK.out] at HH2
        clear hst HH
        go_wp2_with fail
        refine (csign_any xk _ _ hx1 hx4).mono ?_
        rw [HST.out]
        rintro e w2 ⟨rfl, hb2⟩
        have hbw2 := below_trans hbw hb2
        have HT2 := Lib.hid ((HT.out.below hb2).swap)
        obtain ⟨z1, z2⟩ := HC.out _ hbw2
        clear d1 d2 hb2 HT
        go_wp2_with fail
        refine (more_own_any vw _ lw xr 1 w.heap.size _ HT2.out.one hbw2.size hlw (HRX.out.below hbw2) (fun hne j hj e => by
          have h1 := row_block HRX.out hne hj
          have h2 := own_ge HT2.out.one.own j e
          omega) HRW.out HGX.out (by omega) (by omega)).mono ?_
        rintro e w4 ⟨v4, l4, rfl, hO4, ha4, hg4, hf4, hr4⟩
        have hbw4 := below_grown hbw2 hg4 (own_ge HT2.out.one.own)
        have HT4 := Lib.hid ((HT2.out.grow hO4 hg4 hf4 hr4).swap)
        rw [← ha4] at HH2
        clear hO4 hg4 hf4 hr4 ha4 z1 z2
        go_wp2
        go_roundw
        case rel => exact ⟨k + 1, _, _, lc, l4, rfl, rfl, by go_num, by omega, HH2, HT4, hbw4⟩
        case measure => simp [intOf]; omega
    · obtain rfl : k = m.length := by omega
      rw [List.take_of_length_le (by rw [ac_len]; exact Nat.le_refl _)] at HH
      have hlen : (ac m).length ≤ 4096 := by rw [ac_len]; omega
      have hgood : ∀ c ∈ ac m, GoodR c.2 := fun c hc => by obtain ⟨d, hd, rfl⟩ := List.mem_map.1 hc; exact (HGC.out.good d hd).1
      have HD := Lib.hid (HH.out.done hlen hgood)
      have HGA := Lib.hid (HH.out.went.a hlen)
      have HGB := Lib.hid (HH.out.come.a hlen)
      have HE : Hid (diffS lw lc = (tell (netR [] (ac m)), 0)) := Lib.hid (by
        unfold diffS
        rw [chk_of HGA.out, chk_of HGB.out, HD.out]
        rfl)
      clear hlen hgood HH
      go_wp2_with fail
      refine (diffOf_any vw vc lw lc _ HT.out.two.view (fineV_of HGA.out) HT.out.one.view (fineV_of HGB.out)).mono ?_
      rw [HE.out]
      rintro e w5 ⟨v5, l5, rfl, hc5, ha5, hb5⟩
      have HC5 := Lib.hid hc5
      have HA5 := Lib.hid ha5
      have hbw5 := below_trans hbw hb5
      clear hc5 ha5 hb5
      go_wp2
      go_ret
      exact ⟨_, l5, rfl, HC5.out, HA5.out, hbw5⟩

end Go.Proofs.YtelmlagolmabpaaDoor
