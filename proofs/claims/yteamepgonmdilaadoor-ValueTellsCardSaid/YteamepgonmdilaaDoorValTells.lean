/-
  The plain law: the order of keys is the order of rows.
-/
import Derived.Test.YteamepgonmdilaaDoorValue13
namespace Go.Proofs.YteamepgonmdilaaDoor
open Go.RowKit
open Go.Lib (compareBytes)

theorem u8_lt {a b : UInt8} : a < b ↔ a.toNat < b.toNat := UInt8.lt_iff_toNat_lt
theorem u8_lt_irr (a : UInt8) : ¬ a < a := by rw [u8_lt]; omega
theorem cb_lt {x y : UInt8} (a b : List UInt8) (h : x < y) : compareBytes (x :: a) (y :: b) = -1 := by rw [compareBytes, if_pos h]
theorem cb_gt {x y : UInt8} (a b : List UInt8) (h : y < x) : compareBytes (x :: a) (y :: b) = 1 := by
  rw [compareBytes, if_neg, if_pos h]
  rw [u8_lt] at *; omega
theorem cb_same (x : UInt8) (a b : List UInt8) : compareBytes (x :: a) (x :: b) = compareBytes a b := by
  rw [compareBytes, if_neg (u8_lt_irr x), if_neg (u8_lt_irr x)]
theorem cb_prefix (p a b : List UInt8) : compareBytes (p ++ a) (p ++ b) = compareBytes a b := by
  induction p with
  | nil => rfl
  | cons x p ih => rw [List.cons_append, List.cons_append, cb_same, ih]
theorem cb_self (a : List UInt8) : compareBytes a a = 0 := by
  have := cb_prefix a [] []
  simpa [compareBytes] using this
theorem cb_zero {a b : List UInt8} (h : compareBytes a b = 0) : a = b := by
  induction a generalizing b with
  | nil => cases b with
    | nil => rfl
    | cons y b => simp [compareBytes] at h
  | cons x a ih =>
    cases b with
    | nil => simp [compareBytes] at h
    | cons y b =>
      rcases Nat.lt_trichotomy x.toNat y.toNat with hl | he | hg
      · rw [cb_lt _ _ (u8_lt.2 hl)] at h; simp at h
      · obtain rfl := UInt8.toNat_inj.1 he
        rw [cb_same] at h
        rw [ih h]
      · rw [cb_gt _ _ (u8_lt.2 hg)] at h; simp at h

theorem be8N_cons (x : UInt8) (a : List UInt8) : be8N (x :: a) = x.toNat * 256 ^ a.length + be8N a := by
  unfold be8N
  have h : ∀ (l : List UInt8) (m : Nat), l.foldl (fun m b => m * 256 + b.toNat) m = m * 256 ^ l.length + l.foldl (fun m b => m * 256 + b.toNat) 0 := by
    intro l
    induction l with
    | nil => intro m; simp
    | cons y l ih =>
      intro m
      rw [List.foldl_cons, List.foldl_cons, ih, ih (0 * 256 + y.toNat), List.length_cons, Nat.pow_succ, Nat.zero_mul, Nat.zero_add, Nat.add_mul]
      rw [← Nat.add_assoc, Nat.mul_assoc, Nat.mul_comm 256]
  rw [List.foldl_cons, h]
  simp
theorem be8N_lt (l : List UInt8) : be8N l < 256 ^ l.length := by
  induction l with
  | nil => decide
  | cons x l ih =>
    rw [be8N_cons, List.length_cons, Nat.pow_succ]
    have := x.toNat_lt
    have h2 : x.toNat * 256 ^ l.length ≤ 255 * 256 ^ l.length := Nat.mul_le_mul_right _ (by omega)
    omega
theorem cb_num (a b r t : List UInt8) (h : a.length = b.length) : compareBytes (a ++ r) (b ++ t) = if be8N a < be8N b then -1 else if be8N b < be8N a then 1 else compareBytes r t := by
  induction a generalizing b with
  | nil =>
    obtain rfl : b = [] := List.length_eq_zero_iff.1 (by simpa using h.symm)
    simp [be8N]
  | cons x a ih =>
    cases b with
    | nil => simp at h
    | cons y b =>
      have hl : a.length = b.length := by simpa using h
      have ha := be8N_lt a
      have hb := be8N_lt b
      rw [be8N_cons, be8N_cons, hl, List.cons_append, List.cons_append]
      rw [hl] at ha
      rcases Nat.lt_trichotomy x.toNat y.toNat with h1 | h1 | h1
      · rw [cb_lt _ _ (u8_lt.2 h1), if_pos]
        have : (x.toNat + 1) * 256 ^ b.length ≤ y.toNat * 256 ^ b.length := Nat.mul_le_mul_right _ h1
        rw [Nat.add_mul] at this
        omega
      · obtain rfl := UInt8.toNat_inj.1 h1
        rw [cb_same, ih b hl]
        by_cases hq : be8N a < be8N b
        · rw [if_pos hq, if_pos (by omega)]
        · by_cases hq2 : be8N b < be8N a
          · rw [if_neg hq, if_pos hq2, if_neg (by omega), if_pos (by omega)]
          · rw [if_neg hq, if_neg hq2, if_neg (by omega), if_neg (by omega)]
      · rw [cb_gt _ _ (u8_lt.2 h1)]
        have : (y.toNat + 1) * 256 ^ b.length ≤ x.toNat * 256 ^ b.length := Nat.mul_le_mul_right _ h1
        rw [Nat.add_mul] at this
        rw [if_neg (by omega), if_pos (by omega)]
theorem cb_esc (s t r q : List UInt8) : compareBytes (esc s ++ (0 :: 1 :: r)) (esc t ++ (0 :: 1 :: q)) = if s = t then compareBytes r q else compareBytes s t := by
  have pos : ∀ c : UInt8, c ≠ 0 → (0 : UInt8) < c := by
    intro c hc
    rw [u8_lt]
    have : c.toNat ≠ 0 := fun h => hc (UInt8.toNat_inj.1 h)
    show 0 < c.toNat
    omega
  induction s generalizing t with
  | nil =>
    cases t with
    | nil => rw [if_pos rfl, cb_prefix]; rw [cb_same, cb_same]
    | cons d t =>
      rw [if_neg (by simp), esc_cons]
      show compareBytes (0 :: 1 :: r) _ = -1
      by_cases hd : d = 0
      · subst hd
        rw [if_pos rfl]
        show compareBytes (0 :: 1 :: r) (0 :: 255 :: _) = -1
        rw [cb_same, cb_lt _ _ (by decide)]
      · rw [if_neg hd]
        exact cb_lt _ _ (pos d hd)
  | cons c s ih =>
    cases t with
    | nil =>
      rw [if_neg (by simp), esc_cons]
      show compareBytes _ (0 :: 1 :: q) = 1
      by_cases hd : c = 0
      · subst hd
        rw [if_pos rfl]
        show compareBytes (0 :: 255 :: _) (0 :: 1 :: q) = 1
        rw [cb_same, cb_gt _ _ (by decide)]
      · rw [if_neg hd]
        exact cb_gt _ _ (pos c hd)
    | cons d t =>
      by_cases hcd : c = d
      · subst hcd
        rw [esc_cons, esc_cons, List.append_assoc, List.append_assoc, cb_prefix, ih t, cb_same]
        by_cases hst : s = t
        · rw [if_pos hst, if_pos (by rw [hst])]
        · rw [if_neg hst, if_neg (by simpa using hst)]
      · rw [if_neg (by simp [hcd])]
        have hne : c.toNat ≠ d.toNat := fun h => hcd (UInt8.toNat_inj.1 h)
        rcases Nat.lt_or_ge c.toNat d.toNat with h1 | h1
        · have hd : d ≠ 0 := by
            rintro rfl
            have : (0 : UInt8).toNat = 0 := rfl
            omega
          rw [cb_lt _ _ (u8_lt.2 h1), esc_cons, esc_cons, if_neg hd]
          by_cases hc : c = 0
          · subst hc
            rw [if_pos rfl]
            exact cb_lt _ _ (u8_lt.2 h1)
          · rw [if_neg hc]
            exact cb_lt _ _ (u8_lt.2 h1)
        · have h2 : d.toNat < c.toNat := by omega
          have hc : c ≠ 0 := by
            rintro rfl
            have : (0 : UInt8).toNat = 0 := rfl
            omega
          rw [cb_gt _ _ (u8_lt.2 h2), esc_cons, esc_cons, if_neg hc]
          by_cases hd : d = 0
          · subst hd
            rw [if_pos rfl]
            exact cb_gt _ _ (u8_lt.2 h2)
          · rw [if_neg hd]
            exact cb_gt _ _ (u8_lt.2 h2)

theorem ordI_lt {a b : Int} (h : a < b) : ordI a b = -1 := by unfold ordI; rw [if_pos h]
theorem ordI_gt {a b : Int} (h : b < a) : ordI a b = 1 := by unfold ordI; rw [if_neg (by omega), if_pos h]
theorem ordI_self (a : Int) : ordI a a = 0 := by unfold ordI; rw [if_neg (by omega), if_neg (by omega)]
theorem cmpB_self (s : ByteArray) : cmpB s s = 0 := by rw [← compare_eq, cb_self]
theorem cmpV_self (x : Val) : cmpV x x = 0 := by
  unfold cmpV
  rw [ordI_self, ordI_self, cmpB_self]; rfl
theorem keyCell_hd (x : Val) : ∃ q, keyCell x = UInt8.ofNat x.k.toNat :: q := ⟨_, rfl⟩
theorem cmpV_n {x y : Val} (h : x.k = y.k) (hs : x.s = y.s) : cmpV x y = ordI x.n y.n := by
  unfold cmpV
  rw [h, hs, ordI_self, cmpB_self]
  unfold ordI
  split
  · rfl
  · split <;> rfl
theorem cmpV_s {x y : Val} (h : x.k = y.k) (hs : x.n = y.n) : cmpV x y = cmpB x.s y.s := by
  unfold cmpV firstNZ
  rw [h, hs, ordI_self, ordI_self]
  by_cases h3 : cmpB x.s y.s = 0
  · rw [h3]; rfl
  · simp [h3]
theorem cmpV_k {x y : Val} (h : ordI x.k y.k ≠ 0) : cmpV x y = ordI x.k y.k := by
  unfold cmpV firstNZ; simp [h]

theorem key_cells (x y : Val) (r t : List UInt8) (hx : checkV x = 0) (hy : checkV y = 0) (x1 : -9223372036854775808 ≤ x.n) (y1 : -9223372036854775808 ≤ y.n) (x2 : x.n ≤ 9223372036854775807) (y2 : y.n ≤ 9223372036854775807) :
    compareBytes (keyCell x ++ r) (keyCell y ++ t) = if cmpV x y ≠ 0 then cmpV x y else compareBytes r t := by
  have same : x = y → compareBytes (keyCell x ++ r) (keyCell y ++ t) = if cmpV x y ≠ 0 then cmpV x y else compareBytes r t := by
    rintro rfl
    rw [cb_prefix, cmpV_self, if_neg (by simp)]
  have hkx : x.k = 0 ∨ x.k = 1 ∨ x.k = 2 ∨ x.k = 3 := by
    rcases good_cells x hx with e | e | e | e | ⟨e, -⟩ <;> rw [e] <;> simp
  have hky : y.k = 0 ∨ y.k = 1 ∨ y.k = 2 ∨ y.k = 3 := by
    rcases good_cells y hy with e | e | e | e | ⟨e, -⟩ <;> rw [e] <;> simp
  by_cases hk : x.k = y.k
  · rcases good_cells x hx with e | e | e | e | ⟨e, hsx⟩ <;> rcases good_cells y hy with e' | e' | e' | e' | ⟨e', hsy⟩
    all_goals
      first
        | (exfalso; rw [e, e'] at hk; revert hk; simp only; decide)
        | (exact same (e.trans e'.symm))
        | skip
    · have h0 : cmpV x y = -1 := by rw [e, e']; rfl
      rw [h0, e, e']
      show compareBytes (1 :: 0 :: r) (1 :: 1 :: t) = _
      rw [cb_same, cb_lt _ _ (by decide)]
      rfl
    · have h0 : cmpV x y = 1 := by rw [e, e']; rfl
      rw [h0, e, e']
      show compareBytes (1 :: 1 :: r) (1 :: 0 :: t) = _
      rw [cb_same, cb_gt _ _ (by decide)]
      rfl
    · have hc : cmpV x y = ordI x.n y.n := cmpV_n hk (by rw [e, e'])
      rw [hc]
      have kx : keyCell x = 2 :: be8 (bias x.n) := by rw [e]; rfl
      have ky : keyCell y = 2 :: be8 (bias y.n) := by rw [e']; rfl
      have bx : bias x.n < 18446744073709551616 := by unfold bias; omega
      have by' : bias y.n < 18446744073709551616 := by unfold bias; omega
      rw [kx, ky, List.cons_append, List.cons_append, cb_same, cb_num _ _ _ _ (by rw [be8_len, be8_len]), be8_make _ bx, be8_make _ by']
      rcases Int.lt_trichotomy x.n y.n with h1 | h1 | h1
      · rw [ordI_lt h1, if_pos (by unfold bias; omega)]; rfl
      · rw [h1, ordI_self, if_neg (by omega), if_neg (by omega), if_neg (by simp)]
      · rw [ordI_gt h1, if_neg (by unfold bias; omega), if_pos (by unfold bias; omega)]; rfl
    · have hc : cmpV x y = cmpB x.s y.s := cmpV_s hk (by rw [e, e'])
      rw [hc]
      have kx : keyCell x = 3 :: (esc x.s.toList ++ [0, 1]) := by rw [e]; rfl
      have ky : keyCell y = 3 :: (esc y.s.toList ++ [0, 1]) := by rw [e']; rfl
      rw [kx, ky, List.cons_append, List.cons_append, cb_same, List.append_assoc, List.append_assoc]
      show compareBytes (esc x.s.toList ++ (0 :: 1 :: r)) (esc y.s.toList ++ (0 :: 1 :: t)) = _
      rw [cb_esc, ← compare_eq, ← ByteArray.toList_eq, ← ByteArray.toList_eq]
      by_cases hs : x.s.toList = y.s.toList
      · rw [if_pos hs, hs, cb_self, if_neg (by simp)]
      · rw [if_neg hs, if_pos (fun h => hs (cb_zero h))]
  · obtain ⟨q, hq⟩ := keyCell_hd x
    obtain ⟨p, hp⟩ := keyCell_hd y
    rw [hq, hp, List.cons_append, List.cons_append]
    have lx : (UInt8.ofNat x.k.toNat).toNat = x.k.toNat := by rw [UInt8.toNat_ofNat', Nat.mod_eq_of_lt (by omega)]
    have ly : (UInt8.ofNat y.k.toNat).toNat = y.k.toNat := by rw [UInt8.toNat_ofNat', Nat.mod_eq_of_lt (by omega)]
    rcases Int.lt_or_gt_of_ne hk with h1 | h1
    · have e := ordI_lt h1
      have hc : cmpV x y = -1 := by rw [cmpV_k (by rw [e]; decide), e]
      rw [hc, cb_lt _ _ (by rw [u8_lt, lx, ly]; omega)]
      rfl
    · have e := ordI_gt h1
      have hc : cmpV x y = 1 := by rw [cmpV_k (by rw [e]; decide), e]
      rw [hc, cb_gt _ _ (by rw [u8_lt, lx, ly]; omega)]
      rfl

/-- A row that has a key. -/
def Good (l : List Val) : Prop := ∀ x ∈ l, checkV x = 0 ∧ -9223372036854775808 ≤ x.n ∧ x.n ≤ 9223372036854775807
theorem key_order : ∀ (a b : List Val), Good a → Good b → compareBytes (keyRow a) (keyRow b) = rowsF a b
  | [], [], _, _ => rfl
  | [], y :: t, _, _ => by
    obtain ⟨q, hq⟩ := keyCell_hd y
    show compareBytes [] (keyRow (y :: t)) = -1
    rw [show keyRow (y :: t) = keyCell y ++ keyRow t from List.flatMap_cons, hq]
    rfl
  | x :: r, [], _, _ => by
    obtain ⟨q, hq⟩ := keyCell_hd x
    show compareBytes (keyRow (x :: r)) [] = 1
    rw [show keyRow (x :: r) = keyCell x ++ keyRow r from List.flatMap_cons, hq]
    rfl
  | x :: r, y :: t, ha, hb => by
    obtain ⟨c1, c2, c3⟩ := ha x (by simp)
    obtain ⟨d1, d2, d3⟩ := hb y (by simp)
    have ih := key_order r t (fun z hz => ha z (by simp [hz])) (fun z hz => hb z (by simp [hz]))
    rw [show keyRow (x :: r) = keyCell x ++ keyRow r from List.flatMap_cons, show keyRow (y :: t) = keyCell y ++ keyRow t from List.flatMap_cons, key_cells x y _ _ c1 d1 c2 d2 c3 d3, ih]
    rfl
theorem key_less {a b : List Val} (ha : Good a) (hb : Good b) : Op.bytesLess (keyRow a) (keyRow b) = decide (rowsF a b < 0) := by
  rw [← key_order a b ha hb, cmpB_eq]
  cases Op.bytesLess (keyRow a) (keyRow b)
  · cases keyRow a == keyRow b <;> rfl
  · rfl
theorem key_same {a b : List Val} (ha : Good a) (hb : Good b) : (keyRow a == keyRow b) = decide (rowsF a b = 0) := by
  rw [← key_order a b ha hb, Bool.eq_iff_iff, beq_iff_eq, decide_eq_true_iff]
  exact ⟨fun h => by rw [h, cb_self], cb_zero⟩
theorem key_tells {a b : List Val} (ha : Good a) (hb : Good b) (la : a.length ≤ 8) (lb : b.length ≤ 8) : (keyRow a == keyRow b) = sameR a b := by
  rw [Bool.eq_iff_iff, beq_iff_eq, sameR_iff]
  refine ⟨fun h => ?_, fun h => by rw [h]⟩
  have h1 := dec_make a 8 la ha
  have h2 := dec_make b 8 lb hb
  rw [h, h2] at h1
  exact (Option.some.inj h1).symm

end Go.Proofs.YteamepgonmdilaaDoor
