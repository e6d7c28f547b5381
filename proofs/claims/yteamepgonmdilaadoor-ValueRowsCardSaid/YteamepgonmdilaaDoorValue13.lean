/-
  The reference's front and Back: the plain law (what is read is what decG reads).
-/
import Derived.Test.YteamepgonmdilaaDoorValue11b
namespace Go.Proofs.YteamepgonmdilaaDoor
open Go.RowKit

/-- The text that front reads: the texts' bytes and how many bytes it takes; behind a 0 any byte but 1 is taken for the mark. -/
def txtG : List UInt8 → Option (List UInt8 × Nat)
  | [] => none
  | [_] => none
  | c :: d :: r =>
    if c ≠ 0 then (txtG (d :: r)).map fun p => (c :: p.1, p.2 + 1)
    else if d = 1 then some ([], 2)
    else (txtG r).map fun p => (0 :: p.1, p.2 + 2)
theorem tg_plain {c d : UInt8} (r : List UInt8) (hc : c ≠ 0) : txtG (c :: d :: r) = (txtG (d :: r)).map fun p => (c :: p.1, p.2 + 1) := by
  rw [txtG.eq_def]; simp [hc]
theorem tg_stop (r : List UInt8) : txtG (0 :: 1 :: r) = some ([], 2) := by rw [txtG.eq_def]; rfl
theorem tg_zero {d : UInt8} (r : List UInt8) (hd : d ≠ 1) : txtG (0 :: d :: r) = (txtG r).map fun p => (0 :: p.1, p.2 + 2) := by
  rw [txtG.eq_def]; simp [hd]
theorem tg_nil : txtG [] = none := by rw [txtG.eq_def]
theorem tg_one (c : UInt8) : txtG [c] = none := by rw [txtG.eq_def]
theorem tg_make (b : List UInt8) : ∀ (r : List UInt8), txtG (esc b ++ (0 :: 1 :: r)) = some (b, (esc b).length + 2) := by
  induction b with
  | nil => intro r; exact tg_stop r
  | cons c b ih =>
    intro r
    rw [esc_cons]
    by_cases hc : c = 0
    · subst hc
      rw [if_pos rfl, List.append_assoc]
      show txtG (0 :: 255 :: (esc b ++ (0 :: 1 :: r))) = _
      rw [tg_zero _ (by decide), ih r]
      simp
    · rw [if_neg hc, List.append_assoc]
      show txtG (c :: (esc b ++ (0 :: 1 :: r))) = _
      obtain ⟨d, q, hq⟩ : ∃ d q, esc b ++ (0 :: 1 :: r) = d :: q := by
        cases hh : esc b ++ (0 :: 1 :: r) with
        | nil => simp at hh
        | cons d q => exact ⟨d, q, rfl⟩
      rw [hq, tg_plain _ hc, ← hq, ih r]
      simp

/-- The result of the whole, of what has been read (from 1 on) and what is still to come. -/
def TgRel (l : List UInt8) (i : Nat) (b : List UInt8) : Prop := txtG (l.drop 1) = (txtG (l.drop i)).map fun p => (b ++ p.1, i - 1 + p.2)
theorem tgr_start (l : List UInt8) : TgRel l 1 [] := by
  unfold TgRel
  simp
theorem tgr_plain {l : List UInt8} {i : Nat} {b : List UInt8} {c : UInt8} (h : TgRel l i b) (hi : 1 ≤ i) (hd : l[i]? = some c) (hc : c ≠ 0) (h2 : i + 1 < l.length) : TgRel l (i + 1) (b ++ [c]) := by
  unfold TgRel at *
  obtain ⟨hlt, rfl⟩ := List.getElem?_eq_some_iff.1 hd
  rw [h, List.drop_eq_getElem_cons hlt, List.drop_eq_getElem_cons h2, tg_plain _ hc, Option.map_map]
  congr 1
  funext p
  simp
  omega
theorem tgr_zero {l : List UInt8} {i : Nat} {b : List UInt8} {d : UInt8} (h : TgRel l i b) (hi : 1 ≤ i) (hd : l[i]? = some 0) (hd2 : l[i + 1]? = some d) (h1 : d ≠ 1) : TgRel l (i + 2) (b ++ [0]) := by
  unfold TgRel at *
  obtain ⟨hlt, e1⟩ := List.getElem?_eq_some_iff.1 hd
  obtain ⟨hlt2, e2⟩ := List.getElem?_eq_some_iff.1 hd2
  rw [h, List.drop_eq_getElem_cons hlt, List.drop_eq_getElem_cons hlt2, e1, e2, tg_zero _ h1, Option.map_map]
  congr 1
  funext p
  simp
  omega
theorem tgr_end {l : List UInt8} {i : Nat} {b : List UInt8} (h : TgRel l i b) (hi : l.length ≤ i + 1) : txtG (l.drop 1) = none := by
  rw [h]
  have : txtG (l.drop i) = none := by
    rcases Nat.lt_or_ge i l.length with hlt | hge
    · rw [List.drop_eq_getElem_cons hlt, List.drop_eq_nil_of_le hi, tg_one]
    · rw [List.drop_eq_nil_of_le hge, tg_nil]
  rw [this]; rfl
theorem tgr_stop {l : List UInt8} {i : Nat} {b : List UInt8} (h : TgRel l i b) (hi : 1 ≤ i) (hd : l[i]? = some 0) (hd2 : l[i + 1]? = some 1) : txtG (l.drop 1) = some (b, i + 1) := by
  obtain ⟨hlt, e1⟩ := List.getElem?_eq_some_iff.1 hd
  obtain ⟨hlt2, e2⟩ := List.getElem?_eq_some_iff.1 hd2
  rw [h, List.drop_eq_getElem_cons hlt, List.drop_eq_getElem_cons hlt2, e1, e2, tg_stop]
  simp
  omega

/-- What front reads: a cell, and how many bytes; 0: none. -/
def frontF (l : List UInt8) : Val × Nat :=
  match l with
  | [] => (⟨0, 0, ⟨#[]⟩⟩, 0)
  | c :: r =>
    if c = 0 then (⟨0, 0, ⟨#[]⟩⟩, 1)
    else if c = 1 then match r with
      | [] => (⟨1, 0, ⟨#[]⟩⟩, 0)
      | b :: _ => (⟨1, (b.toNat : Int), ⟨#[]⟩⟩, 2)
    else if c = 2 then if 8 ≤ r.length then (⟨2, (be8N (r.take 8) : Int) - 9223372036854775808, ⟨#[]⟩⟩, 9) else (⟨2, 0, ⟨#[]⟩⟩, 0)
    else if c = 3 then match txtG r with
      | some p => (⟨3, 0, str p.1⟩, 1 + p.2)
      | none => (⟨3, 0, ⟨#[]⟩⟩, 0)
    else (⟨(c.toNat : Int), 0, ⟨#[]⟩⟩, 0)

theorem front2 (r : List UInt8) : frontF (2 :: r) = if 8 ≤ r.length then (⟨2, (be8N (r.take 8) : Int) - 9223372036854775808, ⟨#[]⟩⟩, 9) else (⟨2, 0, ⟨#[]⟩⟩, 0) := rfl
theorem front3_yes {r b : List UInt8} {n : Nat} (h : txtG r = some (b, n)) : frontF (3 :: r) = (⟨3, 0, str b⟩, 1 + n) := by
  show (match txtG r with | some p => ((⟨3, 0, str p.1⟩ : Val), 1 + p.2) | none => (⟨3, 0, ⟨#[]⟩⟩, 0)) = _
  rw [h]
theorem front3_no {r : List UInt8} (h : txtG r = none) : frontF (3 :: r) = (⟨3, 0, ⟨#[]⟩⟩, 0) := by
  show (match txtG r with | some p => ((⟨3, 0, str p.1⟩ : Val), 1 + p.2) | none => (⟨3, 0, ⟨#[]⟩⟩, 0)) = _
  rw [h]
theorem cell2 (r : List UInt8) : cellF (2 :: r) = if 8 ≤ r.length then some (⟨2, (be8N (r.take 8) : Int) - 9223372036854775808, ⟨#[]⟩⟩, 9) else none := rfl
theorem front_make (v : Val) (r : List UInt8) (h : checkV v = 0) (h1 : -9223372036854775808 ≤ v.n) (h2 : v.n ≤ 9223372036854775807) : frontF (keyCell v ++ r) = (v, (keyCell v).length) := by
  rcases good_cells v h with e | e | e | e | ⟨e, hs⟩
  · rw [e]; rfl
  · rw [e]; rfl
  · rw [e]; rfl
  · have hc := cell_make v r h h1 h2
    rw [e] at hc ⊢
    have hk : keyCell ⟨2, v.n, ⟨#[]⟩⟩ = 2 :: be8 (bias v.n) := rfl
    rw [hk] at hc ⊢
    rw [List.cons_append] at hc ⊢
    rw [cell2] at hc
    rw [front2]
    split at hc
    · rename_i h8
      rw [if_pos h8]
      injection hc
    · cases hc
  · rw [e]
    have hk : keyCell ⟨3, 0, v.s⟩ = 3 :: (esc v.s.toList ++ [0, 1]) := rfl
    rw [hk, List.cons_append, List.append_assoc]
    show frontF (3 :: (esc v.s.toList ++ (0 :: 1 :: r))) = _
    rw [front3_yes (tg_make _ _)]
    simp only [List.length_cons, List.length_append, List.length_nil]
    rw [str_of]
    simp only [Prod.mk.injEq, true_and]
    omega

/-- The loop of the reference's Back: at most m cells more. -/
def loopG : Nat → List UInt8 → Option (List Val)
  | _, [] => some []
  | 0, _ :: _ => some []
  | m + 1, c :: r => if (frontF (c :: r)).2 = 0 then none else (loopG m ((c :: r).drop (frontF (c :: r)).2)).map ((frontF (c :: r)).1 :: ·)
theorem loopG_make : ∀ (l : List Val) (m : Nat), l.length ≤ m → (∀ x ∈ l, checkV x = 0 ∧ -9223372036854775808 ≤ x.n ∧ x.n ≤ 9223372036854775807) → loopG m (keyRow l) = some l
  | [], m, _, _ => by cases m <;> rfl
  | x :: l, 0, h, _ => by simp at h
  | x :: l, m + 1, h, hh => by
    obtain ⟨h0, h1, h2⟩ := hh x (by simp)
    have ih := loopG_make l m (by simp at h; omega) (fun y hy => hh y (by simp [hy]))
    have hc := front_make x (keyRow l) h0 h1 h2
    have e : keyRow (x :: l) = keyCell x ++ keyRow l := List.flatMap_cons
    rw [e]
    obtain ⟨c, q, hq⟩ : ∃ c q, keyCell x = c :: q := ⟨_, _, rfl⟩
    rw [hq] at hc ⊢
    show (if (frontF (c :: q ++ keyRow l)).2 = 0 then none else (loopG m ((c :: q ++ keyRow l).drop (frontF (c :: q ++ keyRow l)).2)).map ((frontF (c :: q ++ keyRow l)).1 :: ·)) = _
    rw [hc]
    simp only [List.drop_left]
    rw [if_neg (by simp), ih]
    rfl
/-- The numbers of the cells that front reads are of 64 bits, its texts no longer than the key. -/
theorem txtG_len : ∀ (k : Nat) (l b : List UInt8) (n : Nat), l.length ≤ k → txtG l = some (b, n) → b.length + 2 ≤ l.length ∧ n ≤ l.length ∧ 2 ≤ n := by
  intro k
  induction k with
  | zero =>
    intro l b n hl h
    obtain rfl : l = [] := List.length_eq_zero_iff.1 (by omega)
    rw [tg_nil] at h; cases h
  | succ k ih =>
    intro l b n hl h
    match l, hl, h with
    | [], _, h => rw [tg_nil] at h; cases h
    | [c], _, h => rw [tg_one] at h; cases h
    | c :: d :: r, hl, h =>
      by_cases hc : c = 0
      · subst hc
        by_cases hd : d = 1
        · subst hd
          rw [tg_stop] at h
          simp only [Option.some.injEq, Prod.mk.injEq] at h
          obtain ⟨rfl, rfl⟩ := h
          simp
        · rw [tg_zero _ hd, Option.map_eq_some_iff] at h
          obtain ⟨⟨b', n'⟩, hb, he⟩ := h
          simp only [Prod.mk.injEq] at he
          obtain ⟨rfl, rfl⟩ := he
          have := ih r b' n' (by simp at hl; omega) hb
          simp; omega
      · rw [tg_plain _ hc, Option.map_eq_some_iff] at h
        obtain ⟨⟨b', n'⟩, hb, he⟩ := h
        simp only [Prod.mk.injEq] at he
        obtain ⟨rfl, rfl⟩ := he
        have := ih (d :: r) b' n' (by simp at hl ⊢; omega) hb
        simp at this ⊢; omega
theorem front_fine (l : List UInt8) : (-9223372036854775808 ≤ (frontF l).1.n ∧ (frontF l).1.n ≤ 9223372036854775807) ∧ (frontF l).1.s.size ≤ l.length ∧ (frontF l).2 ≤ l.length := by
  cases l with
  | nil => simp [frontF, ByteArray.size]
  | cons c r =>
    rw [frontF.eq_def]
    simp only
    split
    · simp [ByteArray.size]
    · split
      · cases r with
        | nil => simp [ByteArray.size]
        | cons b r => have := b.toNat_lt; simp [ByteArray.size]; omega
      · split
        · split
          · rename_i h8
            have h1 := (be8_back (r.take 8) (by rw [List.length_take]; omega)).2
            simp [ByteArray.size]; omega
          · simp [ByteArray.size]
        · split
          · cases ht : txtG r with
            | none => simp [ByteArray.size]
            | some p =>
              obtain ⟨b, n⟩ := p
              have := txtG_len r.length r b n (Nat.le_refl _) ht
              simp only
              rw [str_size]
              simp; omega
          · have := c.toNat_lt; simp [ByteArray.size]
theorem loopG_fine : ∀ (m : Nat) (k : List UInt8) (l : List Val), loopG m k = some l → ∀ x ∈ l, (-9223372036854775808 ≤ x.n ∧ x.n ≤ 9223372036854775807) ∧ x.s.size ≤ k.length
  | m, [], l, h => by
    have : l = [] := by cases m <;> simpa [loopG] using h.symm
    subst this; simp
  | 0, c :: r, l, h => by
    have : l = [] := by simpa [loopG] using h.symm
    subst this; simp
  | m + 1, c :: r, l, h => by
    have h' : (if (frontF (c :: r)).2 = 0 then none else (loopG m ((c :: r).drop (frontF (c :: r)).2)).map ((frontF (c :: r)).1 :: ·)) = some l := h
    split at h'
    · cases h'
    · rw [Option.map_eq_some_iff] at h'
      obtain ⟨l', hl', rfl⟩ := h'
      intro x hx
      obtain ⟨f1, f2, f3⟩ := front_fine (c :: r)
      rcases List.mem_cons.1 hx with rfl | hx
      · exact ⟨f1, f2⟩
      · have := loopG_fine m _ l' hl' x hx
        rw [List.length_drop] at this
        exact ⟨this.1, by omega⟩

/-- The row that was read so far, and the rest. -/
def LoopRel (l y : List UInt8) (r : List Val) : Prop := loopG 9 l = (loopG (9 - r.length) y).map (r ++ ·)
theorem lr_start (l : List UInt8) : LoopRel l l [] := by
  unfold LoopRel
  simp
theorem lr_done {l y : List UInt8} {r : List Val} (h : LoopRel l y r) (hy : y = []) : loopG 9 l = some r := by
  subst hy
  rw [h]
  have : loopG (9 - r.length) [] = some [] := by cases 9 - r.length <;> rfl
  rw [this]; simp
theorem lr_full {l y : List UInt8} {r : List Val} (h : LoopRel l y r) (hr : 9 ≤ r.length) : loopG 9 l = some r := by
  rw [h, show 9 - r.length = 0 from by omega]
  cases y with
  | nil => simp [loopG]
  | cons c q => simp [loopG]
theorem lr_bad {l y : List UInt8} {r : List Val} (h : LoopRel l y r) (hy : y ≠ []) (hr : r.length < 9) (hc : (frontF y).2 = 0) : loopG 9 l = none := by
  rw [h, show 9 - r.length = (8 - r.length) + 1 from by omega]
  cases y with
  | nil => exact absurd rfl hy
  | cons c q => rw [loopG, if_pos hc]; rfl
theorem lr_cell {l y : List UInt8} {r : List Val} (h : LoopRel l y r) (hy : y ≠ []) (hr : r.length < 9) (hc : (frontF y).2 ≠ 0) : LoopRel l (y.drop (frontF y).2) (r ++ [(frontF y).1]) := by
  unfold LoopRel at *
  rw [h, show 9 - r.length = (8 - r.length) + 1 from by omega]
  cases y with
  | nil => exact absurd rfl hy
  | cons c q =>
    rw [loopG, if_neg hc, Option.map_map, show 9 - (r ++ [(frontF (c :: q)).1]).length = 8 - r.length from by simp]
    congr 1
    funext p
    simp

theorem keyErr_good {l : List Val} (h : l.length ≤ 8) (hh : ∀ x ∈ l, checkV x = 0) : keyErr l = 0 := by
  unfold keyErr
  rw [if_neg (by omega)]
  exact firstNZ_none (by intro x hx; obtain ⟨y, hy, rfl⟩ := List.mem_map.1 hx; exact hh y hy)
/-- The reference's Back in the words of the program's. -/
theorem back_is_none {k : List UInt8} (h : loopG 9 k = none) : decG 8 k = none := by
  cases hd : decG 8 k with
  | none => rfl
  | some l =>
    obtain ⟨d1, d2, d3⟩ := dec_back 8 k l hd
    rw [← d3, loopG_make l 9 (by omega) d2] at h
    cases h
theorem back_is_not {k : List UInt8} {r : List Val} (h : loopG 9 k = some r) (hb : keyErr r ≠ 0 ∨ keyRow r ≠ k) : decG 8 k = none := by
  cases hd : decG 8 k with
  | none => rfl
  | some l =>
    obtain ⟨d1, d2, d3⟩ := dec_back 8 k l hd
    have := loopG_make l 9 (by omega) d2
    rw [d3, h] at this
    injection this with this
    subst this
    rcases hb with hb | hb
    · exact absurd (keyErr_good d1 (fun x hx => (d2 x hx).1)) hb
    · exact absurd d3 hb
theorem back_is {k : List UInt8} {r : List Val} (h : loopG 9 k = some r) (h0 : keyErr r = 0) (h1 : keyRow r = k) : decG 8 k = some r := by
  obtain ⟨g1, g2⟩ := keyErr_zero h0
  have hf := loopG_fine 9 k r h
  rw [← h1]
  exact dec_make r 8 g1 (fun x hx => ⟨g2 x hx, (hf x hx).1⟩)

end Go.Proofs.YteamepgonmdilaaDoor
