/-
  A key read back: the plain law.
-/
import Derived.Test.YteamepgonmdilaaDoorValue10
namespace Go.Proofs.YteamepgonmdilaaDoor
open Go.RowKit

theorem txt_make (b : List UInt8) : ∀ (m : Nat) (r : List UInt8), b.length < m → txtF (esc b ++ (0 :: 1 :: r)) m = some (b, (esc b).length + 2) := by
  induction b with
  | nil =>
    intro m r h
    obtain ⟨m, rfl⟩ : ∃ q, m = q + 1 := ⟨m - 1, by simp at h; omega⟩
    exact txt_stop r m
  | cons c b ih =>
    intro m r h
    obtain ⟨m, rfl⟩ : ∃ q, m = q + 1 := ⟨m - 1, by simp at h; omega⟩
    have hm : b.length < m := by simp at h; omega
    rw [esc_cons]
    by_cases hc : c = 0
    · subst hc
      rw [if_pos rfl, List.append_assoc]
      show txtF (0 :: 255 :: (esc b ++ (0 :: 1 :: r))) (m + 1) = _
      rw [txt_zero, ih m r hm]
      simp
    · rw [if_neg hc, List.append_assoc]
      show txtF (c :: (esc b ++ (0 :: 1 :: r))) (m + 1) = _
      rw [txt_plain _ _ hc, ih m r hm]
      simp
theorem txt_back : ∀ (k : Nat) (l : List UInt8) (m : Nat) (b : List UInt8) (n : Nat), l.length ≤ k → txtF l m = some (b, n) → l = esc b ++ (0 :: 1 :: l.drop n) ∧ n = (esc b).length + 2 ∧ b.length < m := by
  intro k
  induction k with
  | zero =>
    intro l m b n hl h
    obtain rfl : l = [] := List.length_eq_zero_iff.1 (by omega)
    rw [txt_nil] at h; simp at h
  | succ k ih =>
    intro l m b n hl h
    cases l with
    | nil => rw [txt_nil] at h; simp at h
    | cons c r =>
      cases m with
      | zero => rw [txt_full] at h; simp at h
      | succ m =>
        by_cases hc : c = 0
        · subst hc
          cases r with
          | nil => rw [txt_end] at h; simp at h
          | cons d r =>
            by_cases h1 : d = 1
            · subst h1
              rw [txt_stop] at h
              simp only [Option.some.injEq, Prod.mk.injEq] at h
              obtain ⟨rfl, rfl⟩ := h
              exact ⟨rfl, rfl, by simp⟩
            · by_cases h2 : d = 255
              · subst h2
                rw [txt_zero] at h
                rw [Option.map_eq_some_iff] at h
                obtain ⟨⟨b', n'⟩, hb, he⟩ := h
                simp only [Prod.mk.injEq] at he
                obtain ⟨rfl, rfl⟩ := he
                obtain ⟨e1, e2, e3⟩ := ih r m b' n' (by simp at hl; omega) hb
                refine ⟨?_, ?_, by simp; omega⟩
                · rw [esc_cons, if_pos rfl]
                  show 0 :: 255 :: r = 0 :: 255 :: (esc b' ++ (0 :: 1 :: r.drop n'))
                  rw [← e1]
                · rw [esc_cons, if_pos rfl]; simp; omega
              · rw [txt_bad _ _ h1 h2] at h; simp at h
        · rw [txt_plain _ _ hc] at h
          rw [Option.map_eq_some_iff] at h
          obtain ⟨⟨b', n'⟩, hb, he⟩ := h
          simp only [Prod.mk.injEq] at he
          obtain ⟨rfl, rfl⟩ := he
          obtain ⟨e1, e2, e3⟩ := ih r m b' n' (by simp at hl; omega) hb
          refine ⟨?_, ?_, by simp; omega⟩
          · rw [esc_cons, if_neg hc]
            show c :: r = c :: (esc b' ++ (0 :: 1 :: r.drop n'))
            rw [← e1]
          · rw [esc_cons, if_neg hc]; simp; omega

def be8N (l : List UInt8) : Nat := l.foldl (fun m b => m * 256 + b.toNat) 0
theorem be8N_snoc (l : List UInt8) (b : UInt8) : be8N (l ++ [b]) = be8N l * 256 + b.toNat := by simp [be8N]
theorem be8_make (m : Nat) (h : m < 18446744073709551616) : be8N (be8 m) = m := by
  have e : be8 m = [byteAt m 0, byteAt m 1, byteAt m 2, byteAt m 3, byteAt m 4, byteAt m 5, byteAt m 6, byteAt m 7] := rfl
  rw [e]
  simp only [be8N, List.foldl, byteAt, UInt8.toNat_ofNat']
  simp only [Nat.reducePow, Nat.reduceMul, Nat.reduceSub]
  omega
theorem be8_back (l : List UInt8) (h : l.length = 8) : be8 (be8N l) = l ∧ be8N l < 18446744073709551616 := by
  match l, h with
  | [b0, b1, b2, b3, b4, b5, b6, b7], _ =>
    have h0 := b0.toNat_lt
    have h1 := b1.toNat_lt
    have h2 := b2.toNat_lt
    have h3 := b3.toNat_lt
    have h4 := b4.toNat_lt
    have h5 := b5.toNat_lt
    have h6 := b6.toNat_lt
    have h7 := b7.toNat_lt
    simp only [be8N, List.foldl]
    have hb : ∀ (m k : Nat) (b : UInt8), m / 2 ^ (56 - 8 * k) % 256 = b.toNat → byteAt m k = b := fun m k b hh => by
      apply UInt8.toNat_inj.1
      rw [byteAt, UInt8.toNat_ofNat']
      exact hh
    refine ⟨?_, by omega⟩
    show [byteAt _ 0, byteAt _ 1, byteAt _ 2, byteAt _ 3, byteAt _ 4, byteAt _ 5, byteAt _ 6, byteAt _ 7] = _
    rw [hb _ 0 b0, hb _ 1 b1, hb _ 2 b2, hb _ 3 b3, hb _ 4 b4, hb _ 5 b5, hb _ 6 b6, hb _ 7 b7]
    all_goals
      simp only [Nat.reducePow, Nat.reduceMul, Nat.reduceSub]
      omega

def cellF : List UInt8 → Option (Val × Nat)
  | [] => none
  | c :: r =>
    if c = 0 then some (⟨0, 0, ⟨#[]⟩⟩, 1)
    else if c = 1 then match r with
      | [] => none
      | b :: _ => if b.toNat ≤ 1 then some (⟨1, (b.toNat : Int), ⟨#[]⟩⟩, 2) else none
    else if c = 2 then if 8 ≤ r.length then some (⟨2, (be8N (r.take 8) : Int) - 9223372036854775808, ⟨#[]⟩⟩, 9) else none
    else if c = 3 then (txtF r 65).map fun p => (⟨3, 0, str p.1⟩, 1 + p.2)
    else none
def decG : Nat → List UInt8 → Option (List Val)
  | _, [] => some []
  | 0, _ :: _ => none
  | m + 1, c :: r => match cellF (c :: r) with
    | none => none
    | some p => (decG m ((c :: r).drop p.2)).map (p.1 :: ·)

theorem empty_bytes {s : ByteArray} (h : s.toList.isEmpty = true) : s = ⟨#[]⟩ := by
  rw [← str_of s, List.isEmpty_iff.1 h]; rfl
theorem good_cells (v : Val) (h : checkV v = 0) :
    v = ⟨0, 0, ⟨#[]⟩⟩ ∨ v = ⟨1, 0, ⟨#[]⟩⟩ ∨ v = ⟨1, 1, ⟨#[]⟩⟩ ∨ v = ⟨2, v.n, ⟨#[]⟩⟩ ∨ (v = ⟨3, 0, v.s⟩ ∧ v.s.size ≤ 64) := by
  rcases val_cases v with ⟨h1, -, hc⟩ | ⟨h1, -, -, hc⟩ | ⟨h1, h2, h3, hc⟩ | ⟨h1, -, -, hc⟩ | ⟨h1, -, -, hc⟩ | ⟨h1, h2, h3, hc⟩ | ⟨h1, -, -, hc⟩ | ⟨h1, h2, h3, hc⟩ | ⟨h1, -, hc⟩ | ⟨h1, h3, hc⟩ | ⟨h1, -, hc⟩ | ⟨h1, -, -, hc⟩ | ⟨h1, h4, h2, hc⟩ | ⟨h1, hc⟩ | ⟨h1, hc⟩
  all_goals
    first | (rw [h] at hc; exact absurd hc (by decide)) | skip
  all_goals obtain ⟨k, n, s⟩ := v
  all_goals simp only at h1
  all_goals try simp only at h2
  all_goals try simp only at h3
  all_goals try simp only at h4
  · rw [h1, h2, empty_bytes h3]; exact .inl rfl
  · rw [h1, h2, empty_bytes h3]; exact .inr (.inl rfl)
  · rw [h1, h2, empty_bytes h3]; exact .inr (.inr (.inl rfl))
  · rw [h1, empty_bytes h3]; exact .inr (.inr (.inr (.inl rfl)))
  · rw [h1, h4]; exact .inr (.inr (.inr (.inr ⟨rfl, h2⟩)))

theorem cell_make (v : Val) (r : List UInt8) (h : checkV v = 0) (h1 : -9223372036854775808 ≤ v.n) (h2 : v.n ≤ 9223372036854775807) : cellF (keyCell v ++ r) = some (v, (keyCell v).length) := by
  rcases good_cells v h with e | e | e | e | ⟨e, hs⟩
  · rw [e]; rfl
  · rw [e]; rfl
  · rw [e]; rfl
  · rw [e]
    have hk : keyCell ⟨2, v.n, ⟨#[]⟩⟩ = 2 :: be8 (bias v.n) := rfl
    rw [hk]
    have hb : bias v.n < 18446744073709551616 := by unfold bias; omega
    have hl : ((be8 (bias v.n)) ++ r).take 8 = be8 (bias v.n) := by rw [List.take_append_of_le_length (by rw [be8_len]; omega), List.take_of_length_le (by rw [be8_len]; omega)]
    show (if 8 ≤ (be8 (bias v.n) ++ r).length then some ((⟨2, (be8N ((be8 (bias v.n) ++ r).take 8) : Int) - 9223372036854775808, ⟨#[]⟩⟩ : Val), 9) else none) = _
    rw [if_pos (by rw [List.length_append, be8_len]; omega), hl, be8_make _ hb, List.length_cons, be8_len]
    have : ((bias v.n : Nat) : Int) - 9223372036854775808 = v.n := by unfold bias; omega
    rw [this]
  · rw [e]
    have hk : keyCell ⟨3, 0, v.s⟩ = 3 :: (esc v.s.toList ++ [0, 1]) := rfl
    rw [hk]
    show (txtF ((esc v.s.toList ++ [0, 1]) ++ r) 65).map (fun p => ((⟨3, 0, str p.1⟩ : Val), 1 + p.2)) = _
    rw [List.append_assoc]
    show (txtF (esc v.s.toList ++ (0 :: 1 :: r)) 65).map (fun p => ((⟨3, 0, str p.1⟩ : Val), 1 + p.2)) = _
    rw [txt_make _ _ _ (by rw [toList_len]; omega)]
    simp [str_of, Nat.add_comm]

theorem chk0 : checkV ⟨0, 0, ⟨#[]⟩⟩ = 0 := by simp [checkV]
theorem chk1 (n : Int) (h : n = 0 ∨ n = 1) : checkV ⟨1, n, ⟨#[]⟩⟩ = 0 := by rcases h with rfl | rfl <;> simp [checkV]
theorem chk2 (n : Int) : checkV ⟨2, n, ⟨#[]⟩⟩ = 0 := by simp [checkV]
theorem cell_back (l : List UInt8) (v : Val) (n : Nat) (h : cellF l = some (v, n)) :
    checkV v = 0 ∧ (-9223372036854775808 ≤ v.n ∧ v.n ≤ 9223372036854775807) ∧ l = keyCell v ++ l.drop n ∧ n = (keyCell v).length := by
  cases l with
  | nil => simp [cellF] at h
  | cons c r =>
    rw [cellF.eq_def] at h
    simp only at h
    by_cases h0 : c = 0
    · subst h0
      rw [if_pos rfl] at h
      simp only [Option.some.injEq, Prod.mk.injEq] at h
      obtain ⟨rfl, rfl⟩ := h
      exact ⟨chk0, by simp, rfl, rfl⟩
    · rw [if_neg h0] at h
      by_cases h1 : c = 1
      · subst h1
        rw [if_pos rfl] at h
        cases r with
        | nil => simp at h
        | cons b r =>
          simp only at h
          by_cases hb : b.toNat ≤ 1
          · rw [if_pos hb] at h
            simp only [Option.some.injEq, Prod.mk.injEq] at h
            obtain ⟨rfl, rfl⟩ := h
            have hb2 : b = 0 ∨ b = 1 := by
              rcases Nat.lt_or_ge b.toNat 1 with hq | hq
              · exact .inl (UInt8.toNat_inj.1 (by show b.toNat = 0; omega))
              · exact .inr (UInt8.toNat_inj.1 (by show b.toNat = 1; omega))
            rcases hb2 with rfl | rfl
            · exact ⟨chk1 _ (.inl rfl), by simp, rfl, rfl⟩
            · exact ⟨chk1 _ (.inr rfl), by simp, rfl, rfl⟩
          · rw [if_neg hb] at h; simp at h
      · rw [if_neg h1] at h
        by_cases h2 : c = 2
        · subst h2
          rw [if_pos rfl] at h
          by_cases h8 : 8 ≤ r.length
          · rw [if_pos h8] at h
            simp only [Option.some.injEq, Prod.mk.injEq] at h
            obtain ⟨rfl, rfl⟩ := h
            obtain ⟨b1, b2⟩ := be8_back (r.take 8) (by rw [List.length_take]; omega)
            have hbi : bias ((be8N (r.take 8) : Int) - 9223372036854775808) = be8N (r.take 8) := by unfold bias; omega
            have hk : keyCell ⟨2, (be8N (r.take 8) : Int) - 9223372036854775808, ⟨#[]⟩⟩ = 2 :: r.take 8 := by
              show 2 :: be8 (bias ((be8N (r.take 8) : Int) - 9223372036854775808)) = _
              rw [hbi, b1]
            refine ⟨chk2 _, ⟨by simp only; omega, by simp only; omega⟩, ?_, ?_⟩
            · rw [hk]
              show 2 :: r = 2 :: (r.take 8 ++ r.drop 8)
              rw [List.take_append_drop]
            · rw [hk, List.length_cons, List.length_take]; omega
          · rw [if_neg h8] at h; simp at h
        · rw [if_neg h2] at h
          by_cases h3 : c = 3
          · subst h3
            rw [if_pos rfl, Option.map_eq_some_iff] at h
            obtain ⟨⟨b, m⟩, hb, he⟩ := h
            simp only [Prod.mk.injEq] at he
            obtain ⟨rfl, rfl⟩ := he
            obtain ⟨e1, e2, e3⟩ := txt_back r.length r 65 b m (Nat.le_refl _) hb
            have hk : keyCell ⟨3, 0, str b⟩ = 3 :: (esc b ++ [0, 1]) := by
              show 3 :: (esc (str b).toList ++ [0, 1]) = _
              rw [str_toList]
            refine ⟨?_, by simp, ?_, ?_⟩
            · have : ¬ 64 < (str b).size := by rw [str_size]; omega
              simp [checkV, this]
            · rw [hk, Nat.add_comm]
              show 3 :: r = 3 :: (esc b ++ [0, 1] ++ r.drop m)
              rw [List.append_assoc]
              show 3 :: r = 3 :: (esc b ++ (0 :: 1 :: r.drop m))
              rw [← e1]
            · rw [hk, e2]; simp; omega
          · rw [if_neg h3] at h; simp at h

/-- What is read back is a row that may be, and its key is what was read; and of each such row its key is read back. -/
theorem dec_make : ∀ (l : List Val) (m : Nat), l.length ≤ m → (∀ x ∈ l, checkV x = 0 ∧ -9223372036854775808 ≤ x.n ∧ x.n ≤ 9223372036854775807) → decG m (keyRow l) = some l
  | [], m, _, _ => by cases m <;> rfl
  | x :: l, 0, h, _ => by simp at h
  | x :: l, m + 1, h, hh => by
    obtain ⟨h0, h1, h2⟩ := hh x (by simp)
    have ih := dec_make l m (by simp at h; omega) (fun y hy => hh y (by simp [hy]))
    have hc := cell_make x (keyRow l) h0 h1 h2
    have e : keyRow (x :: l) = keyCell x ++ keyRow l := List.flatMap_cons
    rw [e]
    obtain ⟨c, q, hq⟩ : ∃ c q, keyCell x = c :: q := ⟨_, _, rfl⟩
    rw [hq] at hc ⊢
    show (match cellF (c :: q ++ keyRow l) with | none => none | some p => (decG m ((c :: q ++ keyRow l).drop p.2)).map (p.1 :: ·)) = _
    rw [hc]
    simp only [List.drop_left]
    rw [ih]
    rfl
theorem dec_back : ∀ (m : Nat) (k : List UInt8) (l : List Val), decG m k = some l → l.length ≤ m ∧ (∀ x ∈ l, checkV x = 0 ∧ -9223372036854775808 ≤ x.n ∧ x.n ≤ 9223372036854775807) ∧ keyRow l = k
  | m, [], l, h => by
    have : l = [] := by cases m <;> simpa [decG] using h.symm
    subst this
    exact ⟨by simp, by simp, rfl⟩
  | 0, c :: r, l, h => by simp [decG] at h
  | m + 1, c :: r, l, h => by
    have h' : (match cellF (c :: r) with | none => none | some p => (decG m ((c :: r).drop p.2)).map (p.1 :: ·)) = some l := h
    cases hc : cellF (c :: r) with
    | none => rw [hc] at h'; simp at h'
    | some p =>
      obtain ⟨v, n⟩ := p
      rw [hc] at h'
      simp only at h'
      rw [Option.map_eq_some_iff] at h'
      obtain ⟨l', hl', rfl⟩ := h'
      obtain ⟨c1, c2, c3, c4⟩ := cell_back _ _ _ hc
      obtain ⟨d1, d2, d3⟩ := dec_back m _ l' hl'
      refine ⟨by simp; omega, ?_, ?_⟩
      · intro x hx
        rcases List.mem_cons.1 hx with rfl | hx
        · exact ⟨c1, c2⟩
        · exact d2 x hx
      · show keyRow (v :: l') = _
        rw [show keyRow (v :: l') = keyCell v ++ keyRow l' from List.flatMap_cons, d3]
        exact c3.symm

end Go.Proofs.YteamepgonmdilaaDoor
