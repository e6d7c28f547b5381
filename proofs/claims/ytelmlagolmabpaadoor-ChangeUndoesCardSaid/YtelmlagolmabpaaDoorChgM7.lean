/-
  Plain law of lists of rows and counts: what tells such a list; the difference of two; what is told of one, done to another. Plain law of changes: what is told of a difference makes the one view of the other; changes undone make the view again; changes that are cut. Plain law of changes: what is left of changes; changes undone; changes cut. Plain law of changes: which are in form; right views and changes that a list of rows gives.
-/
import Derived.Test.YtelmlagolmabpaaDoorChg23
set_option linter.unusedSimpArgs false
set_option linter.unusedVariables false
namespace Go.Proofs.YtelmlagolmabpaaDoor
open Go.RowKit Go.Maps

instance valDec : DecidableEq Val := fun a b =>
  if h : a.k = b.k ∧ a.n = b.n ∧ a.s = b.s then isTrue (by cases a; cases b; simp at h; obtain ⟨rfl, rfl, rfl⟩ := h; rfl) else isFalse (by rintro rfl; simp at h)
theorem same_iff {a b : List Val} (ha : GoodR a) (hb : GoodR b) : (rowsF a b = 0) = (a = b) := propext (rowsF_zero ha hb)
theorem rowsF_ne {a b : List Val} (ha : GoodR a) (hb : GoodR b) (h : rowsF a b < 0) : a ≠ b := fun e => by rw [(rowsF_zero ha hb).2 e] at h; omega
theorem rowsF_gt {a b : List Val} (ha : GoodR a) (hb : GoodR b) (h0 : ¬ rowsF a b = 0) (h1 : ¬ rowsF a b < 0) : rowsF b a < 0 := by rw [rowsF_flip ha hb]; omega
theorem Rises.head {x : List Val} {m : Int} {t : AV} (h : Rises ((x, m) :: t)) : GoodR x ∧ ∀ p ∈ t, rowsF x p.1 < 0 := ⟨h.good (x, m) (by simp), (List.pairwise_cons.1 h.rise).1⟩
theorem look_cons {x : List Val} {m : Int} {t : AV} {r : List Val} : lookA ((x, m) :: t) r = if rowsF x r = 0 then m else lookA t r := rfl
theorem has_cons {x : List Val} {m : Int} {t : AV} {r : List Val} : hasA ((x, m) :: t) r = (decide (rowsF x r = 0) || hasA t r) := rfl
theorem look_good {x : List Val} {m : Int} {t : AV} {r : List Val} (hx : GoodR x) (hr : GoodR r) : lookA ((x, m) :: t) r = if x = r then m else lookA t r := by
  rw [look_cons]
  by_cases e : x = r
  · rw [if_pos e, if_pos ((rowsF_zero hx hr).2 e)]
  · rw [if_neg e, if_neg fun h => e ((rowsF_zero hx hr).1 h)]
theorem has_good {x : List Val} {m : Int} {t : AV} {r : List Val} (hx : GoodR x) (hr : GoodR r) : hasA ((x, m) :: t) r = (decide (x = r) || hasA t r) := by
  rw [has_cons]
  by_cases e : x = r
  · rw [decide_eq_true e, decide_eq_true ((rowsF_zero hx hr).2 e)]
  · rw [decide_eq_false e, decide_eq_false fun h => e ((rowsF_zero hx hr).1 h)]
/-- A row that is less than all others is not there. -/
theorem look_less {A : AV} {r : List Val} (hA : Rises A) (hr : GoodR r) (h : ∀ p ∈ A, rowsF r p.1 < 0) : lookA A r = 0 ∧ hasA A r = false := by
  have := look_more (A := A) (r := r) fun p hp => by rw [rowsF_flip hr (hA.good p hp)]; have := h p hp; omega
  exact ⟨this.1, this.2.1⟩
theorem look_head {x : List Val} {m : Int} {t : AV} (h : Rises ((x, m) :: t)) : lookA t x = 0 ∧ hasA t x = false := look_less h.tail h.head.1 h.head.2
theorem has_no_look {A : AV} {r : List Val} (h : hasA A r = false) : lookA A r = 0 := by
  induction A with
  | nil => rfl
  | cons x t ih =>
    obtain ⟨x, m⟩ := x
    rw [has_cons] at h
    simp only [Bool.or_eq_false_iff, decide_eq_false_iff_not] at h
    rw [look_cons, if_neg h.1, ih h.2]
theorem has_mem {A : AV} {p : List Val × Int} (hA : Rises A) (h : p ∈ A) : hasA A p.1 = true := by
  induction A with
  | nil => cases h
  | cons x t ih =>
    obtain ⟨x, m⟩ := x
    rw [has_cons]
    rcases List.mem_cons.1 h with rfl | h
    · rw [decide_eq_true (rowsF_self hA.head.1)]; rfl
    · rw [ih hA.tail h, Bool.or_true]
theorem look_mem {A : AV} {p : List Val × Int} (hA : Rises A) (h : p ∈ A) : lookA A p.1 = p.2 := by
  obtain ⟨i, hi, rfl⟩ := List.mem_iff_getElem.1 h
  exact look_at hA (List.getElem?_eq_getElem hi)
theorem has_some {A : AV} {r : List Val} (hA : Rises A) (hr : GoodR r) (h : hasA A r = true) : (r, lookA A r) ∈ A := by
  induction A with
  | nil => cases h
  | cons x t ih =>
    obtain ⟨x, m⟩ := x
    rw [has_cons] at h
    rw [look_cons]
    by_cases e : rowsF x r = 0
    · rw [if_pos e, (rowsF_zero hA.head.1 hr).1 e]; simp
    · rw [if_neg e]
      rw [decide_eq_false e, Bool.false_or] at h
      exact List.mem_cons_of_mem _ (ih hA.tail h)
theorem look_put {A : AV} {x r : List Val} {n : Int} (hA : Rises A) (hx : GoodR x) (hr : GoodR r) : lookA (putA A x n) r = if x = r then n else lookA A r := by
  induction A with
  | nil => rw [putA, look_good hx hr]
  | cons y t ih =>
    obtain ⟨y, m⟩ := y
    have hy := hA.head.1
    unfold putA
    by_cases e : rowsF y x = 0
    · rw [if_pos e]
      obtain rfl := (rowsF_zero hy hx).1 e
      rw [look_good hy hr, look_good hy hr]
      split <;> rfl
    · rw [if_neg e]
      split
      · rw [look_good hy hr, look_good hy hr, ih hA.tail]
        by_cases e1 : y = r
        · subst e1
          rw [if_pos rfl, if_pos rfl, if_neg fun h => e ((rowsF_zero hy hx).2 h.symm)]
        · rw [if_neg e1, if_neg e1]
      · rw [look_good hx hr]
theorem has_put {A : AV} {x r : List Val} {n : Int} (hA : Rises A) (hx : GoodR x) (hr : GoodR r) : hasA (putA A x n) r = (decide (x = r) || hasA A r) := by
  induction A with
  | nil => rw [putA, has_good hx hr]
  | cons y t ih =>
    obtain ⟨y, m⟩ := y
    have hy := hA.head.1
    unfold putA
    by_cases e : rowsF y x = 0
    · rw [if_pos e]
      obtain rfl := (rowsF_zero hy hx).1 e
      rw [has_good hy hr, has_good hy hr]
      cases decide (y = r) <;> simp
    · rw [if_neg e]
      split
      · rw [has_cons, has_cons, ih hA.tail]
        cases decide (x = r) <;> simp
      · rw [has_good hx hr]
theorem look_del {A : AV} {x r : List Val} (hA : Rises A) (hx : GoodR x) (hr : GoodR r) : lookA (delA A x) r = if x = r then 0 else lookA A r := by
  induction A with
  | nil => simp [delA, lookA]
  | cons y t ih =>
    obtain ⟨y, m⟩ := y
    have hy := hA.head.1
    unfold delA
    by_cases e : rowsF y x = 0
    · rw [if_pos e]
      obtain rfl := (rowsF_zero hy hx).1 e
      rw [look_good hy hr]
      by_cases e1 : y = r
      · subst e1; rw [if_pos rfl, (look_head hA).1]
      · rw [if_neg e1, if_neg e1]
    · rw [if_neg e, look_good hy hr, look_good hy hr, ih hA.tail]
      by_cases e1 : y = r
      · subst e1
        rw [if_pos rfl, if_pos rfl, if_neg fun h => e ((rowsF_zero hy hx).2 h.symm)]
      · rw [if_neg e1, if_neg e1]
theorem has_del {A : AV} {x r : List Val} (hA : Rises A) (hx : GoodR x) (hr : GoodR r) : hasA (delA A x) r = (!decide (x = r) && hasA A r) := by
  induction A with
  | nil => simp [delA, hasA]
  | cons y t ih =>
    obtain ⟨y, m⟩ := y
    have hy := hA.head.1
    unfold delA
    by_cases e : rowsF y x = 0
    · rw [if_pos e]
      obtain rfl := (rowsF_zero hy hx).1 e
      rw [has_good hy hr]
      by_cases e1 : y = r
      · subst e1; rw [(look_head hA).2]; simp
      · simp [e1]
    · rw [if_neg e, has_good hy hr, has_good hy hr, ih hA.tail]
      by_cases e1 : y = r
      · subst e1
        have : ¬ x = y := fun h => e ((rowsF_zero hy hx).2 h.symm)
        simp [this]
      · simp [e1]
/-- Two rising lists that answer alike are one. -/
theorem rises_ext {P Q : AV} (hP : Rises P) (hQ : Rises Q) (h : ∀ r, GoodR r → hasA P r = hasA Q r ∧ lookA P r = lookA Q r) : P = Q := by
  induction P generalizing Q with
  | nil =>
    cases Q with
    | nil => rfl
    | cons q t => have := (h q.1 (hQ.good q (by simp))).1; rw [has_mem hQ (by simp)] at this; cases this
  | cons p t ih =>
    cases Q with
    | nil => have := (h p.1 (hP.good p (by simp))).1; rw [has_mem hP (by simp)] at this; cases this
    | cons q u =>
      obtain ⟨p, m⟩ := p
      obtain ⟨q, n⟩ := q
      have hp := hP.head.1
      have hq := hQ.head.1
      by_cases e : rowsF p q = 0
      · obtain rfl := (rowsF_zero hp hq).1 e
        have h1 := (h p hp).2
        rw [look_cons, look_cons, if_pos e, if_pos e] at h1
        subst h1
        congr 1
        refine ih hP.tail hQ.tail fun r hr => ?_
        have h2 := h r hr
        rw [look_good hp hr, look_good hp hr, has_good hp hr, has_good hp hr] at h2
        by_cases e1 : p = r
        · subst e1
          rw [(look_head hP).1, (look_head hQ).1, (look_head hP).2, (look_head hQ).2]
          exact ⟨rfl, rfl⟩
        · simp only [e1, decide_false, Bool.false_or, if_false] at h2
          exact h2
      · exfalso
        by_cases l : rowsF p q < 0
        · have h1 := (h p hp).1
          rw [has_mem hP (p := (p, m)) (by simp), (look_less hQ hp fun x hx => ?_).2] at h1
          · cases h1
          · rcases List.mem_cons.1 hx with rfl | hx
            · exact l
            · exact rowsF_trans hp hq (hQ.good x (by simp [hx])) l (hQ.head.2 x hx)
        · have l' := rowsF_gt hp hq e l
          have h1 := (h q hq).1
          rw [has_mem hQ (p := (q, n)) (by simp), (look_less hP hq fun x hx => ?_).2] at h1
          · cases h1
          · rcases List.mem_cons.1 hx with rfl | hx
            · exact l'
            · exact rowsF_trans hq hp (hP.good x (by simp [hx])) l' (hP.head.2 x hx)
/-- Fewer rows, fewer entries. -/
theorem rises_sub {A B : AV} (hA : Rises A) (hB : Rises B) (h : ∀ r, GoodR r → hasA A r = true → hasA B r = true) : A.length ≤ B.length := by
  induction B generalizing A with
  | nil =>
    cases A with
    | nil => simp
    | cons p t => have := h p.1 (hA.good p (by simp)) (has_mem hA (by simp)); cases this
  | cons q u ih =>
    cases A with
    | nil => simp
    | cons p t =>
      obtain ⟨p, m⟩ := p
      obtain ⟨q, n⟩ := q
      have hp := hA.head.1
      have hq := hB.head.1
      by_cases e : rowsF q p = 0
      · obtain rfl := (rowsF_zero hq hp).1 e
        have := ih hA.tail hB.tail fun r hr hh => by
          have h1 := h r hr (by rw [has_cons, hh, Bool.or_true])
          rw [has_cons] at h1
          rcases Bool.or_eq_true_iff.1 h1 with h1 | h1
          · have e1 : q = r := (rowsF_zero hq hr).1 (of_decide_eq_true h1)
            subst e1
            rw [(look_head hA).2] at hh
            cases hh
          · exact h1
        simp only [List.length_cons]; omega
      · by_cases l : rowsF q p < 0
        · have hall : ∀ x ∈ (p, m) :: t, rowsF q x.1 < 0 := fun x hx => by
            rcases List.mem_cons.1 hx with rfl | hx
            · exact l
            · exact rowsF_trans hq hp (hA.good x (by simp [hx])) l (hA.head.2 x hx)
          have := ih hA hB.tail fun r hr hh => by
            have h1 := h r hr hh
            rw [has_cons] at h1
            rcases Bool.or_eq_true_iff.1 h1 with h1 | h1
            · have e1 : q = r := (rowsF_zero hq hr).1 (of_decide_eq_true h1)
              subst e1
              rw [(look_less hA hq hall).2] at hh
              cases hh
            · exact h1
          simp only [List.length_cons] at this ⊢; omega
        · exfalso
          have l' := rowsF_gt hq hp e l
          have h1 := h p hp (has_mem hA (p := (p, m)) (by simp))
          rw [(look_less hB hp fun x hx => ?_).2] at h1
          · cases h1
          · rcases List.mem_cons.1 hx with rfl | hx
            · exact l'
            · exact rowsF_trans hp hq (hB.good x (by simp [hx])) l' (hB.head.2 x hx)
/-- Right views that answer alike are one. -/
theorem GoodA.has {A : AV} (h : GoodA A) {r : List Val} (hr : GoodR r) : hasA A r = decide (lookA A r ≠ 0) := by
  cases hh : hasA A r with
  | false => rw [has_no_look hh]; rfl
  | true => have := h.nums _ (has_some h.rises hr hh); simp only at this; exact (decide_eq_true (by omega)).symm
theorem good_ext {P Q : AV} (hP : GoodA P) (hQ : GoodA Q) (h : ∀ r, GoodR r → lookA P r = lookA Q r) : P = Q :=
  rises_ext hP.rises hQ.rises fun r hr => ⟨by rw [hP.has hr, hQ.has hr, h r hr], h r hr⟩
/-- Entries that are nothing are not told. -/
def nz (A : AV) : AV := A.filter fun p => p.2 != 0
theorem dels_nz (A : AV) : dels (nz A) = dels A := by
  induction A with
  | nil => rfl
  | cons p t ih =>
    have e1 : dels (p :: t) = List.replicate (-p.2).toNat (2, p.1) ++ dels t := rfl
    rw [e1, nz, List.filter_cons]
    by_cases h : p.2 = 0
    · rw [if_neg (by simp [h])]
      rw [h]
      exact ih
    · rw [if_pos (by simp [h])]
      show List.replicate (-p.2).toNat (2, p.1) ++ dels (nz t) = _
      rw [ih]
theorem inss_nz (A : AV) : inss (nz A) = inss A := by
  induction A with
  | nil => rfl
  | cons p t ih =>
    have e1 : inss (p :: t) = List.replicate p.2.toNat (1, p.1) ++ inss t := rfl
    rw [e1, nz, List.filter_cons]
    by_cases h : p.2 = 0
    · rw [if_neg (by simp [h])]
      rw [h]
      exact ih
    · rw [if_pos (by simp [h])]
      show List.replicate p.2.toNat (1, p.1) ++ inss (nz t) = _
      rw [ih]
theorem rises_nz {A : AV} (h : Rises A) : Rises (nz A) := ⟨fun p hp => h.good p (List.mem_filter.1 hp).1, h.rise.sublist List.filter_sublist⟩
theorem look_nz {A : AV} {r : List Val} (h : Rises A) (hr : GoodR r) : lookA (nz A) r = lookA A r ∧ hasA (nz A) r = decide (lookA A r ≠ 0) := by
  cases hh : hasA (nz A) r with
  | true =>
    have h1 := List.mem_filter.1 (has_some (rises_nz h) hr hh)
    have h2 := look_mem h h1.1
    have h3 := h1.2
    simp only [bne_iff_ne, ne_eq] at h2 h3
    exact ⟨h2.symm, (decide_eq_true (by rw [h2]; exact h3)).symm⟩
  | false =>
    rw [has_no_look hh]
    by_cases h0 : lookA A r = 0
    · exact ⟨h0.symm, by simp [h0]⟩
    · exfalso
      have h1 : hasA A r = true := by
        cases h1 : hasA A r with
        | true => rfl
        | false => exact absurd (has_no_look h1) h0
      have := has_mem (rises_nz h) (List.mem_filter.2 ⟨has_some h hr h1, by simp [h0]⟩)
      simp only at this
      rw [hh] at this
      cases this
theorem tell_ext {P Q : AV} (hP : Rises P) (hQ : Rises Q) (h : ∀ r, GoodR r → lookA P r = lookA Q r) : tell P = tell Q := by
  have : nz P = nz Q := rises_ext (rises_nz hP) (rises_nz hQ) fun r hr => by
    obtain ⟨a, b⟩ := look_nz hP hr
    obtain ⟨c, d⟩ := look_nz hQ hr
    rw [a, b, c, d, h r hr]
    exact ⟨rfl, rfl⟩
  rw [tell, tell, ← dels_nz P, ← inss_nz P, this, dels_nz, inss_nz]
theorem told_ext {P Q : AV} (hP : Rises P) (hQ : Rises Q) (h : ∀ r, GoodR r → lookA P r = lookA Q r) : toldS P = toldS Q := by
  rw [toldS, toldS, tell_ext hP hQ h]

/-- How much more often each row is in B than in A. -/
def mergeD : AV → AV → AV
  | [], B => B
  | A, [] => A.map fun p => (p.1, -p.2)
  | (a, m) :: A, (b, n) :: B =>
    if rowsF a b < 0 then (a, -m) :: mergeD A ((b, n) :: B) else if rowsF a b = 0 then (a, n - m) :: mergeD A B else (b, n) :: mergeD ((a, m) :: A) B
termination_by A B => A.length + B.length
theorem merge_nil (A : AV) : mergeD A [] = A.map fun p => (p.1, -p.2) := by cases A <;> simp [mergeD]
theorem merge_nil' (B : AV) : mergeD [] B = B := by simp [mergeD]
theorem neg_look (A : AV) (r : List Val) : lookA (A.map fun p => (p.1, -p.2)) r = - lookA A r := by
  induction A with
  | nil => rfl
  | cons x t ih => obtain ⟨x, m⟩ := x; rw [List.map_cons, look_cons, look_cons, ih]; split <;> rfl
theorem neg_rises {A : AV} (h : Rises A) : Rises (A.map fun p => (p.1, -p.2)) := ⟨fun p hp => by
    obtain ⟨q, hq, rfl⟩ := List.mem_map.1 hp
    exact h.good q hq, by
    rw [List.pairwise_map]
    exact h.rise⟩
theorem merge_mem (A B : AV) : ∀ p ∈ mergeD A B, (∃ m, (p.1, m) ∈ A) ∨ ∃ m, (p.1, m) ∈ B := by
  induction A, B using mergeD.induct with
  | case1 B => intro p hp; rw [merge_nil'] at hp; exact .inr ⟨p.2, hp⟩
  | case2 A h =>
    intro p hp
    rw [merge_nil] at hp
    obtain ⟨q, hq, rfl⟩ := List.mem_map.1 hp
    exact .inl ⟨q.2, hq⟩
  | case3 a m A b n B h ih =>
    intro p hp
    rw [mergeD, if_pos h] at hp
    rcases List.mem_cons.1 hp with rfl | hp
    · exact .inl ⟨m, by simp⟩
    · rcases ih p hp with ⟨k, hk⟩ | ⟨k, hk⟩
      · exact .inl ⟨k, by simp [hk]⟩
      · exact .inr ⟨k, hk⟩
  | case4 a m A b n B h h' ih =>
    intro p hp
    rw [mergeD, if_neg h, if_pos h'] at hp
    rcases List.mem_cons.1 hp with rfl | hp
    · exact .inl ⟨m, by simp⟩
    · rcases ih p hp with ⟨k, hk⟩ | ⟨k, hk⟩
      · exact .inl ⟨k, by simp [hk]⟩
      · exact .inr ⟨k, by simp [hk]⟩
  | case5 a m A b n B h h' ih =>
    intro p hp
    rw [mergeD, if_neg h, if_neg h'] at hp
    rcases List.mem_cons.1 hp with rfl | hp
    · exact .inr ⟨n, by simp⟩
    · rcases ih p hp with ⟨k, hk⟩ | ⟨k, hk⟩
      · exact .inl ⟨k, hk⟩
      · exact .inr ⟨k, by simp [hk]⟩
theorem Rises.cons {x : List Val} {m : Int} {t : AV} (hx : GoodR x) (h : Rises t) (hl : ∀ p ∈ t, rowsF x p.1 < 0) : Rises ((x, m) :: t) :=
  ⟨fun p hp => by
    rcases List.mem_cons.1 hp with rfl | hp
    · exact hx
    · exact h.good p hp, List.pairwise_cons.2 ⟨hl, h.rise⟩⟩
theorem merge_rises {A B : AV} (hA : Rises A) (hB : Rises B) : Rises (mergeD A B) := by
  induction A, B using mergeD.induct with
  | case1 B => rw [merge_nil']; exact hB
  | case2 A h => rw [merge_nil]; exact neg_rises hA
  | case3 a m A b n B h ih =>
    rw [mergeD, if_pos h]
    refine Rises.cons hA.head.1 (ih hA.tail hB) fun p hp => ?_
    rcases merge_mem _ _ p hp with ⟨k, hk⟩ | ⟨k, hk⟩
    · exact hA.head.2 (p.1, k) hk
    · rcases List.mem_cons.1 hk with e | hk
      · injection e with e1 _; rw [e1]; exact h
      · exact rowsF_trans hA.head.1 hB.head.1 (hB.good (p.1, k) (by simp [hk])) h (hB.head.2 (p.1, k) hk)
  | case4 a m A b n B h h' ih =>
    rw [mergeD, if_neg h, if_pos h']
    obtain rfl := (rowsF_zero hA.head.1 hB.head.1).1 h'
    refine Rises.cons hA.head.1 (ih hA.tail hB.tail) fun p hp => ?_
    rcases merge_mem _ _ p hp with ⟨k, hk⟩ | ⟨k, hk⟩
    · exact hA.head.2 (p.1, k) hk
    · exact hB.head.2 (p.1, k) hk
  | case5 a m A b n B h h' ih =>
    rw [mergeD, if_neg h, if_neg h']
    have l := rowsF_gt hA.head.1 hB.head.1 h' h
    refine Rises.cons hB.head.1 (ih hA hB.tail) fun p hp => ?_
    rcases merge_mem _ _ p hp with ⟨k, hk⟩ | ⟨k, hk⟩
    · rcases List.mem_cons.1 hk with e | hk
      · injection e with e1 _; rw [e1]; exact l
      · exact rowsF_trans hB.head.1 hA.head.1 (hA.good (p.1, k) (by simp [hk])) l (hA.head.2 (p.1, k) hk)
    · exact hB.head.2 (p.1, k) hk
theorem merge_look {A B : AV} (hA : Rises A) (hB : Rises B) {r : List Val} (hr : GoodR r) : lookA (mergeD A B) r = lookA B r - lookA A r := by
  induction A, B using mergeD.induct with
  | case1 B => rw [merge_nil']; simp [lookA]
  | case2 A h => rw [merge_nil, neg_look]; simp [lookA]
  | case3 a m A b n B h ih =>
    rw [mergeD, if_pos h, look_good hA.head.1 hr, look_good (x := a) hA.head.1 hr, ih hA.tail hB]
    by_cases e : a = r
    · subst e
      rw [if_pos rfl, if_pos rfl, (look_less hB hA.head.1 fun x hx => ?_).1]
      · omega
      · rcases List.mem_cons.1 hx with rfl | hx
        · exact h
        · exact rowsF_trans hA.head.1 hB.head.1 (hB.good x (by simp [hx])) h (hB.head.2 x hx)
    · rw [if_neg e, if_neg e]
  | case4 a m A b n B h h' ih =>
    rw [mergeD, if_neg h, if_pos h', look_cons, look_cons, look_cons, ih hA.tail hB.tail]
    obtain rfl := (rowsF_zero hA.head.1 hB.head.1).1 h'
    split <;> rfl
  | case5 a m A b n B h h' ih =>
    have l := rowsF_gt hA.head.1 hB.head.1 h' h
    rw [mergeD, if_neg h, if_neg h', look_good hB.head.1 hr, look_good (x := b) hB.head.1 hr, ih hA hB.tail]
    by_cases e : b = r
    · subst e
      rw [if_pos rfl, if_pos rfl, (look_less hA hB.head.1 fun x hx => ?_).1]
      · omega
      · rcases List.mem_cons.1 hx with rfl | hx
        · exact l
        · exact rowsF_trans hB.head.1 hA.head.1 (hA.good x (by simp [hx])) l (hA.head.2 x hx)
    · rw [if_neg e, if_neg e]
end Go.Proofs.YtelmlagolmabpaaDoor
namespace Go.Proofs.YtelmlagolmabpaaDoor
open Go.RowKit Go.Maps

/-- A row n times more, where it can be. -/
theorem add_can {A : AV} {r : List Val} {n : Int} (hA : GoodA A) (hr : GoodR r) (h0 : 0 ≤ lookA A r + n) (h1 : lookA A r + n ≤ 1073741824) (h2 : lookA A r = 0 → 0 < n → A.length < 4096) :
    (addR A r n).2 = 0 ∧ GoodA (addR A r n).1 ∧ ∀ x, GoodR x → lookA (addR A r n).1 x = if r = x then lookA A r + n else lookA A x := by
  have e : addR A r n = (if lookA A r + n = 0 then delA A r else putA A r (lookA A r + n), 0) := by
    unfold addR
    rw [if_neg (by omega), if_neg]
    · split <;> rfl
    · rintro (h | ⟨h, h', h''⟩)
      · omega
      · have := has_no_look h
        have := h2 this (by omega)
        omega
  have e0 : (addR A r n).2 = 0 := by rw [e]
  refine ⟨e0, hA.add hr e0, fun x hx => ?_⟩
  rw [e]
  show lookA (if lookA A r + n = 0 then delA A r else putA A r (lookA A r + n)) x = _
  split
  · rename_i h; rw [look_del hA.rises hr hx]; rw [h]
  · rw [look_put hA.rises hr hx]
theorem put_new_len {A : AV} {r : List Val} {n : Int} (h : hasA A r = false) : (putA A r n).length = A.length + 1 := by
  induction A with
  | nil => rfl
  | cons y t ih =>
    obtain ⟨y, m⟩ := y
    rw [has_cons] at h
    simp only [Bool.or_eq_false_iff, decide_eq_false_iff_not] at h
    unfold putA
    rw [if_neg h.1]
    split
    · simp [ih h.2]
    · rfl
/-- One row n times less. -/
theorem fold_less {r : List Val} (hr : GoodR r) (rest : KL) : ∀ (d : Nat) (A : AV) (i : Int), GoodA A → (d : Int) ≤ lookA A r →
    ∃ A' i', foldR A i (List.replicate d (2, r) ++ rest) = foldR A' i' rest ∧ GoodA A' ∧ ∀ x, GoodR x → lookA A' x = if r = x then lookA A r - d else lookA A x
  | 0, A, i, hA, _ => ⟨A, i, rfl, hA, fun x hx => by split <;> rename_i h <;> simp [h]⟩
  | d + 1, A, i, hA, h => by
    have hs : stepI 2 = -1 := by rfl
    have hn := look_num r hA.nums
    obtain ⟨h0, hg, hl⟩ := add_can (n := -1) hA hr (by omega) (by omega) (by omega)
    have hle : (d : Int) ≤ lookA (addR A r (-1)).1 r := by rw [hl r hr, if_pos rfl]; omega
    obtain ⟨A', i', e, g, l⟩ := fold_less hr rest d (addR A r (-1)).1 (i + 1) hg hle
    refine ⟨A', i', ?_, g, fun x hx => ?_⟩
    · rw [List.replicate_succ, List.cons_append, foldR]
      simp only [hs]
      rw [if_pos h0, e]
    · rw [l x hx, hl r hr, if_pos rfl, hl x hx]
      split
      · omega
      · rfl
/-- One row n times more. -/
theorem fold_gain {r : List Val} (hr : GoodR r) (rest : KL) : ∀ (d : Nat) (A : AV) (i : Int), GoodA A → lookA A r + d ≤ 1073741824 → (0 < d → lookA A r = 0 → A.length < 4096) →
    ∃ A' i', foldR A i (List.replicate d (1, r) ++ rest) = foldR A' i' rest ∧ GoodA A' ∧ ∀ x, GoodR x → lookA A' x = if r = x then lookA A r + d else lookA A x
  | 0, A, i, hA, _, _ => ⟨A, i, rfl, hA, fun x hx => by split <;> rename_i h <;> simp [h]⟩
  | d + 1, A, i, hA, h, h2 => by
    have hs : stepI 1 = 1 := by rfl
    have hn := look_num r hA.nums
    obtain ⟨h0, hg, hl⟩ := add_can (n := 1) hA hr (by omega) (by omega) fun h3 _ => h2 (by omega) h3
    have hle : lookA (addR A r 1).1 r + d ≤ 1073741824 := by rw [hl r hr, if_pos rfl]; omega
    obtain ⟨A', i', e, g, l⟩ := fold_gain hr rest d (addR A r 1).1 (i + 1) hg hle fun _ h3 => by rw [hl r hr, if_pos rfl] at h3; omega
    refine ⟨A', i', ?_, g, fun x hx => ?_⟩
    · rw [List.replicate_succ, List.cons_append, foldR]
      simp only [hs]
      rw [if_pos h0, e]
    · rw [l x hx, hl r hr, if_pos rfl, hl x hx]
      split
      · omega
      · rfl
theorem fold_dels (rest : KL) : ∀ (D : AV) (A : AV) (i : Int), Rises D → GoodA A → (∀ p ∈ D, 0 ≤ lookA A p.1 + p.2) →
    ∃ A' i', foldR A i (dels D ++ rest) = foldR A' i' rest ∧ GoodA A' ∧ ∀ x, GoodR x → lookA A' x = if lookA D x < 0 then lookA A x + lookA D x else lookA A x
  | [], A, i, _, hA, _ => ⟨A, i, rfl, hA, fun x _ => by simp [lookA]⟩
  | (r, m) :: D, A, i, hD, hA, h => by
    have hr := hD.head.1
    have hm := h (r, m) (by simp)
    have hn := look_num r hA.nums
    simp only at hm
    obtain ⟨A1, i1, e1, g1, l1⟩ := fold_less hr (dels D ++ rest) (-m).toNat A i hA (by omega)
    obtain ⟨A2, i2, e2, g2, l2⟩ := fold_dels rest D A1 i1 hD.tail g1 fun p hp => by
      have hne : ¬ r = p.1 := rowsF_ne hr (hD.tail.good p hp) (hD.head.2 p hp)
      rw [l1 p.1 (hD.tail.good p hp), if_neg hne]
      exact h p (by simp [hp])
    refine ⟨A2, i2, ?_, g2, fun x hx => ?_⟩
    · rw [show dels ((r, m) :: D) = List.replicate (-m).toNat (2, r) ++ dels D from rfl, List.append_assoc, e1, e2]
    · rw [l2 x hx, l1 x hx, look_good hr hx]
      by_cases e : r = x
      · subst e
        rw [if_pos rfl, if_pos rfl, (look_head hD).1, if_neg (by omega)]
        split <;> omega
      · rw [if_neg e, if_neg e]
theorem fold_inss {B : AV} (hB : Rises B) (hfew : B.length ≤ 4096) : ∀ (D : AV) (A : AV) (i : Int), Rises D → GoodA A → (∀ p ∈ D, lookA A p.1 + p.2 ≤ 1073741824) → (∀ x, GoodR x → hasA A x = true → hasA B x = true) → (∀ p ∈ D, 0 < p.2 → hasA B p.1 = true) →
    ∃ A' i', foldR A i (inss D) = foldR A' i' [] ∧ GoodA A' ∧ ∀ x, GoodR x → lookA A' x = if 0 < lookA D x then lookA A x + lookA D x else lookA A x
  | [], A, i, _, hA, _, _, _ => ⟨A, i, rfl, hA, fun x _ => by simp [lookA]⟩
  | (r, m) :: D, A, i, hD, hA, h, hs, hd => by
    have hr := hD.head.1
    have hm := h (r, m) (by simp)
    have hn := look_num r hA.nums
    simp only at hm
    obtain ⟨A1, i1, e1, g1, l1⟩ := fold_gain hr (inss D) m.toNat A i hA (by omega) fun h0 h3 => by
      have hb := hd (r, m) (by simp) (by simp only; omega)
      simp only at hb
      have hno : hasA A r = false := by rw [hA.has hr, h3]; rfl
      have h1 : Rises (putA A r 1) := rises_put hA.rises hr
      have h4 := rises_sub h1 hB fun x hx hh => by
        rw [has_put hA.rises hr hx] at hh
        rcases Bool.or_eq_true_iff.1 hh with hh | hh
        · have := of_decide_eq_true hh; subst this; exact hb
        · exact hs x hx hh
      have h5 : (putA A r 1).length = A.length + 1 := put_new_len hno
      omega
    obtain ⟨A2, i2, e2, g2, l2⟩ := fold_inss hB hfew D A1 i1 hD.tail g1 (fun p hp => by
      have hne : ¬ r = p.1 := rowsF_ne hr (hD.tail.good p hp) (hD.head.2 p hp)
      rw [l1 p.1 (hD.tail.good p hp), if_neg hne]
      exact h p (by simp [hp])) (fun x hx hh => by
      rw [g1.has hx, l1 x hx] at hh
      by_cases e : r = x
      · subst e
        by_cases h0 : 0 < m
        · exact hd (r, m) (by simp) h0
        · have h7 : m.toNat = 0 := by omega
          rw [if_pos rfl, h7] at hh
          have h8 := of_decide_eq_true hh
          exact hs r hr (by rw [hA.has hr]; exact decide_eq_true (by omega))
      · rw [if_neg e] at hh
        exact hs x hx (by rw [hA.has hx]; exact hh)) (fun p hp h0 => hd p (by simp [hp]) h0)
    refine ⟨A2, i2, ?_, g2, fun x hx => ?_⟩
    · rw [show inss ((r, m) :: D) = List.replicate m.toNat (1, r) ++ inss D from rfl, e1, e2]
    · rw [l2 x hx, l1 x hx, look_good hr hx]
      by_cases e : r = x
      · subst e
        rw [if_pos rfl, if_pos rfl, (look_head hD).1, if_neg (by omega)]
        split <;> omega
      · rw [if_neg e, if_neg e]
/-- WHAT IS TOLD OF A DIFFERENCE MAKES THE ONE VIEW OF THE OTHER. -/
theorem fold_tell {A B D : AV} (hA : GoodA A) (hB : GoodA B) (hD : Rises D) (h : ∀ r, GoodR r → lookA D r = lookA B r - lookA A r) : foldR A 0 (tell D) = (B, 0, 0) := by
  obtain ⟨A1, i1, e1, g1, l1⟩ := fold_dels (inss D) D A 0 hD hA fun p hp => by
    have := h p.1 (hD.good p hp)
    rw [look_mem hD hp] at this
    have hn := look_num p.1 hB.nums
    omega
  obtain ⟨A2, i2, e2, g2, l2⟩ := fold_inss hB.rises hB.few D A1 i1 hD g1 (fun p hp => by
    have h1 := h p.1 (hD.good p hp)
    rw [l1 p.1 (hD.good p hp), look_mem hD hp] at *
    have hn := look_num p.1 hB.nums
    have hn' := look_num p.1 hA.nums
    split <;> omega) (fun x hx hh => by
    rw [g1.has hx, l1 x hx, h x hx] at hh
    have h8 := of_decide_eq_true hh
    rw [hB.has hx]
    have hn := look_num x hB.nums
    have hn' := look_num x hA.nums
    refine decide_eq_true ?_
    split at h8 <;> omega) (fun p hp h0 => by
    have h1 := h p.1 (hD.good p hp)
    rw [look_mem hD hp] at h1
    rw [hB.has (hD.good p hp)]
    have hn' := look_num p.1 hA.nums
    exact decide_eq_true (by omega))
  rw [tell, e1, e2]
  have : A2 = B := good_ext g2 hB fun r hr => by
    rw [l2 r hr, l1 r hr, h r hr]
    have hn := look_num r hB.nums
    have hn' := look_num r hA.nums
    repeat' split
    all_goals omega
  rw [this]
  rfl
end Go.Proofs.YtelmlagolmabpaaDoor
namespace Go.Proofs.YtelmlagolmabpaaDoor
open Go.RowKit Go.Maps

/-- How much more often a row comes. -/
def sumS : KL → List Val → Int
  | [], _ => 0
  | c :: t, r => (if c.2 = r then stepI c.1 else 0) + sumS t r
theorem sumS_app (a b : KL) (r : List Val) : sumS (a ++ b) r = sumS a r + sumS b r := by
  induction a with
  | nil => simp [sumS]
  | cons c t ih => rw [List.cons_append, sumS, sumS, ih]; omega
theorem net_rises : ∀ (L : KL) (P : AV), Rises P → (∀ c ∈ L, GoodR c.2) → Rises (netR P L)
  | [], _, h, _ => h
  | c :: t, P, h, hg => net_rises t _ (rises_put h (hg c (by simp))) fun d hd => hg d (by simp [hd])
theorem net_look : ∀ (L : KL) (P : AV), Rises P → (∀ c ∈ L, GoodR c.2) → ∀ r, GoodR r → lookA (netR P L) r = lookA P r + sumS L r
  | [], _, _, _, r, _ => by simp [netR, sumS]
  | c :: t, P, h, hg, r, hr => by
    have hc := hg c (by simp)
    rw [netR, net_look t _ (rises_put h hc) (fun d hd => hg d (by simp [hd])) r hr, look_put h hc hr, sumS]
    split
    · rename_i e; rw [e]; omega
    · omega
/-- Changes that can be done. -/
theorem fold_app : ∀ (L M : KL) (A : AV) (i : Int), (foldR A i L).2.2 = 0 → foldR A i (L ++ M) = foldR (foldR A i L).1 (i + L.length) M
  | [], M, A, i, _ => by simp [foldR]
  | c :: t, M, A, i, h => by
    rw [foldR] at h
    rw [List.cons_append, foldR, foldR]
    by_cases h0 : (addR A c.2 (stepI c.1)).2 = 0
    · rw [if_pos h0] at h ⊢
      rw [if_pos h0, fold_app t M _ _ h, List.length_cons]
      congr 1
      simp only [Int.natCast_add]
      omega
    · rw [if_neg h0] at h
      exact absurd h h0
theorem fold_head {L M : KL} {A : AV} {i : Int} (h : (foldR A i (L ++ M)).2.2 = 0) : (foldR A i L).2.2 = 0 := by
  induction L generalizing A i with
  | nil => rfl
  | cons c t ih =>
    rw [List.cons_append, foldR] at h
    rw [foldR]
    by_cases h0 : (addR A c.2 (stepI c.1)).2 = 0
    · rw [if_pos h0] at h ⊢; exact ih h
    · rw [if_neg h0] at h; exact absurd h h0
theorem fold_place : ∀ (L : KL) (A : AV) (i : Int), (foldR A i L).2.2 = 0 → (foldR A i L).2.1 = 0
  | [], _, _, _ => rfl
  | c :: t, A, i, h => by
    rw [foldR] at h ⊢
    by_cases h0 : (addR A c.2 (stepI c.1)).2 = 0
    · rw [if_pos h0] at h ⊢; exact fold_place t _ _ h
    · rw [if_neg h0] at h; exact absurd h h0
theorem fold_any_place : ∀ (L : KL) (A : AV) (i j : Int), (foldR A i L).2.2 = 0 → foldR A j L = foldR A i L
  | [], _, _, _, _ => rfl
  | c :: t, A, i, j, h => by
    rw [foldR] at h
    rw [foldR, foldR]
    by_cases h0 : (addR A c.2 (stepI c.1)).2 = 0
    · rw [if_pos h0] at h; rw [if_pos h0, if_pos h0]; exact fold_any_place t _ _ _ h
    · rw [if_neg h0] at h; exact absurd h h0
theorem fold_good : ∀ (L : KL) (A : AV) (i : Int), GoodA A → (∀ c ∈ L, GoodR c.2) → (foldR A i L).2.2 = 0 → GoodA (foldR A i L).1
  | [], _, _, hA, _, _ => hA
  | c :: t, A, i, hA, hg, h => by
    rw [foldR] at h ⊢
    by_cases h0 : (addR A c.2 (stepI c.1)).2 = 0
    · rw [if_pos h0] at h ⊢; exact fold_good t _ _ (hA.add (hg c (by simp)) h0) (fun d hd => hg d (by simp [hd])) h
    · rw [if_neg h0] at h; exact absurd h h0
theorem add_look {A : AV} {r x : List Val} {n : Int} (hA : Rises A) (hr : GoodR r) (hx : GoodR x) (h : (addR A r n).2 = 0) : lookA (addR A r n).1 x = if r = x then lookA A r + n else lookA A x := by
  obtain ⟨-, -, -, e⟩ := addR_ok h
  rw [e]
  split
  · rename_i h; rw [look_del hA hr hx, h]
  · rw [look_put hA hr hx]
theorem fold_look : ∀ (L : KL) (A : AV) (i : Int), GoodA A → (∀ c ∈ L, GoodR c.2) → (foldR A i L).2.2 = 0 → ∀ r, GoodR r → lookA (foldR A i L).1 r = lookA A r + sumS L r
  | [], _, _, _, _, _, r, _ => by simp [foldR, sumS]
  | c :: t, A, i, hA, hg, h, r, hr => by
    rw [foldR] at h ⊢
    have hc := hg c (by simp)
    by_cases h0 : (addR A c.2 (stepI c.1)).2 = 0
    · rw [if_pos h0] at h ⊢
      rw [fold_look t _ _ (hA.add hc h0) (fun d hd => hg d (by simp [hd])) h r hr, add_look hA.rises hc hr h0, sumS]
      split
      · rename_i e; rw [e]; omega
      · omega
    · rw [if_neg h0] at h; exact absurd h h0
/-- WHAT IS LEFT OF CHANGES MAKES THE SAME. -/
theorem fold_net {A : AV} {L : KL} (hA : GoodA A) (hg : ∀ c ∈ L, GoodR c.2) (h : (foldR A 0 L).2.2 = 0) : foldR A 0 (tell (netR [] L)) = ((foldR A 0 L).1, 0, 0) :=
  fold_tell hA (fold_good L A 0 hA hg h) (net_rises L [] Rises.nil hg) fun r hr => by
    rw [net_look L [] Rises.nil hg r hr, fold_look L A 0 hA hg h r hr]; simp [lookA]; omega
/-! How many changes are told. -/
def absA : AV → Nat
  | [] => 0
  | (_, m) :: t => m.natAbs + absA t
theorem tell_len (A : AV) : (tell A).length = absA A := by
  induction A with
  | nil => rfl
  | cons p t ih =>
    obtain ⟨r, m⟩ := p
    rw [tell, List.length_append] at ih
    rw [tell, List.length_append, show dels ((r, m) :: t) = List.replicate (-m).toNat (2, r) ++ dels t from rfl, show inss ((r, m) :: t) = List.replicate m.toNat (1, r) ++ inss t from rfl, absA]
    simp only [List.length_append, List.length_replicate]
    omega
theorem abs_put (A : AV) (r : List Val) (n : Int) (s : Int) (hs : s = 1 ∨ s = -1) (hA : Rises A) (hr : GoodR r) (hn : n = lookA A r + s) : absA (putA A r n) ≤ absA A + 1 := by
  induction A with
  | nil => simp [putA, absA, lookA] at *; omega
  | cons y t ih =>
    obtain ⟨y, m⟩ := y
    rw [look_cons] at hn
    unfold putA
    by_cases e : rowsF y r = 0
    · rw [if_pos e] at hn ⊢
      simp only [absA]; omega
    · rw [if_neg e] at hn ⊢
      split
      · simp only [absA]; have := ih hA.tail hn; omega
      · rename_i l
        have l' := rowsF_gt hA.head.1 hr e l
        have : lookA t r = 0 := (look_less hA.tail hr fun p hp => rowsF_trans hr hA.head.1 (hA.tail.good p hp) l' (hA.head.2 p hp)).1
        simp only [absA]; omega
theorem net_abs : ∀ (L : KL) (P : AV), Rises P → (∀ c ∈ L, GoodR c.2) → absA (netR P L) ≤ absA P + L.length
  | [], _, _, _ => Nat.le_refl _
  | c :: t, P, h, hg => by
    have hc := hg c (by simp)
    have h1 := abs_put P c.2 _ (stepI c.1) (stepI_two c.1) h hc rfl
    have h2 := net_abs t (putA P c.2 (lookA P c.2 + stepI c.1)) (rises_put h hc) fun d hd => hg d (by simp [hd])
    rw [netR, List.length_cons]
    omega
theorem net_told {L : KL} (hg : ∀ c ∈ L, GoodR c.2) (hl : L.length ≤ 4096) : toldS (netR [] L) = (tell (netR [] L), true) := by
  refine told_yes ?_
  rw [tell_len]
  have := net_abs L [] Rises.nil hg
  simp only [absA] at this
  omega
/-! Undone. -/
def invK (k : Int) : Int := if k = 1 then 2 else if k = 2 then 1 else if k = 3 then 4 else 3
def undoL (L : KL) : KL := (L.map fun c => (invK c.1, c.2)).reverse
theorem step_inv (k : Int) (h1 : 1 ≤ k) (h4 : k ≤ 4) : stepI (invK k) = - stepI k := by
  have : k = 1 ∨ k = 2 ∨ k = 3 ∨ k = 4 := by omega
  rcases this with rfl | rfl | rfl | rfl <;> rfl
theorem undo_snoc (L : KL) (c : Int × List Val) : undoL (L ++ [c]) = (invK c.1, c.2) :: undoL L := by simp [undoL]
theorem add_back {A : AV} {r : List Val} {s : Int} (hA : GoodA A) (hr : GoodR r) (hs : s = 1 ∨ s = -1) (h : (addR A r s).2 = 0) : (addR (addR A r s).1 r (-s)).2 = 0 ∧ (addR (addR A r s).1 r (-s)).1 = A := by
  have hC := hA.add hr h
  have hl : ∀ x, GoodR x → _ := fun x hx => add_look hA.rises hr hx h
  have h1 := hl r hr
  rw [if_pos rfl] at h1
  have hn := look_num r hA.nums
  have hn' := look_num r hC.nums
  obtain ⟨a, g, l⟩ := add_can (n := -s) hC hr (by omega) (by omega) fun h0 hp => by
    -- the row went: there was one more
    have hno : hasA (addR A r s).1 r = false := by rw [hC.has hr, h0]; rfl
    have h3 : Rises (putA (addR A r s).1 r 1) := rises_put hC.rises hr
    have h4 := rises_sub h3 hA.rises fun x hx hh => by
      rw [has_put hC.rises hr hx] at hh
      rcases Bool.or_eq_true_iff.1 hh with hh | hh
      · have e := of_decide_eq_true hh
        subst e
        rw [hA.has hr]
        exact decide_eq_true (by omega)
      · rw [hC.has hx, hl x hx] at hh
        by_cases e : r = x
        · subst e; rw [hA.has hr]; exact decide_eq_true (by omega)
        · rw [if_neg e] at hh; rw [hA.has hx]; exact hh
    have h5 := put_new_len (n := 1) hno
    have := hA.few
    omega
  refine ⟨a, good_ext g hA fun x hx => ?_⟩
  rw [l x hx, hl x hx, h1]
  split
  · rename_i e; subst e; omega
  · rfl
/-- CHANGES UNDONE MAKE THE VIEW AGAIN. -/
theorem fold_undo {A : AV} (hA : GoodA A) (L : KL) : (∀ c ∈ L, GoodR c.2 ∧ 1 ≤ c.1 ∧ c.1 ≤ 4) → (foldR A 0 L).2.2 = 0 → foldR (foldR A 0 L).1 0 (undoL L) = (A, 0, 0) := by
  suffices H : ∀ (n : Nat) (L : KL), L.length = n → (∀ c ∈ L, GoodR c.2 ∧ 1 ≤ c.1 ∧ c.1 ≤ 4) → (foldR A 0 L).2.2 = 0 → foldR (foldR A 0 L).1 0 (undoL L) = (A, 0, 0) from H _ L rfl
  intro n
  induction n with
  | zero =>
    intro L hl hg h
    obtain rfl := List.eq_nil_of_length_eq_zero hl
    rfl
  | succ n ih =>
    intro L hl hg h
    obtain ⟨M, c, rfl⟩ : ∃ M c, L = M ++ [c] := ⟨L.dropLast, L.getLast (by intro e; rw [e] at hl; simp at hl), (List.dropLast_concat_getLast _).symm⟩
    have hM := fold_head h
    have hgM : ∀ d ∈ M, GoodR d.2 := fun d hd => (hg d (by simp [hd])).1
    have hc := hg c (by simp)
    have hX := fold_good M A 0 hA hgM hM
    rw [fold_app M [c] A 0 hM] at h ⊢
    simp only [foldR] at h ⊢
    have h0 : (addR (foldR A 0 M).1 c.2 (stepI c.1)).2 = 0 := by
      by_cases h0 : (addR (foldR A 0 M).1 c.2 (stepI c.1)).2 = 0
      · exact h0
      · rw [if_neg h0] at h; exact absurd h h0
    rw [if_pos h0]
    obtain ⟨a, b⟩ := add_back hX hc.1 (stepI_two c.1) h0
    rw [undo_snoc, foldR]
    simp only [step_inv c.1 hc.2.1 hc.2.2]
    rw [if_pos a, b]
    have := ih M (by simp at hl; omega) (fun d hd => hg d (by simp [hd])) hM
    have h3 := fold_any_place (undoL M) (foldR A 0 M).1 0 (0 + 1) (by rw [this])
    rw [h3, this]
end Go.Proofs.YtelmlagolmabpaaDoor
namespace Go.Proofs.YtelmlagolmabpaaDoor
open Go.RowKit Go.Maps

theorem goodR_err {r : List Val} (h : GoodR r) : keyErr r = 0 := by
  unfold keyErr
  rw [if_neg (by have := h.few; omega)]
  refine firstNZ_none fun x hx => ?_
  obtain ⟨v, hv, rfl⟩ := List.mem_map.1 hx
  exact (h.good v hv).1
theorem GoodR.fine {r : List Val} (h : GoodR r) : Fine r :=
  ⟨fun x hx => by have := good_size (h.good x hx).1; omega, fun x hx => (h.good x hx).2⟩
theorem fineV_of {l : List Cnt} (h : GoodA (av l)) : FineV l := ⟨fun c hc => (h.rises.good (c.r, c.n) (List.mem_map.2 ⟨c, hc, rfl⟩)).fine, fun c hc => by
    have := h.nums (c.r, c.n) (List.mem_map.2 ⟨c, hc, rfl⟩)
    simp only at this
    omega⟩
theorem chk_of {l : List Cnt} (h : GoodA (av l)) : chkV l = 0 := by
  have hlen : (av l).length = l.length := by unfold av; rw [List.length_map]
  have hf := h.few
  refine chk_good (by omega) fun j hj => ?_
  rw [List.take_of_length_le (by rw [List.length_range]; exact Nat.le_refl _), List.mem_range] at hj
  have hx : l[j]? = some l[j] := List.getElem?_eq_getElem hj
  have hxm : (l[j].r, l[j].n) ∈ av l := List.mem_map.2 ⟨l[j], List.getElem_mem hj, rfl⟩
  have hn := h.nums _ hxm
  simp only at hn
  have hok : okC l[j] = true := by
    unfold okC
    rw [goodR_err (h.rises.good _ hxm), btw_yes hn.1 hn.2]
    rfl
  cases j with
  | zero => rw [okAt_zero hx, hok]
  | succ k =>
    have hy : l[k]? = some l[k] := List.getElem?_eq_getElem (by omega)
    rw [okAt_succ hx hy, hok, Bool.true_and]
    refine decide_eq_true ?_
    have := List.pairwise_iff_getElem.1 h.rises.rise k (k + 1) (by omega) (by omega) (by omega)
    simpa [av] using this
theorem goodV_of {l : List Cnt} (h : GoodA (av l)) : GoodV l := chk_zero (fineV_of h) (chk_of h)
/-- Changes in form. -/
structure InForm (m : List Chn) : Prop where
  few : m.length ≤ 4096
  good : ∀ c ∈ m, GoodR c.r ∧ 1 ≤ c.k ∧ c.k ≤ 4
  next : ∀ i, kAt m i = 3 → kAt m (i + 1) = 4
  prev : ∀ i, kAt m i = 4 → ∃ j, i = j + 1 ∧ kAt m j = 3
theorem inForm {m : List Chn} (hf : FineC m) (h : formC m = 0) : InForm m := by
  have hg := form_zero hf h
  obtain ⟨h1, h2⟩ := form_errs h
  have hc : ∀ i c, m[i]? = some c → ¬ ((c.k = 3 ∧ kAt m (i + 1) ≠ 4) ∨ (c.k = 4 ∧ (i = 0 ∨ kAt m (i - 1) ≠ 3))) := by
    intro i c hc h6
    have hi : i < m.length := (List.getElem?_eq_some_iff.1 hc).1
    have hz := err_zero hc (h2 i hi)
    have := err_six hc hz.2.1 hz.2.2 hz.1 h6
    rw [h2 i hi] at this
    omega
  refine ⟨h1, hg.good, fun i hi => ?_, fun i hi => ?_⟩
  · cases hx : m[i]? with
    | none => simp [kAt, hx] at hi
    | some c =>
      rw [kAt_some hx] at hi
      exact Decidable.byContradiction fun h3 => hc i c hx (.inl ⟨hi, h3⟩)
  · cases hx : m[i]? with
    | none => simp [kAt, hx] at hi
    | some c =>
      rw [kAt_some hx] at hi
      cases i with
      | zero => exact absurd (.inr ⟨hi, .inl rfl⟩) (hc 0 c hx)
      | succ j => exact ⟨j, rfl, Decidable.byContradiction fun h3 => hc (j + 1) c hx (.inr ⟨hi, .inr h3⟩)⟩
theorem InForm.fine {m : List Chn} (h : InForm m) : FineC m := ⟨fun c hc => (h.good c hc).1.fine, fun c hc => by have := (h.good c hc).2; omega⟩
theorem InForm.form {m : List Chn} (h : InForm m) : formC m = 0 := by
  refine form_good (by have := h.few; omega) fun i hi => ?_
  have hx : m[i]? = some m[i] := List.getElem?_eq_getElem hi
  have hg := h.good m[i] (List.getElem_mem hi)
  refine err_no hx hg.2.1 hg.2.2 (goodR_err hg.1) ?_
  rintro (⟨a, b⟩ | ⟨a, b⟩)
  · exact b (h.next i (by rw [kAt_some hx, a]))
  · obtain ⟨j, e, hj⟩ := h.prev i (by rw [kAt_some hx, a])
    subst e
    rcases b with b | b
    · omega
    · exact b hj
/-- What the list of kinds and rows says of each place. -/
theorem kAt_ac (m : List Chn) (i : Nat) : kAt m i = match (ac m)[i]? with | some c => c.1 | none => 0 := by
  unfold kAt ac
  rw [List.getElem?_map]
  cases m[i]? <;> rfl
theorem ac_mem {m : List Chn} {c : Chn} (h : c ∈ m) : (c.k, c.r) ∈ ac m := List.mem_map.2 ⟨c, h, rfl⟩
theorem form_tell {D : AV} {m : List Chn} (hD : Rises D) (hm : ac m = tell D) (hl : m.length ≤ 4096) : InForm m := by
  have hall : ∀ c ∈ tell D, GoodR c.2 ∧ (c.1 = 1 ∨ c.1 = 2) := by
    intro c hc
    rcases List.mem_append.1 hc with hc | hc
    · obtain ⟨p, hp, hc⟩ := List.mem_flatMap.1 hc
      obtain ⟨-, rfl⟩ := List.mem_replicate.1 hc
      exact ⟨hD.good p hp, .inr rfl⟩
    · obtain ⟨p, hp, hc⟩ := List.mem_flatMap.1 hc
      obtain ⟨-, rfl⟩ := List.mem_replicate.1 hc
      exact ⟨hD.good p hp, .inl rfl⟩
  have hk : ∀ i, kAt m i = 0 ∨ kAt m i = 1 ∨ kAt m i = 2 := by
    intro i
    cases hx : m[i]? with
    | none => exact .inl (by simp [kAt, hx])
    | some c =>
      have := hall _ (hm ▸ ac_mem (List.mem_of_getElem? hx))
      rw [kAt_some hx]
      exact .inr this.2
  refine ⟨hl, fun c hc => ?_, fun i hi => ?_, fun i hi => ?_⟩
  · have := hall _ (hm ▸ ac_mem hc)
    simp only at this
    exact ⟨this.1, by omega, by omega⟩
  · have := hk i; omega
  · have := hk i; omega
theorem form_undo {m m' : List Chn} (h : InForm m) (e : ac m' = undoL (ac m)) : InForm m' := by
  have hl : m'.length = m.length := by have := congrArg List.length e; simpa [ac, undoL] using this
  have hat : ∀ i, i < m.length → kAt m' i = invK (kAt m (m.length - 1 - i)) ∧ 1 ≤ kAt m (m.length - 1 - i) ∧ kAt m (m.length - 1 - i) ≤ 4 := by
    intro i hi
    have hx : m[m.length - 1 - i]? = some m[m.length - 1 - i] := List.getElem?_eq_getElem (by omega)
    refine ⟨?_, ?_⟩
    · rw [kAt_ac, e, kAt_some hx]
      have : (undoL (ac m))[i]? = some (invK m[m.length - 1 - i].k, m[m.length - 1 - i].r) := by
        unfold undoL ac
        rw [List.getElem?_reverse (by simpa using hi)]
        simp only [List.length_map, List.getElem?_map, hx, Option.map_some]
      rw [this]
    · rw [kAt_some hx]; exact (h.good _ (List.getElem_mem _)).2
  have hin : ∀ i k, kAt m' i = k → k ≠ 0 → i < m.length := fun i k hk h0 => by
    refine Decidable.byContradiction fun hn => h0 ?_
    rw [← hk]
    exact kAt_none (by omega)
  have inv3 : ∀ k : Int, 1 ≤ k → k ≤ 4 → invK k = 3 → k = 4 := by
    intro k a b c
    unfold invK at c
    split at c
    · omega
    · split at c
      · omega
      · split at c <;> omega
  have inv4 : ∀ k : Int, 1 ≤ k → k ≤ 4 → invK k = 4 → k = 3 := by
    intro k a b c
    unfold invK at c
    split at c
    · omega
    · split at c
      · omega
      · split at c <;> omega
  refine ⟨by have := h.few; omega, fun c hc => ?_, fun i hi => ?_, fun i hi => ?_⟩
  · have h1 := e ▸ ac_mem hc
    unfold undoL at h1
    rw [List.mem_reverse, List.mem_map] at h1
    obtain ⟨d, hd, h1⟩ := h1
    injection h1 with h2 h3
    obtain ⟨x, hx, rfl⟩ := List.mem_map.1 hd
    have := h.good x hx
    simp only at h2 h3
    refine ⟨h3 ▸ this.1, ?_, ?_⟩ <;>
    · rw [← h2]; unfold invK; repeat' split
      all_goals omega
  · have hlt := hin i 3 hi (by omega)
    obtain ⟨a, b, c⟩ := hat i hlt
    have h4 := inv3 _ b c (a ▸ hi)
    obtain ⟨j, ej, hj⟩ := h.prev _ h4
    obtain ⟨a', -, -⟩ := hat (i + 1) (by omega)
    rw [a', show m.length - 1 - (i + 1) = j by omega, hj]
    rfl
  · have hlt := hin i 4 hi (by omega)
    obtain ⟨a, b, c⟩ := hat i hlt
    have h3 := inv4 _ b c (a ▸ hi)
    have hn := h.next _ h3
    have hlt2 : m.length - 1 - i + 1 < m.length := by
      refine Decidable.byContradiction fun hx => ?_
      rw [kAt_none (by omega)] at hn
      omega
    refine ⟨i - 1, by omega, ?_⟩
    obtain ⟨a', -, -⟩ := hat (i - 1) (by omega)
    rw [a', show m.length - 1 - (i - 1) = m.length - 1 - i + 1 by omega, hn]
    rfl
theorem form_cut {m : List Chn} {k : Nat} (h : InForm m) (hk : k ≤ m.length) (ht : formC (m.take k) = 0) : InForm (m.take k) ∧ InForm (m.drop k) := by
  have hft : FineC (m.take k) := ⟨fun c hc => h.fine.rows c (List.mem_of_mem_take hc), fun c hc => h.fine.nums c (List.mem_of_mem_take hc)⟩
  have hT := inForm hft ht
  have hd : ∀ i, kAt (m.drop k) i = kAt m (k + i) := fun i => by unfold kAt; rw [List.getElem?_drop]
  refine ⟨hT, by rw [List.length_drop]; have := h.few; omega, fun c hc => h.good c (List.mem_of_mem_drop hc), fun i hi => ?_, fun i hi => ?_⟩
  · rw [hd] at hi ⊢
    exact h.next _ hi
  · rw [hd] at hi
    obtain ⟨j, ej, hj⟩ := h.prev _ hi
    cases i with
    | zero =>
      exfalso
      have h3 : kAt (m.take k) j = 3 := by
        unfold kAt at hj ⊢
        rw [List.getElem?_take_of_lt (by omega)]
        exact hj
      have h4 := hT.next j h3
      rw [kAt_none (by rw [List.length_take]; omega)] at h4
      omega
    | succ i => exact ⟨i, rfl, by rw [hd, show k + i = j by omega]; exact hj⟩
end Go.Proofs.YtelmlagolmabpaaDoor
