/-
  Add, and the reference's AddTo. The reference's AddTo. The plain law of Fold. Changes of one's own; told's say. told. Net. Plain law of lists of rows and counts: what tells such a list; the difference of two; what is told of one, done to another. Groups: the keys of two maps, counted in a third. Plans: typesFine, form. Plans: form.
-/
import Derived.Test.YtblhidmkalleoaaGreatDoorGrpA7
import Derived.Test.YtblhidmkalleoaaGreatDoorChg11
import Derived.Test.YtblhidmkalleoaaGreatDoorGrpA3
import Derived.Test.YtblhidmkalleoaaGreatDoorGrpA5
set_option linter.unusedSimpArgs false
set_option linter.unusedVariables false
namespace Go.Proofs.YtblhidmkalleoaaGreatDoor
open Go.RowKit Go.Maps

theorem addR_rises {A : AV} {r : List Val} {n : Int} (h : Rises A) (hr : GoodR r) : Rises (addR A r n).1 := by
  unfold addR
  split
  · exact h
  · split
    · exact h
    · split
      · exact rises_del h
      · exact rises_put h hr
theorem putA_len (A : AV) (r : List Val) (n : Int) : (putA A r n).length ≤ A.length + 1 := by
  induction A with
  | nil => simp [putA]
  | cons x t ih =>
    obtain ⟨x, m⟩ := x
    unfold putA
    split
    · simp
    · split
      · simp; omega
      · simp
theorem delA_len (A : AV) (r : List Val) : (delA A r).length ≤ A.length := by
  induction A with
  | nil => simp [delA]
  | cons x t ih =>
    obtain ⟨x, m⟩ := x
    unfold delA
    split
    · simp
    · simp; omega
theorem look_num {A : AV} (r : List Val) (h : ∀ p ∈ A, 1 ≤ p.2 ∧ p.2 ≤ 1073741824) : 0 ≤ lookA A r ∧ lookA A r ≤ 1073741824 := by
  induction A with
  | nil => simp [lookA]
  | cons x t ih =>
    obtain ⟨x, m⟩ := x
    have := h (x, m) (by simp)
    have i := ih fun p hp => h p (by simp [hp])
    simp only at this
    unfold lookA
    split
    · omega
    · exact i

theorem View.nil (w : World) : View w (.slice none 0 0) [] := ⟨Sl.nil_ w, nofun⟩

end Go.Proofs.YtblhidmkalleoaaGreatDoor
namespace Go.Proofs.YtblhidmkalleoaaGreatDoor
open Go.RowKit Go.Maps


end Go.Proofs.YtblhidmkalleoaaGreatDoor
namespace Go.Proofs.YtblhidmkalleoaaGreatDoor
open Go.RowKit Go.Maps

/-- Changes, done one after the other: the view; the place of the first that cannot be done, and why. -/
def foldR : AV → Int → List (Int × List Val) → AV × Int × Int
  | A, _, [] => (A, 0, 0)
  | A, i, c :: t => if (addR A c.2 (stepI c.1)).2 = 0 then foldR (addR A c.2 (stepI c.1)).1 (i + 1) t else ([], i, (addR A c.2 (stepI c.1)).2)
def foldS (l : List Cnt) (m : List Chn) : AV × Int × Int :=
  if chkV l ≠ 0 then ([], 0, chkV l) else if formC m ≠ 0 then ([], 0, formC m) else foldR (av l) 0 (ac m)

theorem addR_ok {A : AV} {r : List Val} {n : Int} (h : (addR A r n).2 = 0) :
    0 ≤ lookA A r + n ∧ lookA A r + n ≤ 1073741824 ∧ ¬ (hasA A r = false ∧ 0 < lookA A r + n ∧ A.length = 4096) ∧
    (addR A r n).1 = if lookA A r + n = 0 then delA A r else putA A r (lookA A r + n) := by
  unfold addR at h ⊢
  by_cases h1 : lookA A r + n < 0
  · rw [if_pos h1] at h; simp at h
  · rw [if_neg h1] at h ⊢
    by_cases h2 : 1073741824 < lookA A r + n ∨ (hasA A r = false ∧ 0 < lookA A r + n ∧ A.length = 4096)
    · rw [if_pos h2] at h; simp at h
    · rw [if_neg h2]
      refine ⟨by omega, Int.not_lt.1 (fun h => h2 (.inl h)), fun h => h2 (.inr h), ?_⟩
      split <;> rfl
theorem put_mem2 {A : AV} {r : List Val} {n : Int} {p : List Val × Int} (h : p ∈ putA A r n) : p ∈ A ∨ p.2 = n := by
  induction A with
  | nil => simp [putA] at h; exact .inr (by rw [h])
  | cons x t ih =>
    obtain ⟨x, m⟩ := x
    unfold putA at h
    split at h
    · rcases List.mem_cons.1 h with rfl | h
      · exact .inr rfl
      · exact .inl (by simp [h])
    · split at h
      · rcases List.mem_cons.1 h with rfl | h
        · exact .inl (by simp)
        · rcases ih h with h | h
          · exact .inl (by simp [h])
          · exact .inr h
      · rcases List.mem_cons.1 h with rfl | h
        · exact .inr rfl
        · exact .inl h
theorem addR_nums {A : AV} {r : List Val} {n : Int} (h : ∀ p ∈ A, 1 ≤ p.2 ∧ p.2 ≤ 1073741824) (h0 : (addR A r n).2 = 0) : ∀ p ∈ (addR A r n).1, 1 ≤ p.2 ∧ p.2 ≤ 1073741824 := by
  obtain ⟨h1, h2, -, e⟩ := addR_ok h0
  rw [e]
  intro p hp
  split at hp
  · exact h p (del_mem hp)
  · rcases put_mem2 hp with hp | hp
    · exact h p hp
    · omega
theorem put_has_len {A : AV} {r : List Val} {n : Int} (h : Rises A) (hr : GoodR r) (hh : hasA A r = true) : (putA A r n).length = A.length := by
  induction A with
  | nil => simp [hasA] at hh
  | cons x t ih =>
    obtain ⟨x, m⟩ := x
    have hx : GoodR x := h.good (x, m) (by simp)
    unfold putA
    by_cases e : rowsF x r = 0
    · rw [if_pos e]; simp
    · rw [if_neg e]
      unfold hasA at hh
      have hh' : hasA t r = true := by simpa [e] using hh
      by_cases l : rowsF x r < 0
      · rw [if_pos l]; simp [ih h.tail hh']
      · exfalso
        have hlt : rowsF r x < 0 := by rw [rowsF_flip hx hr]; omega
        have : hasA t r = false := by
          have hno : ∀ p ∈ t, rowsF p.1 r ≠ 0 := fun p hp => by
            have := rowsF_trans hr hx (h.good p (by simp [hp])) hlt ((List.pairwise_cons.1 h.rise).1 p hp)
            have hf := rowsF_flip (h.good p (by simp [hp])) hr
            omega
          clear hh' hh ih h
          induction t with
          | nil => rfl
          | cons y t ih =>
            obtain ⟨y, c⟩ := y
            unfold hasA
            have := hno (y, c) (by simp)
            simp only at this
            simp [this, ih fun p hp => hno p (by simp [hp])]
        rw [this] at hh'
        cases hh'
theorem addR_few {A : AV} {r : List Val} {n : Int} (h : Rises A) (hr : GoodR r) (hl : A.length ≤ 4096) (h0 : (addR A r n).2 = 0) : (addR A r n).1.length ≤ 4096 := by
  obtain ⟨h1, h2, h3, e⟩ := addR_ok h0
  rw [e]
  split
  · have := delA_len A r; omega
  · cases hh : hasA A r with
    | true => rw [put_has_len h hr hh]; exact hl
    | false =>
      have := putA_len A r (lookA A r + n)
      by_cases h4 : A.length = 4096
      · exact absurd ⟨hh, by omega, h4⟩ h3
      · omega
/-- A right view, as a list. -/
structure GoodA (A : AV) : Prop where
  few : A.length ≤ 4096
  rises : Rises A
  nums : ∀ p ∈ A, 1 ≤ p.2 ∧ p.2 ≤ 1073741824
theorem GoodV.a {l : List Cnt} (h : GoodV l) : GoodA (av l) := ⟨by unfold av; rw [List.length_map]; exact h.few, h.rises, h.nums⟩
theorem GoodA.add {A : AV} {r : List Val} {n : Int} (h : GoodA A) (hr : GoodR r) (h0 : (addR A r n).2 = 0) : GoodA (addR A r n).1 :=
  ⟨addR_few h.rises hr h.few h0, addR_rises h.rises hr, addR_nums h.nums h0⟩

end Go.Proofs.YtblhidmkalleoaaGreatDoor
namespace Go.Proofs.YtblhidmkalleoaaGreatDoor
open Go.RowKit Go.Maps

theorem chgI : EInfo Tryz.prog 73 2 32 := by
  have h : (Tryz.prog.info? 73).map (fun i => (i.zero, i.size, i.bytes)) = some (some (.agg #[.int .i64 0, .slice none 0 0]), 2, 32) := by kernel_rfl
  obtain ⟨i, hi, h1, h2, h3⟩ := info_parts h
  exact ⟨i, _, hi, h1, h2, h3, rfl, by omega⟩
/-- Changes in a row of one's own, their rows too. -/
structure OwnC (w : World) (base : Nat) (v : Value) (l : List Chn) : Prop where
  own : w.ownsRow base 73 2 v l.length (chnCells l)
  rows : ∀ c ∈ l, Sl w c.v c.r.length (rowCells c.r)
  far : ∀ c ∈ l, ∀ k, c.v.ownBlock = some k → base ≤ k ∧ k < w.heap.size ∧ v.ownBlock ≠ some k
theorem OwnC.chs {w : World} {base : Nat} {v : Value} {l : List Chn} (h : OwnC w base v l) : Chs w v l := ⟨Sl.of_own h.own, h.rows⟩
theorem OwnC.below {w w' : World} {base : Nat} {v : Value} {l : List Chn} (h : OwnC w base v l) (hb : Below w.heap.size w w') : OwnC w' base v l :=
  ⟨own_below h.own hb, fun c hc => (h.rows c hc).below hb, fun c hc k hk => ⟨(h.far c hc k hk).1, Nat.lt_of_lt_of_le (h.far c hc k hk).2.1 hb.size, (h.far c hc k hk).2.2⟩⟩
theorem OwnC.alloc {w : World} {base : Nat} {v : Value} {l : List Chn} (h : OwnC w base v l) (o : Obj) : OwnC (w.alloc o) base v l := h.below (below_alloc w o)
theorem OwnC.drew {w : World} {base : Nat} {v : Value} {l : List Chn} (h : OwnC w base v l) : OwnC w.drew base v l := ⟨h.own, h.rows, h.far⟩
theorem OwnC.nil (w : World) (base : Nat) : OwnC w base (.slice none 0 0) [] := ⟨⟨rfl, .inl ⟨rfl, rfl⟩⟩, nofun, nofun⟩
theorem chnCells_app (a b : List Chn) : chnCells (a ++ b) = chnCells a ++ chnCells b := List.flatMap_append
theorem OwnC.snoc {w w' : World} {base : Nat} {v v' : Value} {l : List Chn} {c : Chn} (h : OwnC w base v l) (hown : w'.ownsRow base 73 2 v' (l.length + 1) (chnCells l ++ c.cells)) (hg : w.grownBy w' v.ownBlock) (hat : v'.ownBlock = v.ownBlock ∨ v'.ownBlock = some w.heap.size)
    (hc : Sl w c.v c.r.length (rowCells c.r)) (hf : ∀ k, c.v.ownBlock = some k → base ≤ k ∧ k < w.heap.size ∧ v.ownBlock ≠ some k) : OwnC w' base v' (l ++ [c]) := by
  have hfar : ∀ d ∈ l ++ [c], Sl w d.v d.r.length (rowCells d.r) ∧ ∀ k, d.v.ownBlock = some k → base ≤ k ∧ k < w.heap.size ∧ v.ownBlock ≠ some k := by
    intro d hd
    rcases List.mem_append.1 hd with hd | hd
    · exact ⟨h.rows d hd, h.far d hd⟩
    · simp only [List.mem_singleton] at hd; subst hd; exact ⟨hc, hf⟩
  refine ⟨?_, fun d hd => sl_grown (hfar d hd).1 hg (fun k hk => ((hfar d hd).2 k hk).2.2), fun d hd k hk => ?_⟩
  · rw [chnCells_app, List.length_append]
    simpa [chnCells] using hown
  · obtain ⟨h0, h1, h2⟩ := (hfar d hd).2 k hk
    refine ⟨h0, Nat.lt_of_lt_of_le h1 hg.size, fun e => ?_⟩
    rcases hat with e' | e'
    · exact h2 (e' ▸ e)
    · rw [e'] at e
      injection e with e
      omega
theorem OwnC.set {w : World} {base : Nat} {v : Value} {l : List Chn} (h : OwnC w base v l) {p : Addr} (hp : p.block < base) (u : Value) : OwnC (w.setCell p u) base v l :=
  ⟨own_set h.own (fun k hk e => by have := own_ge h.own k hk; omega) u, fun c hc => sl_set (h.rows c hc) (fun _ k hk e => by have := (h.far c hc k hk).1; omega) u,
   fun c hc k hk => by have := h.far c hc k hk; rw [World.size_setCell]; exact this⟩
theorem one_chn (W : World) (c : Chn) : Sl (W.alloc (.cells #[.int .i64 c.k, c.v] 73)) (.slice (some ⟨W.heap.size, 0, none⟩) 1 1) 1 c.cells := Sl.block (Blk.new W 73 #[.int .i64 c.k, c.v]) 1 1 (Nat.le_refl _) (by decide)
theorem chn_one {w : World} {c : Chn} {n : Nat} {cs : List Value} (h : Sl w c.v n cs) : ∀ u ∈ c.cells, u.oneCell' = true := by
  obtain ⟨A, k, hv, -⟩ := h
  intro u hu
  simp [Chn.cells] at hu
  rcases hu with rfl | rfl
  · rfl
  · rw [hv]; rfl
end Go.Proofs.YtblhidmkalleoaaGreatDoor
namespace Go.Proofs.YtblhidmkalleoaaGreatDoor
open Go.RowKit Go.Maps

abbrev KL := List (Int × List Val)
def dels (A : AV) : KL := A.flatMap fun p => List.replicate (-p.2).toNat (2, p.1)
def inss (A : AV) : KL := A.flatMap fun p => List.replicate p.2.toNat (1, p.1)
def tell (A : AV) : KL := dels A ++ inss A
def toldS (A : AV) : KL × Bool := if (tell A).length ≤ 4096 then (tell A, true) else ([], false)
theorem ac_len (l : List Chn) : (ac l).length = l.length := by unfold ac; rw [List.length_map]

end Go.Proofs.YtblhidmkalleoaaGreatDoor
namespace Go.Proofs.YtblhidmkalleoaaGreatDoor
open Go.RowKit Go.Maps

end Go.Proofs.YtblhidmkalleoaaGreatDoor
namespace Go.Proofs.YtblhidmkalleoaaGreatDoor
open Go.RowKit Go.Maps

instance valDec : DecidableEq Val := fun a b =>
  if h : a.k = b.k ∧ a.n = b.n ∧ a.s = b.s then isTrue (by cases a; cases b; simp at h; obtain ⟨rfl, rfl, rfl⟩ := h; rfl) else isFalse (by rintro rfl; simp at h)
theorem rowsF_gt {a b : List Val} (ha : GoodR a) (hb : GoodR b) (h0 : ¬ rowsF a b = 0) (h1 : ¬ rowsF a b < 0) : rowsF b a < 0 := by rw [rowsF_flip ha hb]; omega
theorem Rises.head {x : List Val} {m : Int} {t : AV} (h : Rises ((x, m) :: t)) : GoodR x ∧ ∀ p ∈ t, rowsF x p.1 < 0 := ⟨h.good (x, m) (by simp), (List.pairwise_cons.1 h.rise).1⟩
theorem look_cons {x : List Val} {m : Int} {t : AV} {r : List Val} : lookA ((x, m) :: t) r = if rowsF x r = 0 then m else lookA t r := rfl
theorem has_cons {x : List Val} {m : Int} {t : AV} {r : List Val} : hasA ((x, m) :: t) r = (decide (rowsF x r = 0) || hasA t r) := rfl
theorem look_good {x : List Val} {m : Int} {t : AV} {r : List Val} (hx : GoodR x) (hr : GoodR r) : lookA ((x, m) :: t) r = if x = r then m else lookA t r := by
  rw [look_cons]
  by_cases e : x = r
  · rw [if_pos e, if_pos ((rowsF_zero hx hr).2 e)]
  · rw [if_neg e, if_neg fun h => e ((rowsF_zero hx hr).1 h)]
theorem has_good {x : List Val} {m : Int} {t : AV} {r : List Val} (hx : GoodR x) (hr : GoodR r) : hasA ((x, m) :: t) r = (decide (x = r) || hasA t r) := by
  rw [has_cons]
  by_cases e : x = r
  · rw [decide_eq_true e, decide_eq_true ((rowsF_zero hx hr).2 e)]
  · rw [decide_eq_false e, decide_eq_false fun h => e ((rowsF_zero hx hr).1 h)]
/-- A row that is less than all others is not there. -/
theorem look_less {A : AV} {r : List Val} (hA : Rises A) (hr : GoodR r) (h : ∀ p ∈ A, rowsF r p.1 < 0) : lookA A r = 0 ∧ hasA A r = false := by
  have := look_more (A := A) (r := r) fun p hp => by rw [rowsF_flip hr (hA.good p hp)]; have := h p hp; omega
  exact ⟨this.1, this.2.1⟩
theorem look_head {x : List Val} {m : Int} {t : AV} (h : Rises ((x, m) :: t)) : lookA t x = 0 ∧ hasA t x = false := look_less h.tail h.head.1 h.head.2
theorem has_no_look {A : AV} {r : List Val} (h : hasA A r = false) : lookA A r = 0 := by
  induction A with
  | nil => rfl
  | cons x t ih =>
    obtain ⟨x, m⟩ := x
    rw [has_cons] at h
    simp only [Bool.or_eq_false_iff, decide_eq_false_iff_not] at h
    rw [look_cons, if_neg h.1, ih h.2]
theorem has_mem {A : AV} {p : List Val × Int} (hA : Rises A) (h : p ∈ A) : hasA A p.1 = true := by
  induction A with
  | nil => cases h
  | cons x t ih =>
    obtain ⟨x, m⟩ := x
    rw [has_cons]
    rcases List.mem_cons.1 h with rfl | h
    · rw [decide_eq_true (rowsF_self hA.head.1)]; rfl
    · rw [ih hA.tail h, Bool.or_true]
theorem look_mem {A : AV} {p : List Val × Int} (hA : Rises A) (h : p ∈ A) : lookA A p.1 = p.2 := by
  obtain ⟨i, hi, rfl⟩ := List.mem_iff_getElem.1 h
  exact look_at hA (List.getElem?_eq_getElem hi)
theorem has_some {A : AV} {r : List Val} (hA : Rises A) (hr : GoodR r) (h : hasA A r = true) : (r, lookA A r) ∈ A := by
  induction A with
  | nil => cases h
  | cons x t ih =>
    obtain ⟨x, m⟩ := x
    rw [has_cons] at h
    rw [look_cons]
    by_cases e : rowsF x r = 0
    · rw [if_pos e, (rowsF_zero hA.head.1 hr).1 e]; simp
    · rw [if_neg e]
      rw [decide_eq_false e, Bool.false_or] at h
      exact List.mem_cons_of_mem _ (ih hA.tail h)
theorem look_put {A : AV} {x r : List Val} {n : Int} (hA : Rises A) (hx : GoodR x) (hr : GoodR r) : lookA (putA A x n) r = if x = r then n else lookA A r := by
  induction A with
  | nil => rw [putA, look_good hx hr]
  | cons y t ih =>
    obtain ⟨y, m⟩ := y
    have hy := hA.head.1
    unfold putA
    by_cases e : rowsF y x = 0
    · rw [if_pos e]
      obtain rfl := (rowsF_zero hy hx).1 e
      rw [look_good hy hr, look_good hy hr]
      split <;> rfl
    · rw [if_neg e]
      split
      · rw [look_good hy hr, look_good hy hr, ih hA.tail]
        by_cases e1 : y = r
        · subst e1
          rw [if_pos rfl, if_pos rfl, if_neg fun h => e ((rowsF_zero hy hx).2 h.symm)]
        · rw [if_neg e1, if_neg e1]
      · rw [look_good hx hr]
theorem has_put {A : AV} {x r : List Val} {n : Int} (hA : Rises A) (hx : GoodR x) (hr : GoodR r) : hasA (putA A x n) r = (decide (x = r) || hasA A r) := by
  induction A with
  | nil => rw [putA, has_good hx hr]
  | cons y t ih =>
    obtain ⟨y, m⟩ := y
    have hy := hA.head.1
    unfold putA
    by_cases e : rowsF y x = 0
    · rw [if_pos e]
      obtain rfl := (rowsF_zero hy hx).1 e
      rw [has_good hy hr, has_good hy hr]
      cases decide (y = r) <;> simp
    · rw [if_neg e]
      split
      · rw [has_cons, has_cons, ih hA.tail]
        cases decide (x = r) <;> simp
      · rw [has_good hx hr]
/-- Two rising lists that answer alike are one. -/
theorem rises_ext {P Q : AV} (hP : Rises P) (hQ : Rises Q) (h : ∀ r, GoodR r → hasA P r = hasA Q r ∧ lookA P r = lookA Q r) : P = Q := by
  induction P generalizing Q with
  | nil =>
    cases Q with
    | nil => rfl
    | cons q t => have := (h q.1 (hQ.good q (by simp))).1; rw [has_mem hQ (by simp)] at this; cases this
  | cons p t ih =>
    cases Q with
    | nil => have := (h p.1 (hP.good p (by simp))).1; rw [has_mem hP (by simp)] at this; cases this
    | cons q u =>
      obtain ⟨p, m⟩ := p
      obtain ⟨q, n⟩ := q
      have hp := hP.head.1
      have hq := hQ.head.1
      by_cases e : rowsF p q = 0
      · obtain rfl := (rowsF_zero hp hq).1 e
        have h1 := (h p hp).2
        rw [look_cons, look_cons, if_pos e, if_pos e] at h1
        subst h1
        congr 1
        refine ih hP.tail hQ.tail fun r hr => ?_
        have h2 := h r hr
        rw [look_good hp hr, look_good hp hr, has_good hp hr, has_good hp hr] at h2
        by_cases e1 : p = r
        · subst e1
          rw [(look_head hP).1, (look_head hQ).1, (look_head hP).2, (look_head hQ).2]
          exact ⟨rfl, rfl⟩
        · simp only [e1, decide_false, Bool.false_or, if_false] at h2
          exact h2
      · exfalso
        by_cases l : rowsF p q < 0
        · have h1 := (h p hp).1
          rw [has_mem hP (p := (p, m)) (by simp), (look_less hQ hp fun x hx => ?_).2] at h1
          · cases h1
          · rcases List.mem_cons.1 hx with rfl | hx
            · exact l
            · exact rowsF_trans hp hq (hQ.good x (by simp [hx])) l (hQ.head.2 x hx)
        · have l' := rowsF_gt hp hq e l
          have h1 := (h q hq).1
          rw [has_mem hQ (p := (q, n)) (by simp), (look_less hP hq fun x hx => ?_).2] at h1
          · cases h1
          · rcases List.mem_cons.1 hx with rfl | hx
            · exact l'
            · exact rowsF_trans hq hp (hP.good x (by simp [hx])) l' (hP.head.2 x hx)
/-- Right views that answer alike are one. -/
theorem GoodA.has {A : AV} (h : GoodA A) {r : List Val} (hr : GoodR r) : hasA A r = decide (lookA A r ≠ 0) := by
  cases hh : hasA A r with
  | false => rw [has_no_look hh]; rfl
  | true => have := h.nums _ (has_some h.rises hr hh); simp only at this; exact (decide_eq_true (by omega)).symm
/-- Entries that are nothing are not told. -/
def nz (A : AV) : AV := A.filter fun p => p.2 != 0
theorem dels_nz (A : AV) : dels (nz A) = dels A := by
  induction A with
  | nil => rfl
  | cons p t ih =>
    have e1 : dels (p :: t) = List.replicate (-p.2).toNat (2, p.1) ++ dels t := rfl
    rw [e1, nz, List.filter_cons]
    by_cases h : p.2 = 0
    · rw [if_neg (by simp [h])]
      rw [h]
      exact ih
    · rw [if_pos (by simp [h])]
      show List.replicate (-p.2).toNat (2, p.1) ++ dels (nz t) = _
      rw [ih]
theorem inss_nz (A : AV) : inss (nz A) = inss A := by
  induction A with
  | nil => rfl
  | cons p t ih =>
    have e1 : inss (p :: t) = List.replicate p.2.toNat (1, p.1) ++ inss t := rfl
    rw [e1, nz, List.filter_cons]
    by_cases h : p.2 = 0
    · rw [if_neg (by simp [h])]
      rw [h]
      exact ih
    · rw [if_pos (by simp [h])]
      show List.replicate p.2.toNat (1, p.1) ++ inss (nz t) = _
      rw [ih]
theorem rises_nz {A : AV} (h : Rises A) : Rises (nz A) := ⟨fun p hp => h.good p (List.mem_filter.1 hp).1, h.rise.sublist List.filter_sublist⟩
theorem look_nz {A : AV} {r : List Val} (h : Rises A) (hr : GoodR r) : lookA (nz A) r = lookA A r ∧ hasA (nz A) r = decide (lookA A r ≠ 0) := by
  cases hh : hasA (nz A) r with
  | true =>
    have h1 := List.mem_filter.1 (has_some (rises_nz h) hr hh)
    have h2 := look_mem h h1.1
    have h3 := h1.2
    simp only [bne_iff_ne, ne_eq] at h2 h3
    exact ⟨h2.symm, (decide_eq_true (by rw [h2]; exact h3)).symm⟩
  | false =>
    rw [has_no_look hh]
    by_cases h0 : lookA A r = 0
    · exact ⟨h0.symm, by simp [h0]⟩
    · exfalso
      have h1 : hasA A r = true := by
        cases h1 : hasA A r with
        | true => rfl
        | false => exact absurd (has_no_look h1) h0
      have := has_mem (rises_nz h) (List.mem_filter.2 ⟨has_some h hr h1, by simp [h0]⟩)
      simp only at this
      rw [hh] at this
      cases this
theorem tell_ext {P Q : AV} (hP : Rises P) (hQ : Rises Q) (h : ∀ r, GoodR r → lookA P r = lookA Q r) : tell P = tell Q := by
  have : nz P = nz Q := rises_ext (rises_nz hP) (rises_nz hQ) fun r hr => by
    obtain ⟨a, b⟩ := look_nz hP hr
    obtain ⟨c, d⟩ := look_nz hQ hr
    rw [a, b, c, d, h r hr]
    exact ⟨rfl, rfl⟩
  rw [tell, tell, ← dels_nz P, ← inss_nz P, this, dels_nz, inss_nz]
theorem told_ext {P Q : AV} (hP : Rises P) (hQ : Rises Q) (h : ∀ r, GoodR r → lookA P r = lookA Q r) : toldS P = toldS Q := by
  rw [toldS, toldS, tell_ext hP hQ h]

/-- How much more often each row is in B than in A. -/
def mergeD : AV → AV → AV
  | [], B => B
  | A, [] => A.map fun p => (p.1, -p.2)
  | (a, m) :: A, (b, n) :: B =>
    if rowsF a b < 0 then (a, -m) :: mergeD A ((b, n) :: B) else if rowsF a b = 0 then (a, n - m) :: mergeD A B else (b, n) :: mergeD ((a, m) :: A) B
termination_by A B => A.length + B.length
theorem merge_nil (A : AV) : mergeD A [] = A.map fun p => (p.1, -p.2) := by cases A <;> simp [mergeD]
theorem merge_nil' (B : AV) : mergeD [] B = B := by simp [mergeD]
theorem neg_look (A : AV) (r : List Val) : lookA (A.map fun p => (p.1, -p.2)) r = - lookA A r := by
  induction A with
  | nil => rfl
  | cons x t ih => obtain ⟨x, m⟩ := x; rw [List.map_cons, look_cons, look_cons, ih]; split <;> rfl
theorem neg_rises {A : AV} (h : Rises A) : Rises (A.map fun p => (p.1, -p.2)) := ⟨fun p hp => by
    obtain ⟨q, hq, rfl⟩ := List.mem_map.1 hp
    exact h.good q hq, by
    rw [List.pairwise_map]
    exact h.rise⟩
theorem merge_mem (A B : AV) : ∀ p ∈ mergeD A B, (∃ m, (p.1, m) ∈ A) ∨ ∃ m, (p.1, m) ∈ B := by
  induction A, B using mergeD.induct with
  | case1 B => intro p hp; rw [merge_nil'] at hp; exact .inr ⟨p.2, hp⟩
  | case2 A h =>
    intro p hp
    rw [merge_nil] at hp
    obtain ⟨q, hq, rfl⟩ := List.mem_map.1 hp
    exact .inl ⟨q.2, hq⟩
  | case3 a m A b n B h ih =>
    intro p hp
    rw [mergeD, if_pos h] at hp
    rcases List.mem_cons.1 hp with rfl | hp
    · exact .inl ⟨m, by simp⟩
    · rcases ih p hp with ⟨k, hk⟩ | ⟨k, hk⟩
      · exact .inl ⟨k, by simp [hk]⟩
      · exact .inr ⟨k, hk⟩
  | case4 a m A b n B h h' ih =>
    intro p hp
    rw [mergeD, if_neg h, if_pos h'] at hp
    rcases List.mem_cons.1 hp with rfl | hp
    · exact .inl ⟨m, by simp⟩
    · rcases ih p hp with ⟨k, hk⟩ | ⟨k, hk⟩
      · exact .inl ⟨k, by simp [hk]⟩
      · exact .inr ⟨k, by simp [hk]⟩
  | case5 a m A b n B h h' ih =>
    intro p hp
    rw [mergeD, if_neg h, if_neg h'] at hp
    rcases List.mem_cons.1 hp with rfl | hp
    · exact .inr ⟨n, by simp⟩
    · rcases ih p hp with ⟨k, hk⟩ | ⟨k, hk⟩
      · exact .inl ⟨k, hk⟩
      · exact .inr ⟨k, by simp [hk]⟩
theorem Rises.cons {x : List Val} {m : Int} {t : AV} (hx : GoodR x) (h : Rises t) (hl : ∀ p ∈ t, rowsF x p.1 < 0) : Rises ((x, m) :: t) :=
  ⟨fun p hp => by
    rcases List.mem_cons.1 hp with rfl | hp
    · exact hx
    · exact h.good p hp, List.pairwise_cons.2 ⟨hl, h.rise⟩⟩
theorem merge_rises {A B : AV} (hA : Rises A) (hB : Rises B) : Rises (mergeD A B) := by
  induction A, B using mergeD.induct with
  | case1 B => rw [merge_nil']; exact hB
  | case2 A h => rw [merge_nil]; exact neg_rises hA
  | case3 a m A b n B h ih =>
    rw [mergeD, if_pos h]
    refine Rises.cons hA.head.1 (ih hA.tail hB) fun p hp => ?_
    rcases merge_mem _ _ p hp with ⟨k, hk⟩ | ⟨k, hk⟩
    · exact hA.head.2 (p.1, k) hk
    · rcases List.mem_cons.1 hk with e | hk
      · injection e with e1 _; rw [e1]; exact h
      · exact rowsF_trans hA.head.1 hB.head.1 (hB.good (p.1, k) (by simp [hk])) h (hB.head.2 (p.1, k) hk)
  | case4 a m A b n B h h' ih =>
    rw [mergeD, if_neg h, if_pos h']
    obtain rfl := (rowsF_zero hA.head.1 hB.head.1).1 h'
    refine Rises.cons hA.head.1 (ih hA.tail hB.tail) fun p hp => ?_
    rcases merge_mem _ _ p hp with ⟨k, hk⟩ | ⟨k, hk⟩
    · exact hA.head.2 (p.1, k) hk
    · exact hB.head.2 (p.1, k) hk
  | case5 a m A b n B h h' ih =>
    rw [mergeD, if_neg h, if_neg h']
    have l := rowsF_gt hA.head.1 hB.head.1 h' h
    refine Rises.cons hB.head.1 (ih hA hB.tail) fun p hp => ?_
    rcases merge_mem _ _ p hp with ⟨k, hk⟩ | ⟨k, hk⟩
    · rcases List.mem_cons.1 hk with e | hk
      · injection e with e1 _; rw [e1]; exact l
      · exact rowsF_trans hB.head.1 hA.head.1 (hA.good (p.1, k) (by simp [hk])) l (hA.head.2 (p.1, k) hk)
    · exact hB.head.2 (p.1, k) hk
theorem merge_look {A B : AV} (hA : Rises A) (hB : Rises B) {r : List Val} (hr : GoodR r) : lookA (mergeD A B) r = lookA B r - lookA A r := by
  induction A, B using mergeD.induct with
  | case1 B => rw [merge_nil']; simp [lookA]
  | case2 A h => rw [merge_nil, neg_look]; simp [lookA]
  | case3 a m A b n B h ih =>
    rw [mergeD, if_pos h, look_good hA.head.1 hr, look_good (x := a) hA.head.1 hr, ih hA.tail hB]
    by_cases e : a = r
    · subst e
      rw [if_pos rfl, if_pos rfl, (look_less hB hA.head.1 fun x hx => ?_).1]
      · omega
      · rcases List.mem_cons.1 hx with rfl | hx
        · exact h
        · exact rowsF_trans hA.head.1 hB.head.1 (hB.good x (by simp [hx])) h (hB.head.2 x hx)
    · rw [if_neg e, if_neg e]
  | case4 a m A b n B h h' ih =>
    rw [mergeD, if_neg h, if_pos h', look_cons, look_cons, look_cons, ih hA.tail hB.tail]
    obtain rfl := (rowsF_zero hA.head.1 hB.head.1).1 h'
    split <;> rfl
  | case5 a m A b n B h h' ih =>
    have l := rowsF_gt hA.head.1 hB.head.1 h' h
    rw [mergeD, if_neg h, if_neg h', look_good hB.head.1 hr, look_good (x := b) hB.head.1 hr, ih hA hB.tail]
    by_cases e : b = r
    · subst e
      rw [if_pos rfl, if_pos rfl, (look_less hA hB.head.1 fun x hx => ?_).1]
      · omega
      · rcases List.mem_cons.1 hx with rfl | hx
        · exact l
        · exact rowsF_trans hB.head.1 hA.head.1 (hA.good x (by simp [hx])) l (hA.head.2 x hx)
    · rw [if_neg e, if_neg e]
end Go.Proofs.YtblhidmkalleoaaGreatDoor
namespace Go.Proofs.YtblhidmkalleoaaGreatDoor
open Go.RowKit Go.Maps

/-- C counts the keys of C0, and those of A that are not left. -/
structure KP (A C0 C : AV) (left : Lit → Bool) (m : Int) : Prop where
  rises : Rises C
  has : ∀ r, GoodR r → hasA C r = (hasA C0 r || (hasA A r && !left (kOf r)))
  look : ∀ r, GoodR r → 0 ≤ lookA C r ∧ lookA C r ≤ m
theorem KP.start {A C0 : AV} {m : Int} (hA : Rises A) (hC : Rises C0) (hm : ∀ r, GoodR r → 0 ≤ lookA C0 r ∧ lookA C0 r ≤ m) : KP A C0 C0 (Maps.has (mkD A)) m := ⟨hC, fun r hr => by
  rw [mkD_has hA.good hr]
  cases hasA A r <;> simp, hm⟩
theorem KP.step {A C0 C : AV} {left : Lit → Bool} {m : Int} {p : List Val × Int} (h : KP A C0 C left m) (hA : Rises A) (hp : p ∈ A) (hh : hasA A p.1 = true) : KP A C0 (putA C p.1 (lookA C p.1 + 1)) (fun z => left z && !z.sameKey (kOf p.1)) (m + 1) := by
  have hg := hA.good p hp
  refine ⟨rises_put h.rises hg, fun r hr => ?_, fun r hr => ?_⟩
  · rw [has_put h.rises hg hr, h.has r hr, kOf_same hr hg, show (decide (rowsF r p.1 = 0)) = decide (r = p.1) from decide_eq_decide.2 (rowsF_zero hr hg)]
    by_cases e : p.1 = r
    · subst e
      rw [hh]; simp
    · have e' : ¬ r = p.1 := fun h => e h.symm
      simp [e, e']
  · rw [look_put h.rises hg hr]
    have h1 := h.look r hr
    have h2 := h.look p.1 hg
    split <;> omega
theorem KP.done {A C0 C : AV} {left : Lit → Bool} {m : Int} (h : KP A C0 C left m) (hl : ∀ kl, left kl = false) : ∀ r, GoodR r → hasA C r = (hasA C0 r || hasA A r) := fun r hr => by rw [h.has r hr, hl]; simp
end Go.Proofs.YtblhidmkalleoaaGreatDoor
namespace Go.Proofs.YtblhidmkalleoaaGreatDoor
open Go.RowKit Go.Maps

/-- The numbers in a plan's lists are of 64 bits. -/
def I64 (l : List Int) : Prop := ∀ x ∈ l, -9223372036854775808 ≤ x ∧ x ≤ 9223372036854775807
structure Pl.fit (p : Pl) : Prop where
  l : I64 p.left
  r : I64 p.right
  k : I64 p.lkeys
  q : I64 p.rkeys
  g : I64 p.group
  a : ∀ x ∈ p.aggs, (-9223372036854775808 ≤ x.1 ∧ x.1 ≤ 9223372036854775807) ∧ (-9223372036854775808 ≤ x.2 ∧ x.2 ≤ 9223372036854775807)
/-- The lists' lengths that counts lets by. -/
structure Pl.short (p : Pl) : Prop where
  l1 : 1 ≤ p.left.length
  l2 : p.left.length ≤ 4
  r1 : 1 ≤ p.right.length
  r2 : p.right.length ≤ 4
  k1 : 1 ≤ p.lkeys.length
  k2 : p.lkeys.length ≤ 4
  q1 : 1 ≤ p.rkeys.length
  q2 : p.rkeys.length ≤ 4
  g : p.group.length ≤ 8
  a : p.aggs.length ≤ 4

def typesB (p : Pl) : Bool := allB (fun n => btw n 1 3) (p.left ++ p.right)

theorem two_sl (W : World) (u v : Value) : Sl (W.alloc (.cells #[u, v] 22)) (.slice (some ⟨W.heap.size, 0, none⟩) 2 2) 2 [u, v] := Sl.block (Blk.new W 22 #[u, v]) 2 2 (Nat.le_refl _) (by decide)
theorem two_sl1 (w : World) (o : Obj) (u v : Value) : Sl ((w.alloc o).alloc (.cells #[u, v] 22)) (.slice (some ⟨w.heap.size + 1, 0, none⟩) 2 2) 2 [u, v] := by
  have := two_sl (w.alloc o) u v
  rwa [World.size_alloc] at this

set_option maxHeartbeats 2000000 in
set_option maxRecDepth 10000 in
theorem typesFine_any (p : Pl) (w : World) (h : p.ok w) (hs : p.short) :
    Calls Tryz.prog 132 #[.agg #[.int .i64 p.kind, .int .i64 p.mode, .int .i64 p.low, .int .i64 p.high, .int .i64 p.size, .int .i64 p.limit, p.vl, p.vr, p.vk, p.vq, .bool p.grouped, p.vg, p.va]] w fun e w' => e = .returned (.bool (typesB p)) ∧ Below w.heap.size w w' := by
  have HL := Lib.hid h.l
  have HR := Lib.hid h.r
  have hB := below_trans (below_alloc w (.cells #[.int .i64 p.kind, .int .i64 p.mode, .int .i64 p.low, .int .i64 p.high, .int .i64 p.size, .int .i64 p.limit, p.vl, p.vr, p.vk, p.vq, .bool p.grouped, p.vg, p.va] 25)) (below_alloc _ (.cells #[p.vl, p.vr] 22))
  have HT := Lib.hid (two_sl1 w (.cells #[.int .i64 p.kind, .int .i64 p.mode, .int .i64 p.low, .int .i64 p.high, .int .i64 p.size, .int .i64 p.limit, p.vl, p.vr, p.vk, p.vq, .bool p.grouped, p.vg, p.va] 25) p.vl p.vr)
  have E : Hid (typesB p = allB (fun n => btw n 1 3) (p.left ++ p.right)) := Lib.hid rfl
  obtain ⟨l1, l2, r1, r2, -⟩ := hs
  clear h
  generalize typesB p = R at E ⊢
  obtain ⟨kind, mode, low, high, size, limit, vl, vr, vk, vq, grouped, vg, va, left, right, lkeys, rkeys, group, aggs⟩ := p
  simp only at HL HR hB HT E l1 l2 r1 r2 ⊢
  obtain ⟨A0, c0, rfl, -⟩ := id HL.out
  obtain ⟨A1, c1, rfl, -⟩ := id HR.out
  go_enter Tryz.func132, Tryz.ntmps132
  go_wp2_with fail
  refine (concat_any _ _ _ left right _ HT.out (HL.out.below hB) (HR.out.below hB) (by omega) (by omega)).mono ?_
  rintro e w1 ⟨v1, rfl, hs1, -, hb1⟩
  have HS1 := Lib.hid hs1
  have hB1 := below_trans hB hb1
  clear hs1 hb1
  go_wp2_with fail
  refine (allTypes_any v1 (left ++ right) _ HS1.out).mono ?_
  rintro e w2 ⟨rfl, rfl⟩
  go_wp2
  go_ret
  exact ⟨ret_bool E.out.symm, hB1⟩

/-! ### form -/
def aggOk (t : List Int) (a : Int × Int) : Bool := if a.1 = 1 then a.2 == 0 else btw a.2 0 ((t.length : Int) - 1) && (a.1 != 2 || t.getD a.2.toNat 0 == 2)

set_option maxHeartbeats 2000000 in
set_option maxRecDepth 10000 in
theorem formOne_any (a : Int × Int) (t : List Int) (vt : Value) (bt : Nat) (w : World) (K : Blk w bt 22 #[vt]) (ht : Sl w vt t.length (intCells t)) (hl : t.length ≤ 1000) :
    Calls Tryz.prog 189 #[.agg #[.int .i64 a.1, .int .i64 a.2], .pointer (some ⟨bt, 0, none⟩)] w fun e w' => e = .returned (.bool (aggOk t a)) ∧ Below w.heap.size w w' := by
  obtain ⟨f, c⟩ := a
  have HH := Lib.hid ht
  obtain ⟨A, cc, rfl, q1, q2, -⟩ := ht
  unfold maxLen at q2
  have z := (K.alloc (.cells #[.int .i64 f, .int .i64 c] 106)).cell 0 _ rfl
  simp only
  by_cases h1 : f = 1
  · have hb := beqT h1
    have E : Hid (aggOk t (f, c) = (c == 0)) := Lib.hid (if_pos h1)
    clear h1
    go_enter Tryz.func189, Tryz.ntmps189
    go_wp2
    go_ret
    exact ⟨ret_bool E.out.symm, below_alloc _ _⟩
  · have hb := beqF h1
    have E : Hid (aggOk t (f, c) = (btw c 0 ((t.length : Int) - 1) && (f != 2 || t.getD c.toNat 0 == 2))) := Lib.hid (if_neg h1)
    clear h1
    cases h2 : btw c 0 ((t.length : Int) - 1)
    · have R := Lib.hid (E.out.trans (by rw [h2]))
      go_enter Tryz.func189, Tryz.ntmps189
      go_wp2_with (go_at_call 183; refine (between_any _ _ _ _).mono ?_; rintro e w' ⟨rfl, rfl⟩)
      go_ret
      exact ⟨ret_bool (by rw [R.out]; rfl), below_alloc _ _⟩
    · obtain ⟨b1, b2⟩ := btw_of h2
      obtain ⟨m, rfl⟩ : ∃ m : Nat, c = m := ⟨c.toNat, by omega⟩
      have hm : m < t.length := by omega
      obtain ⟨g, off, rfl, -, hc⟩ := int_at HH.out rfl hm
      have c1 := hc _ (below_alloc w (.cells #[.int .i64 f, .int .i64 (m : Int)] 106))
      have hmn : ((m : Int)).toNat = m := by omega
      rw [hmn] at E
      generalize t.getD m 0 = y at c1 E
      clear hc hmn
      cases h3 : (f == 2)
      · have g3 := bne_of h3
        simp only [Bool.not_false] at g3
        have R := Lib.hid (E.out.trans (by rw [h2, g3]))
        go_enter Tryz.func189, Tryz.ntmps189
        go_wp2_with (go_at_call 183; refine (between_any _ _ _ _).mono ?_; rintro e w' ⟨rfl, rfl⟩)
        go_ret
        exact ⟨ret_bool (by rw [R.out]; rfl), below_alloc _ _⟩
      · have g3 := bne_of h3
        simp only [Bool.not_true] at g3
        have R := Lib.hid (E.out.trans (by rw [h2, g3]))
        go_enter Tryz.func189, Tryz.ntmps189
        go_wp2_with (go_at_call 183; refine (between_any _ _ _ _).mono ?_; rintro e w' ⟨rfl, rfl⟩)
        go_ret
        exact ⟨ret_bool (by rw [R.out]; simp), below_alloc _ _⟩

set_option maxHeartbeats 1000000 in
set_option maxRecDepth 10000 in
theorem allForm_any (v : Value) (l : List (Int × Int)) (t : List Int) (vt : Value) (bt : Nat) (w : World) (h : Sl w v l.length (aggCells l)) (K : Blk w bt 22 #[vt]) (ht : Sl w vt t.length (intCells t)) (hl : t.length ≤ 1000) :
    Calls Tryz.prog 184 #[v, .func (.func 189) #[] #[.pointer (some ⟨bt, 0, none⟩)]] w fun e w' => e = .returned (.bool (allB (aggOk t) l)) ∧ Below w.heap.size w w' := by
  have HH := Lib.hid h
  have HT := Lib.hid ht
  have HK := Lib.hid K
  obtain ⟨A, c, rfl, h1, h2, -⟩ := h
  unfold maxLen at h2
  clear ht K
  go_enter Tryz.func184, Tryz.ntmps184
  go_wp2
  go_loopw [6, 9] (fun _ i wr => ∃ k : Nat, k ≤ l.length ∧ i = .int .i64 k ∧ Hid (∀ x ∈ l.take k, aggOk t x = true) ∧ Below w.heap.size w wr) (fun _ i _ => l.length - (intOf i).toNat)
  case atStart => exact ⟨0, by omega, rfl, by simp [Hid], Below.refl _ _⟩
  case round =>
    obtain ⟨k, hk, rfl, H, hbw⟩ := hrel
    by_cases hlt : k < l.length
    · have hx := List.getElem?_eq_getElem (l := l) hlt
      generalize l[k] = x at hx
      obtain ⟨g, off, rfl, -, hc⟩ := agg_at HH.out rfl hx
      obtain ⟨c1, c2⟩ := hc _ hbw
      have HX := Lib.hid hx
      have hbw2 := hbw.alloc hbw.size (.cells #[.int .i64 x.1, .int .i64 x.2] 106)
      clear hx hc
      cases hq : aggOk t x
      · have e1 := Lib.hid (all_no (f := aggOk t) HX.out hq)
        have HQ := Lib.hid hq
        clear hq
        go_wp2_with (go_at_call 189; refine (formOne_any x t vt bt _ (HK.out.below hbw2) (HT.out.below hbw2) hl).mono ?_; rw [HQ.out]; rintro e w1 ⟨rfl, hb1⟩)
        go_ret
        exact ⟨ret_bool e1.out.symm, below_trans hbw2 hb1⟩
      · have e1 := Lib.hid (all_step (f := aggOk t) H.out HX.out hq)
        have HQ := Lib.hid hq
        clear hq
        go_wp2_with (go_at_call 189; refine (formOne_any x t vt bt _ (HK.out.below hbw2) (HT.out.below hbw2) hl).mono ?_; rw [HQ.out]; rintro e w1 ⟨rfl, hb1⟩)
        go_roundw
        case rel => exact ⟨k + 1, by omega, by go_num, e1.out, below_trans hbw2 hb1⟩
        case measure => simp [intOf]; omega
    · obtain rfl : k = l.length := by omega
      have e1 := Lib.hid (all_yes (f := aggOk t) H.out)
      go_wp2
      go_ret
      exact ⟨ret_bool e1.out.symm, hbw⟩

end Go.Proofs.YtblhidmkalleoaaGreatDoor
namespace Go.Proofs.YtblhidmkalleoaaGreatDoor
open Go.RowKit Go.Maps

def pairOk (left right : List Int) (q : Int × Int) : Bool := left.getD q.1.toNat 0 == right.getD q.2.toNat 0
def formB (p : Pl) : Bool := !(decide (p.high < p.low)) && ((p.lkeys.length == p.rkeys.length) && (unlikeB p.lkeys p.left.length && (unlikeB p.rkeys p.right.length && (unlikeB p.group (p.left ++ p.right).length && (allB (pairOk p.left p.right) (p.lkeys.zip p.rkeys) && allB (aggOk (p.left ++ p.right)) p.aggs)))))
theorem unl_range {n : Int} : ∀ {l seen : List Int}, unlR n seen l = true → ∀ x ∈ l, 0 ≤ x ∧ x < n
  | [], _, _ => by simp
  | x :: r, seen, h => by
    simp only [unlR, Bool.and_eq_true] at h
    obtain ⟨⟨h1, -⟩, h3⟩ := h
    intro y hy
    rcases List.mem_cons.1 hy with rfl | hy
    · have := btw_of h1; omega
    · exact unl_range h3 y hy

set_option maxHeartbeats 4000000 in
set_option maxRecDepth 10000 in
theorem form_any (p : Pl) (w : World) (h : p.ok w) (hs : p.short) (hf : p.fit) :
    Calls Tryz.prog 133 #[.agg #[.int .i64 p.kind, .int .i64 p.mode, .int .i64 p.low, .int .i64 p.high, .int .i64 p.size, .int .i64 p.limit, p.vl, p.vr, p.vk, p.vq, .bool p.grouped, p.vg, p.va]] w fun e w' => e = .returned (.bool (formB p)) ∧ Below w.heap.size w w' := by
  have E : Hid (formB p = (!(decide (p.high < p.low)) && ((p.lkeys.length == p.rkeys.length) && (unlikeB p.lkeys p.left.length && (unlikeB p.rkeys p.right.length && (unlikeB p.group (p.left ++ p.right).length && (allB (pairOk p.left p.right) (p.lkeys.zip p.rkeys) && allB (aggOk (p.left ++ p.right)) p.aggs))))))) := Lib.hid rfl
  generalize formB p = R at E ⊢
  have HL := Lib.hid h.l
  have HR := Lib.hid h.r
  have HK := Lib.hid h.k
  have HQ := Lib.hid h.q
  have HG := Lib.hid h.g
  have HA := Lib.hid h.a
  have FK := Lib.hid hf.k
  have FQ := Lib.hid hf.q
  have FG := Lib.hid hf.g
  obtain ⟨l1, l2, r1, r2, k1, k2, q1, q2, g1, a1⟩ := hs
  clear h hf
  obtain ⟨kind, mode, low, high, size, limit, vl, vr, vk, vq, grouped, vg, va, left, right, lkeys, rkeys, group, aggs⟩ := p
  simp only at HL HR HK HQ HG HA FK FQ FG E l1 l2 r1 r2 k1 k2 q1 q2 g1 a1 ⊢
  obtain ⟨A0, c0, rfl, n0, m0, -⟩ := id HL.out
  obtain ⟨A1, c1, rfl, n1, m1, -⟩ := id HR.out
  obtain ⟨A2, c2, rfl, n2, m2, -⟩ := id HK.out
  obtain ⟨A3, c3, rfl, n3, m3, -⟩ := id HQ.out
  obtain ⟨A4, c4, rfl, n4, m4, -⟩ := id HG.out
  obtain ⟨A5, c5, rfl, n5, m5, -⟩ := id HA.out
  have hB := below_trans (below_alloc w (.cells #[.int .i64 kind, .int .i64 mode, .int .i64 low, .int .i64 high, .int .i64 size, .int .i64 limit, .slice A0 left.length c0, .slice A1 right.length c1, .slice A2 lkeys.length c2, .slice A3 rkeys.length c3, .bool grouped, .slice A4 group.length c4, .slice A5 aggs.length c5] 25)) (below_alloc _ (.cells #[.slice A0 left.length c0, .slice A1 right.length c1] 22))
  have HT := Lib.hid (two_sl1 w (.cells #[.int .i64 kind, .int .i64 mode, .int .i64 low, .int .i64 high, .int .i64 size, .int .i64 limit, .slice A0 left.length c0, .slice A1 right.length c1, .slice A2 lkeys.length c2, .slice A3 rkeys.length c3, .bool grouped, .slice A4 group.length c4, .slice A5 aggs.length c5] 25) (.slice A0 left.length c0) (.slice A1 right.length c1))
  have KP := new_first w 25 #[.int .i64 kind, .int .i64 mode, .int .i64 low, .int .i64 high, .int .i64 size, .int .i64 limit, .slice A0 left.length c0, .slice A1 right.length c1, .slice A2 lkeys.length c2, .slice A3 rkeys.length c3, .bool grouped, .slice A4 group.length c4, .slice A5 aggs.length c5] (.cells #[.slice A0 left.length c0, .slice A1 right.length c1] 22)
  have hz : (left ++ right).length ≤ 8 := by rw [List.length_append]; omega
  have hz1 : 1 ≤ (left ++ right).length := by rw [List.length_append]; omega
  unfold maxLen at m0 m1 m2 m3 m4 m5
  go_enter Tryz.func133, Tryz.ntmps133
  go_wp2_with fail
  refine (concat_any _ _ _ left right _ HT.out (HL.out.below hB) (HR.out.below hB) (by omega) (by omega)).mono ?_
  rintro e w1 ⟨v1, rfl, hs1, -, hb1⟩
  generalize ht : left ++ right = t at hs1 hz hz1 E
  have HTT := Lib.hid ht
  clear ht
  have HS1 := Lib.hid hs1
  obtain ⟨A6, c6, rfl, n6, m6, -⟩ := hs1
  unfold maxLen at m6
  have P1 := (KP.below hb1).alloc (.cells #[.slice A6 t.length c6] 22)
  have T1 := Blk.new w1 22 #[.slice A6 t.length c6]
  have HS1' := Lib.hid (HS1.out.below (below_alloc w1 (.cells #[.slice A6 t.length c6] 22)))
  have hB1 := below_trans (below_trans hB hb1) (below_alloc w1 (.cells #[.slice A6 t.length c6] 22))
  clear hB hb1 KP HS1 HT
  have y1_2 := P1.cell 2 _ rfl
  have y1_3 := P1.cell 3 _ rfl
  have y1_6 := P1.cell 6 _ rfl
  have y1_7 := P1.cell 7 _ rfl
  have y1_8 := P1.cell 8 _ rfl
  have y1_9 := P1.cell 9 _ rfl
  have y1_11 := P1.cell 11 _ rfl
  have y1_12 := P1.cell 12 _ rfl
  have t0 := T1.cell 0 _ rfl
  by_cases o1 : high < low
  · have e := E.out
    simp only [decide_eq_true o1, Bool.not_true, Bool.not_false, Bool.true_and, Bool.false_and] at e
    have EE := Lib.hid e
    clear e
    go_wp2
    go_ret
    exact ⟨ret_bool (by rw [EE.out]), hB1⟩
  · have do1 : decide (high < low) = false := by simpa using o1
    have e := E.out
    simp only [do1, Bool.not_true, Bool.not_false, Bool.true_and, Bool.false_and] at e
    have E2 := Lib.hid e
    clear e
    clear E do1
    by_cases o2 : lkeys.length = rkeys.length
    · have b2 : ((lkeys.length : Int) == (rkeys.length : Int)) = true := by simp [o2]
      have b2' := bne_of b2
      simp only [Bool.not_true] at b2'
      have hkq : lkeys.length ≤ rkeys.length := by omega
      have e := E2.out
      simp only [show (lkeys.length == rkeys.length) = true from by simp [o2], Bool.not_true, Bool.not_false, Bool.true_and, Bool.false_and] at e
      have E3 := Lib.hid e
      clear e
      have HO2 := Lib.hid o2
      clear E2 o2
      cases u1 : unlikeB lkeys left.length
      · have e := E3.out
        simp only [u1, Bool.not_true, Bool.not_false, Bool.true_and, Bool.false_and] at e
        have EE := Lib.hid e
        clear e
        go_wp2_with fail
        refine (unlike_any _ lkeys _ _ (HK.out.below hB1) (by omega) FK.out).mono ?_
        rw [u1]
        rintro e w2 ⟨rfl, hb2⟩
        go_wp2
        go_ret
        exact ⟨ret_bool (by rw [EE.out]), below_trans hB1 hb2⟩
      · have e := E3.out
        simp only [u1, Bool.not_true, Bool.not_false, Bool.true_and, Bool.false_and] at e
        have E4 := Lib.hid e
        clear e
        have U1 := Lib.hid u1
        clear E3 u1
        go_wp2_with fail
        refine (unlike_any _ lkeys _ _ (HK.out.below hB1) (by omega) FK.out).mono ?_
        rw [U1.out]
        rintro e w2 ⟨rfl, hb2⟩
        have P2 := P1.below hb2
        have T2 := T1.below hb2
        have HS2 := Lib.hid (HS1'.out.below hb2)
        have hB2 := below_trans hB1 hb2
        clear P1 T1 hb2 hB1 t0 y1_2 y1_3 y1_6 y1_7 y1_8 y1_9 y1_11 y1_12 HS1'
        have y2_2 := P2.cell 2 _ rfl
        have y2_3 := P2.cell 3 _ rfl
        have y2_6 := P2.cell 6 _ rfl
        have y2_7 := P2.cell 7 _ rfl
        have y2_8 := P2.cell 8 _ rfl
        have y2_9 := P2.cell 9 _ rfl
        have y2_11 := P2.cell 11 _ rfl
        have y2_12 := P2.cell 12 _ rfl
        have t0 := T2.cell 0 _ rfl
        cases u2 : unlikeB rkeys right.length
        · have e := E4.out
          simp only [u2, Bool.not_true, Bool.not_false, Bool.true_and, Bool.false_and] at e
          have EE := Lib.hid e
          clear e
          go_wp2_with fail
          refine (unlike_any _ rkeys _ _ (HQ.out.below hB2) (by omega) FQ.out).mono ?_
          rw [u2]
          rintro e w3 ⟨rfl, hb3⟩
          go_wp2
          go_ret
          exact ⟨ret_bool (by rw [EE.out]), below_trans hB2 hb3⟩
        · have e := E4.out
          simp only [u2, Bool.not_true, Bool.not_false, Bool.true_and, Bool.false_and] at e
          have E5 := Lib.hid e
          clear e
          have U2 := Lib.hid u2
          clear E4 u2
          go_wp2_with fail
          refine (unlike_any _ rkeys _ _ (HQ.out.below hB2) (by omega) FQ.out).mono ?_
          rw [U2.out]
          rintro e w3 ⟨rfl, hb3⟩
          have P3 := P2.below hb3
          have T3 := T2.below hb3
          have HS3 := Lib.hid (HS2.out.below hb3)
          have hB3 := below_trans hB2 hb3
          clear P2 T2 hb3 hB2 t0 y2_2 y2_3 y2_6 y2_7 y2_8 y2_9 y2_11 y2_12 HS2
          have y3_2 := P3.cell 2 _ rfl
          have y3_3 := P3.cell 3 _ rfl
          have y3_6 := P3.cell 6 _ rfl
          have y3_7 := P3.cell 7 _ rfl
          have y3_8 := P3.cell 8 _ rfl
          have y3_9 := P3.cell 9 _ rfl
          have y3_11 := P3.cell 11 _ rfl
          have y3_12 := P3.cell 12 _ rfl
          have t0 := T3.cell 0 _ rfl
          cases u3 : unlikeB group t.length
          · have e := E5.out
            simp only [u3, Bool.not_true, Bool.not_false, Bool.true_and, Bool.false_and] at e
            have EE := Lib.hid e
            clear e
            go_wp2_with fail
            refine (unlike_any _ group _ _ (HG.out.below hB3) (by omega) FG.out).mono ?_
            rw [u3]
            rintro e w4 ⟨rfl, hb4⟩
            go_wp2
            go_ret
            exact ⟨ret_bool (by rw [EE.out]), below_trans hB3 hb4⟩
          · have e := E5.out
            simp only [u3, Bool.not_true, Bool.not_false, Bool.true_and, Bool.false_and] at e
            have E6 := Lib.hid e
            clear e
            have U3 := Lib.hid u3
            clear E5 u3
            go_wp2_with fail
            refine (unlike_any _ group _ _ (HG.out.below hB3) (by omega) FG.out).mono ?_
            rw [U3.out]
            rintro e w4 ⟨rfl, hb4⟩
            have P4 := P3.below hb4
            have T4 := T3.below hb4
            have HS4 := Lib.hid (HS3.out.below hb4)
            have hB4 := below_trans hB3 hb4
            clear P3 T3 hb4 hB3 t0 y3_2 y3_3 y3_6 y3_7 y3_8 y3_9 y3_11 y3_12 HS3
            have y4_2 := P4.cell 2 _ rfl
            have y4_3 := P4.cell 3 _ rfl
            have y4_6 := P4.cell 6 _ rfl
            have y4_7 := P4.cell 7 _ rfl
            have y4_8 := P4.cell 8 _ rfl
            have y4_9 := P4.cell 9 _ rfl
            have y4_11 := P4.cell 11 _ rfl
            have y4_12 := P4.cell 12 _ rfl
            go_wp2_with fail
            clear y4_2 y4_3 y4_6 y4_7 y4_8 y4_9 y4_11 y4_12
            go_loopw [4, 5, 55] (fun _ _ i wr => ∃ k : Nat, k ≤ lkeys.length ∧ i = .int .i64 k ∧ Hid (∀ q ∈ (lkeys.zip rkeys).take k, pairOk left right q = true) ∧ Below w4.heap.size w4 wr) (fun _ _ i _ => lkeys.length - (intOf i).toNat)
            case atStart => exact ⟨0, by omega, rfl, by simp [Hid], Below.refl _ _⟩
            case round =>
              obtain ⟨k, hk, rfl, H, hbw⟩ := hrel
              have hBw := hB4.trans (hbw.mono hB4.size)
              have P5 := P4.below hbw
              have T5 := T4.below hbw
              by_cases hlt : k < lkeys.length
              · have hltq : k < rkeys.length := by omega
                obtain ⟨bk, ok, hAk, -, hck⟩ := int_at HK.out rfl hlt
                obtain ⟨bq, oq, hAq, -, hcq⟩ := int_at HQ.out rfl hltq
                have gk : lkeys[k]? = some (lkeys.getD k 0) := by simp [hlt]
                have gq : rkeys[k]? = some (rkeys.getD k 0) := by simp [hltq]
                have d1 := hck _ hBw
                have d2 := hcq _ hBw
                have rk := unl_range U1.out _ (List.mem_of_getElem? gk)
                have rq := unl_range U2.out _ (List.mem_of_getElem? gq)
                have GZ := Lib.hid (show (lkeys.zip rkeys)[k]? = some (lkeys.getD k 0, rkeys.getD k 0) from by rw [List.getElem?_zip_eq_some]; exact ⟨gk, gq⟩)
                generalize lkeys.getD k 0 = x at d1 rk GZ
                generalize rkeys.getD k 0 = y at d2 rq GZ
                clear gk gq hck hcq
                obtain ⟨a, rfl⟩ : ∃ a : Nat, x = a := ⟨x.toNat, by omega⟩
                obtain ⟨b, rfl⟩ : ∃ b : Nat, y = b := ⟨y.toNat, by omega⟩
                have ra : a < left.length := by omega
                have rb : b < right.length := by omega
                obtain ⟨bl, ol, hAl, -, hcl⟩ := int_at HL.out rfl ra
                obtain ⟨br, orr, hAr, -, hcr⟩ := int_at HR.out rfl rb
                have d3 := hcl _ hBw
                have d4 := hcr _ hBw
                have GP := Lib.hid (show pairOk left right ((a : Int), (b : Int)) = (left.getD a 0 == right.getD b 0) from rfl)
                generalize left.getD a 0 = X at d3 GP
                generalize right.getD b 0 = Y at d4 GP
                clear hcl hcr rk rq
                subst hAk hAq hAl hAr
                have k0 : (0 : Int) ≤ (k : Int) := by omega
                have k1 : (k : Int) < (lkeys.length : Int) := by omega
                have k2' : (k : Int) < (rkeys.length : Int) := by omega
                have a0 : (0 : Int) ≤ (a : Int) := by omega
                have a1' : (a : Int) < (left.length : Int) := by omega
                have b0 : (0 : Int) ≤ (b : Int) := by omega
                have b1' : (b : Int) < (right.length : Int) := by omega
                have y6 := P5.cell 6 _ rfl
                have y7 := P5.cell 7 _ rfl
                have y9 := P5.cell 9 _ rfl
                cases hq : (X == Y)
                · have g3 := bne_of hq
                  simp only [Bool.not_false] at g3
                  have e1 := Lib.hid (all_no (f := pairOk left right) GZ.out (by rw [GP.out, hq]))
                  have e := E6.out
                  simp only [e1.out, Bool.not_true, Bool.not_false, Bool.true_and, Bool.false_and] at e
                  have EE := Lib.hid e
                  clear e
                  go_wp2_with fail
                  go_quiet (fail)
                  go_wp2
                  go_ret
                  exact ⟨ret_bool (by rw [EE.out]), below_drewN hBw _⟩
                · have g3 := bne_of hq
                  simp only [Bool.not_true] at g3
                  have e1 := Lib.hid (all_step (f := pairOk left right) H.out GZ.out (by rw [GP.out, hq]))
                  go_wp2_with fail
                  go_quiet (fail)
                  go_wp2
                  go_roundw
                  case rel => exact ⟨k + 1, by omega, by go_num, e1.out, below_drewN hbw _⟩
                  case measure => simp [intOf]; omega
              · obtain rfl : k = lkeys.length := by omega
                have e1 := Lib.hid (show allB (pairOk left right) (lkeys.zip rkeys) = true from all_yes (by
                  have hzl : (lkeys.zip rkeys).length = lkeys.length := by rw [List.length_zip]; omega
                  rw [hzl]; exact H.out))
                have e := E6.out
                simp only [e1.out, Bool.not_true, Bool.not_false, Bool.true_and, Bool.false_and] at e
                have EE := Lib.hid e
                clear e
                have y12 := P5.cell 12 _ rfl
                go_wp2_with fail
                refine (allForm_any _ aggs t _ _ _ (HA.out.below hBw) T5 (HS4.out.below hbw) (by omega)).mono ?_
                rintro e w6 ⟨rfl, hb6⟩
                go_wp2
                go_ret
                exact ⟨ret_bool (by rw [EE.out]), below_trans hBw hb6⟩
    · have b2 : ((lkeys.length : Int) == (rkeys.length : Int)) = false := by simp; omega
      have b2' := bne_of b2
      simp only [Bool.not_false] at b2'
      have e := E2.out
      simp only [show (lkeys.length == rkeys.length) = false from by simp [o2], Bool.not_true, Bool.not_false, Bool.true_and, Bool.false_and] at e
      have EE := Lib.hid e
      clear e
      clear o2
      go_wp2
      go_ret
      exact ⟨ret_bool (by rw [EE.out]), hB1⟩

end Go.Proofs.YtblhidmkalleoaaGreatDoor
