/-
  Views and piles, plain law: a pile's datum is the view, sorted by keys.
-/
import Derived.Test.YtelmlagolmabpaaDoorChgM3
import Derived.Maps.Views
import Derived.Maps.OwnSet
set_option linter.unusedSimpArgs false
set_option linter.unusedVariables false
namespace Go.Proofs.YtelmlagolmabpaaDoor
open Go.RowKit Go.Maps
open Go.Lib (compareBytes)

abbrev AV := List (List Val × Int)

theorem before_eq (a b : List UInt8) : bytesBefore a b = decide (compareBytes a b < 0) := by
  induction a generalizing b with
  | nil =>
    cases b with
    | nil => simp [bytesBefore, compareBytes]
    | cons y b => simp [bytesBefore, compareBytes]
  | cons x a ih =>
    cases b with
    | nil => simp [bytesBefore, compareBytes]
    | cons y b =>
      unfold bytesBefore
      by_cases h1 : x < y
      · rw [cb_lt _ _ h1]; simp [h1]
      · by_cases h2 : y < x
        · rw [cb_gt _ _ h2]
          have : x ≠ y := by rintro rfl; exact h1 h2
          simp [h1, this]
        · have : x = y := by
            rw [u8_lt] at h1 h2
            exact UInt8.toNat_inj.1 (by omega)
          subst this
          rw [cb_same, ih]
          simp [u8_lt_irr]

/-- A row whose key tells it. -/
structure GoodR (r : List Val) : Prop where
  good : Good r
  few : r.length ≤ 8
theorem goodR_of {r : List Val} (hf : Fine r) (h : keyErr r = 0) : GoodR r := by
  obtain ⟨h8, hg⟩ := keyErr_zero h
  exact ⟨fun x hx => ⟨hg x hx, hf.nums x hx⟩, h8⟩

theorem rowsF_zero {a b : List Val} (ha : GoodR a) (hb : GoodR b) : rowsF a b = 0 ↔ a = b := by
  have h1 := key_same ha.good hb.good
  have h2 := key_tells ha.good hb.good ha.few hb.few
  rw [h1] at h2
  constructor
  · intro h
    rw [decide_eq_true h] at h2
    exact (sameR_iff a b).1 h2.symm
  · rintro rfl
    rw [(sameR_iff a a).2 rfl] at h2
    simpa using h2
theorem rowsF_self {a : List Val} (ha : GoodR a) : rowsF a a = 0 := (rowsF_zero ha ha).2 rfl

theorem cb_flip (a b : List UInt8) : compareBytes b a = - compareBytes a b := by
  induction a generalizing b with
  | nil => cases b <;> simp [compareBytes]
  | cons x a ih =>
    cases b with
    | nil => simp [compareBytes]
    | cons y b =>
      by_cases h1 : x < y
      · rw [cb_lt _ _ h1, cb_gt _ _ h1]; rfl
      · by_cases h2 : y < x
        · rw [cb_gt _ _ h2, cb_lt _ _ h2]
        · have : x = y := by
            rw [u8_lt] at h1 h2
            exact UInt8.toNat_inj.1 (by omega)
          subst this
          rw [cb_same, cb_same, ih]
theorem cb_trans {a b c : List UInt8} (h1 : compareBytes a b < 0) (h2 : compareBytes b c < 0) : compareBytes a c < 0 := by
  induction a generalizing b c with
  | nil =>
    cases b with
    | nil => simp [compareBytes] at h1
    | cons y b =>
      cases c with
      | nil => simp [compareBytes] at h2
      | cons z c => simp [compareBytes]
  | cons x a ih =>
    cases b with
    | nil => simp [compareBytes] at h1
    | cons y b =>
      cases c with
      | nil => simp [compareBytes] at h2
      | cons z c =>
        have t1 : x < y ∨ (x = y ∧ compareBytes a b < 0) := by
          by_cases e1 : x < y
          · exact .inl e1
          · by_cases e2 : y < x
            · rw [cb_gt _ _ e2] at h1; omega
            · have : x = y := by
                rw [u8_lt] at e1 e2
                exact UInt8.toNat_inj.1 (by omega)
              subst this
              rw [cb_same] at h1
              exact .inr ⟨rfl, h1⟩
        have t2 : y < z ∨ (y = z ∧ compareBytes b c < 0) := by
          by_cases e1 : y < z
          · exact .inl e1
          · by_cases e2 : z < y
            · rw [cb_gt _ _ e2] at h2; omega
            · have : y = z := by
                rw [u8_lt] at e1 e2
                exact UInt8.toNat_inj.1 (by omega)
              subst this
              rw [cb_same] at h2
              exact .inr ⟨rfl, h2⟩
        rcases t1 with t1 | ⟨rfl, t1⟩
        · rcases t2 with t2 | ⟨rfl, t2⟩
          · rw [cb_lt _ _ (by rw [u8_lt] at *; omega)]; omega
          · rw [cb_lt _ _ t1]; omega
        · rcases t2 with t2 | ⟨rfl, t2⟩
          · rw [cb_lt _ _ t2]; omega
          · rw [cb_same]; exact ih t1 t2
theorem rowsF_flip {a b : List Val} (ha : GoodR a) (hb : GoodR b) : rowsF b a = - rowsF a b := by
  rw [← key_order a b ha.good hb.good, ← key_order b a hb.good ha.good, cb_flip]
theorem rowsF_trans {a b c : List Val} (ha : GoodR a) (hb : GoodR b) (hc : GoodR c) (h1 : rowsF a b < 0) (h2 : rowsF b c < 0) : rowsF a c < 0 := by
  rw [← key_order a b ha.good hb.good] at h1
  rw [← key_order b c hb.good hc.good] at h2
  rw [← key_order a c ha.good hc.good]
  exact cb_trans h1 h2

def kOf (r : List Val) : Lit := .string (keyRow r)
theorem kOf_before {a b : List Val} (ha : GoodR a) (hb : GoodR b) : (kOf a).before (kOf b) = decide (rowsF a b < 0) := by
  show bytesBefore (keyRow a) (keyRow b) = _
  rw [before_eq, key_order a b ha.good hb.good]
theorem kOf_same {a b : List Val} (ha : GoodR a) (hb : GoodR b) : (kOf a).sameKey (kOf b) = decide (rowsF a b = 0) := by
  show (keyRow a == keyRow b) = _
  exact key_same ha.good hb.good

/-- The rows are good, and rise. -/
structure Rises (A : AV) : Prop where
  good : ∀ p ∈ A, GoodR p.1
  rise : A.Pairwise fun p q => rowsF p.1 q.1 < 0
theorem Rises.nil : Rises [] := ⟨nofun, .nil⟩
theorem Rises.tail {x : List Val × Int} {t : AV} (h : Rises (x :: t)) : Rises t := ⟨fun p hp => h.good p (by simp [hp]), (List.pairwise_cons.1 h.rise).2⟩

def lookA : AV → List Val → Int
  | [], _ => 0
  | (x, m) :: t, r => if rowsF x r = 0 then m else lookA t r
def hasA : AV → List Val → Bool
  | [], _ => false
  | (x, _) :: t, r => decide (rowsF x r = 0) || hasA t r
def putA : AV → List Val → Int → AV
  | [], r, n => [(r, n)]
  | (x, m) :: t, r, n => if rowsF x r = 0 then (x, n) :: t else if rowsF x r < 0 then (x, m) :: putA t r n else (r, n) :: (x, m) :: t
def delA : AV → List Val → AV
  | [], _ => []
  | (x, m) :: t, r => if rowsF x r = 0 then t else (x, m) :: delA t r

def ent (p : List Val × Int) : Lit × DataW Unit := (kOf p.1, .lit (.int .i64 p.2))
def mkD (A : AV) : DataW Unit := .map (A.map ent)

theorem mkD_size (A : AV) : Maps.size (mkD A) = A.length := by rw [mkD, size_eq, List.length_map]
theorem mkD_at {A : AV} {r : List Val} (h : ∀ p ∈ A, GoodR p.1) (hr : GoodR r) : (mkD A).atKey (kOf r) (.lit (.int .i64 0)) = .lit (.int .i64 (lookA A r)) := by
  unfold mkD DataW.atKey
  induction A with
  | nil => rfl
  | cons x t ih =>
    obtain ⟨x, m⟩ := x
    have hx : GoodR x := h (x, m) (by simp)
    simp only [List.map_cons, List.find?_cons, ent, kOf_same hx hr, lookA]
    by_cases e : rowsF x r = 0
    · simp [e]
    · simp only [e, decide_false, if_false]
      exact ih fun p hp => h p (by simp [hp])
theorem mkD_has {A : AV} {r : List Val} (h : ∀ p ∈ A, GoodR p.1) (hr : GoodR r) : Maps.has (mkD A) (kOf r) = hasA A r := by
  show (A.map ent).any (fun p => p.1.sameKey (kOf r)) = _
  induction A with
  | nil => rfl
  | cons x t ih =>
    obtain ⟨x, m⟩ := x
    have hx : GoodR x := h (x, m) (by simp)
    simp only [List.map_cons, List.any_cons, ent, kOf_same hx hr, hasA]
    congr 1
    exact ih fun p hp => h p (by simp [hp])
theorem filter_keep {A : AV} {r : List Val} (h : ∀ p ∈ A, GoodR p.1) (hr : GoodR r) (hn : ∀ p ∈ A, rowsF p.1 r ≠ 0) : (A.map ent).filter (fun p => !p.1.sameKey (kOf r)) = A.map ent := by
  rw [List.filter_eq_self]
  intro q hq
  obtain ⟨p, hp, rfl⟩ := List.mem_map.1 hq
  simp [ent, kOf_same (h p hp) hr, hn p hp]
theorem insert_front {A : AV} {r : List Val} {n : Int} (h : ∀ p ∈ A, GoodR p.1) (hr : GoodR r) (hn : ∀ p ∈ A, rowsF r p.1 < 0) : DataW.insert (ent (r, n)) (A.map ent) = (A.map ent |> fun l => ent (r, n) :: l) := by
  cases A with
  | nil => rfl
  | cons x t =>
    simp only [List.map_cons, DataW.insert]
    have : (ent (r, n)).1.before (ent x).1 = true := by
      show (kOf r).before (kOf x.1) = true
      rw [kOf_before hr (h x (by simp))]
      exact decide_eq_true (hn x (by simp))
    rw [if_pos this]
theorem mkD_put {A : AV} {r : List Val} {n : Int} (h : Rises A) (hr : GoodR r) : (mkD A).put (kOf r) (.lit (.int .i64 n)) = mkD (putA A r n) := by
  show DataW.map (DataW.insert (ent (r, n)) ((A.map ent).filter fun p => !p.1.sameKey (kOf r))) = .map _
  congr 1
  induction A with
  | nil => rfl
  | cons x t ih =>
    obtain ⟨x, m⟩ := x
    have hx : GoodR x := h.good (x, m) (by simp)
    obtain ⟨h1, h2⟩ := List.pairwise_cons.1 h.rise
    have h1 : ∀ p ∈ t, rowsF x p.1 < 0 := h1
    have hg : ∀ p ∈ t, GoodR p.1 := h.tail.good
    unfold putA
    by_cases e : rowsF x r = 0
    · have exr := (rowsF_zero hx hr).1 e
      subst exr
      have hgt : ∀ p ∈ t, rowsF x p.1 < 0 := fun p hp => h1 p hp
      have hne : ∀ p ∈ t, rowsF p.1 x ≠ 0 := fun p hp => by rw [rowsF_flip hx (hg p hp)]; have := hgt p hp; omega
      rw [if_pos e]
      simp only [List.map_cons]
      rw [List.filter_cons_of_neg (by simp [ent, kOf_same hx hr, e]), filter_keep hg hr hne, insert_front hg hr hgt]
    · rw [if_neg e]
      have hk : (!(ent (x, m)).1.sameKey (kOf r)) = true := by simp [ent, kOf_same hx hr, e]
      simp only [List.map_cons]
      rw [List.filter_cons_of_pos (p := fun p : Lit × DataW Unit => !p.1.sameKey (kOf r)) hk]
      by_cases l : rowsF x r < 0
      · rw [if_pos l]
        simp only [DataW.insert, List.map_cons]
        have hb : (ent (r, n)).1.before (ent (x, m)).1 = false := by
          show (kOf r).before (kOf x) = false
          rw [kOf_before hr hx, rowsF_flip hx hr]
          exact decide_eq_false (by omega)
        rw [hb, if_neg (by decide), ih h.tail]
      · rw [if_neg l]
        have hlt : rowsF r x < 0 := by rw [rowsF_flip hx hr]; omega
        have hgt : ∀ p ∈ t, rowsF r p.1 < 0 := fun p hp => rowsF_trans hr hx (hg p hp) hlt (h1 p hp)
        have hne : ∀ p ∈ t, rowsF p.1 r ≠ 0 := fun p hp => by rw [rowsF_flip hr (hg p hp)]; have := hgt p hp; omega
        rw [filter_keep hg hr hne]
        have := insert_front (A := (x, m) :: t) (r := r) (n := n) h.good hr (by
          intro p hp
          rcases List.mem_cons.1 hp with rfl | hp
          · exact hlt
          · exact hgt p hp)
        exact this
theorem mkD_del {A : AV} {r : List Val} (h : Rises A) (hr : GoodR r) : (mkD A).del (kOf r) = mkD (delA A r) := by
  show DataW.map ((A.map ent).filter fun p => !p.1.sameKey (kOf r)) = .map _
  congr 1
  induction A with
  | nil => rfl
  | cons x t ih =>
    obtain ⟨x, m⟩ := x
    have hx : GoodR x := h.good (x, m) (by simp)
    obtain ⟨h1, h2⟩ := List.pairwise_cons.1 h.rise
    have h1 : ∀ p ∈ t, rowsF x p.1 < 0 := h1
    have hg : ∀ p ∈ t, GoodR p.1 := h.tail.good
    unfold delA
    by_cases e : rowsF x r = 0
    · have exr := (rowsF_zero hx hr).1 e
      subst exr
      have hne : ∀ p ∈ t, rowsF p.1 x ≠ 0 := fun p hp => by rw [rowsF_flip hx (hg p hp)]; have := h1 p hp; omega
      rw [if_pos e]
      simp only [List.map_cons]
      rw [List.filter_cons_of_neg (by simp [ent, kOf_same hx hr, e]), filter_keep hg hr hne]
    · rw [if_neg e]
      have hk : (!(ent (x, m)).1.sameKey (kOf r)) = true := by simp [ent, kOf_same hx hr, e]
      simp only [List.map_cons]
      rw [List.filter_cons_of_pos (p := fun p : Lit × DataW Unit => !p.1.sameKey (kOf r)) hk, ih h.tail]

/-! ### what is kept -/
theorem put_mem {A : AV} {r : List Val} {n : Int} {p : List Val × Int} (h : p ∈ putA A r n) : p ∈ A ∨ p.1 = r ∧ p.2 = n ∨ (p.2 = n ∧ ∃ m, (p.1, m) ∈ A) := by
  induction A with
  | nil => simp [putA] at h; subst h; exact .inr (.inl ⟨rfl, rfl⟩)
  | cons x t ih =>
    obtain ⟨x, m⟩ := x
    unfold putA at h
    split at h
    · rcases List.mem_cons.1 h with rfl | h
      · exact .inr (.inr ⟨rfl, m, by simp⟩)
      · exact .inl (by simp [h])
    · split at h
      · rcases List.mem_cons.1 h with rfl | h
        · exact .inl (by simp)
        · rcases ih h with h | h | ⟨h1, m', h2⟩
          · exact .inl (by simp [h])
          · exact .inr (.inl h)
          · exact .inr (.inr ⟨h1, m', by simp [h2]⟩)
      · rcases List.mem_cons.1 h with rfl | h
        · exact .inr (.inl ⟨rfl, rfl⟩)
        · exact .inl h
theorem del_mem {A : AV} {r : List Val} {p : List Val × Int} (h : p ∈ delA A r) : p ∈ A := by
  induction A with
  | nil => exact h
  | cons x t ih =>
    obtain ⟨x, m⟩ := x
    unfold delA at h
    split at h
    · simp [h]
    · rcases List.mem_cons.1 h with rfl | h
      · simp
      · simp [ih h]
theorem rises_put {A : AV} {r : List Val} {n : Int} (h : Rises A) (hr : GoodR r) : Rises (putA A r n) := by
  refine ⟨fun p hp => ?_, ?_⟩
  · rcases put_mem hp with hp | ⟨e, -⟩ | ⟨-, m, hp⟩
    · exact h.good p hp
    · rw [e]; exact hr
    · exact h.good (p.1, m) hp
  · induction A with
    | nil => simp [putA]
    | cons x t ih =>
      obtain ⟨x, m⟩ := x
      have hx : GoodR x := h.good (x, m) (by simp)
      obtain ⟨h1, h2⟩ := List.pairwise_cons.1 h.rise
      have h1 : ∀ p ∈ t, rowsF x p.1 < 0 := h1
      have hg : ∀ p ∈ t, GoodR p.1 := h.tail.good
      unfold putA
      split
      · exact List.pairwise_cons.2 ⟨h1, h2⟩
      · rename_i e
        split
        · rename_i l
          refine List.pairwise_cons.2 ⟨fun p hp => ?_, ih h.tail⟩
          rcases put_mem hp with hp | ⟨e', -⟩ | ⟨-, m', hp⟩
          · exact h1 p hp
          · rw [e']; exact l
          · exact h1 (p.1, m') hp
        · rename_i l
          have hlt : rowsF r x < 0 := by rw [rowsF_flip hx hr]; omega
          refine List.pairwise_cons.2 ⟨fun p hp => ?_, h.rise⟩
          rcases List.mem_cons.1 hp with rfl | hp
          · exact hlt
          · exact rowsF_trans hr hx (hg p hp) hlt (h1 p hp)
theorem rises_del {A : AV} {r : List Val} (h : Rises A) : Rises (delA A r) := by
  refine ⟨fun p hp => h.good p (del_mem hp), ?_⟩
  induction A with
  | nil => exact h.rise
  | cons x t ih =>
    obtain ⟨x, m⟩ := x
    obtain ⟨h1, h2⟩ := List.pairwise_cons.1 h.rise
    have h1 : ∀ p ∈ t, rowsF x p.1 < 0 := h1
    unfold delA
    split
    · exact h2
    · exact List.pairwise_cons.2 ⟨fun p hp => h1 p (del_mem hp), ih h.tail⟩

end Go.Proofs.YtelmlagolmabpaaDoor
