/-
  One entry's mark set in a buffer of one's own.
-/
import Derived.Test.YteabfalklgffmaaDoorBuf16
set_option linter.unusedSimpArgs false
set_option linter.unusedVariables false
namespace Go.Proofs.YteabfalklgffmaaDoor
open Go.RowKit

/-! ### A block of three cells, stored whole -/
theorem Blk.set3 {w : World} {g : Nat} {t : TypeId} {a b c : Value} (h : Blk w g t #[a, b, c]) (u0 u1 u2 : Value) : Blk (((w.setCell ⟨g, 0, none⟩ u0).setCell ⟨g, 1, none⟩ u1).setCell ⟨g, 2, none⟩ u2) g t #[u0, u1, u2] := ((h.set_ 0 u0).set_ 1 u1).set_ 2 u2
theorem Blk.far3 {w : World} {g g' : Nat} {t : TypeId} {cs : Array Value} (h : Blk w g t cs) (hne : g ≠ g') (u0 u1 u2 : Value) : Blk (((w.setCell ⟨g', 0, none⟩ u0).setCell ⟨g', 1, none⟩ u1).setCell ⟨g', 2, none⟩ u2) g t cs := ((h.far (p := ⟨g', 0, none⟩) hne u0).far (p := ⟨g', 1, none⟩) hne u1).far (p := ⟨g', 2, none⟩) hne u2
theorem below_set3 {n : Nat} {a w : World} (h : Below n a w) {g : Nat} (hg : n ≤ g) (u0 u1 u2 : Value) : Below n a (((w.setCell ⟨g, 0, none⟩ u0).setCell ⟨g, 1, none⟩ u1).setCell ⟨g, 2, none⟩ u2) := ((h.setCell (p := ⟨g, 0, none⟩) hg u0).setCell (p := ⟨g, 1, none⟩) hg u1).setCell (p := ⟨g, 2, none⟩) hg u2
theorem OwnBuf.set3 {w : World} {base : Nat} {b : Buf} (h : OwnBuf w base b) {g : Nat} (hg : g < base) (u0 u1 u2 : Value) : OwnBuf (((w.setCell ⟨g, 0, none⟩ u0).setCell ⟨g, 1, none⟩ u1).setCell ⟨g, 2, none⟩ u2) base b := ((h.setFar (p := ⟨g, 0, none⟩) hg u0).setFar (p := ⟨g, 1, none⟩) hg u1).setFar (p := ⟨g, 2, none⟩) hg u2
theorem OwnE.set3 {w : World} {base : Nat} {v : Value} {l : List Ent} (h : OwnE w base v l) {g : Nat} (hg : g < base) (u0 u1 u2 : Value) : OwnE (((w.setCell ⟨g, 0, none⟩ u0).setCell ⟨g, 1, none⟩ u1).setCell ⟨g, 2, none⟩ u2) base v l := ((h.set (p := ⟨g, 0, none⟩) hg u0).set (p := ⟨g, 1, none⟩) hg u1).set (p := ⟨g, 2, none⟩) hg u2

theorem own_oneR (W : World) (base : Nat) (t : TypeId) (u : Value) (hu : u.oneCell' = true) (h : base ≤ W.heap.size) : (W.alloc (.cells #[u] t)).ownsRow base t 1 (.slice (some ⟨W.heap.size, 0, none⟩) 1 1) 1 [u] :=
  ⟨by simp, .inr ⟨_, 1, #[u], rfl, h, heap_alloc_new W _, Nat.le_refl _, by decide, by simp, by simp⟩⟩
/-- A buffer of one run. -/
theorem OwnBuf.one {W : World} {base : Nat} {v : Value} {l : List Ent} (limit : Int) (h : OwnE W base v l) (h1 : v.oneCell' = true) (hb : base ≤ W.heap.size) :
    OwnBuf (W.alloc (.cells #[v] 22)) base ⟨limit, .slice none 0 0, [], .slice (some ⟨W.heap.size, 0, none⟩) 1 1, [(v, l)]⟩ := by
  refine ⟨OwnE.nil _ _, own_oneR W base 22 v h1 hb, fun p hp => ?_, fun p hp k hk => ?_, fun k hk => absurd hk (eblk_nil rfl), by simp⟩
  · simp only [List.mem_singleton] at hp
    subst hp
    exact h.alloc _
  · simp only [List.mem_singleton] at hp
    subst hp
    refine ⟨eblk_nil rfl, fun e => ?_⟩
    have := (h.range hk).2
    simp [Value.ownBlock] at e
    omega
theorem packB_nil {b : Bu} (h : sortE b.all = []) : packB b = ⟨b.limit, [], []⟩ := by unfold packB; rw [if_pos h]
theorem packB_one {b : Bu} (h : sortE b.all ≠ []) : packB b = ⟨b.limit, [], [sortE b.all]⟩ := by unfold packB; rw [if_neg h]


def metE (m : Bool) (x : Ent) : Ent := ⟨x.v, { x.e with met := m }⟩
theorem ent_met (a b : List Ent) (x : Ent) (m : Bool) : (entCells (a ++ x :: b)).set (a.length * 5 + 4) (.bool m) = entCells (a ++ metE m x :: b) := by
  induction a with
  | nil => simp [entCells, Ent.cells, metE]
  | cons y a ih =>
    have e1 : (y :: a).length * 5 + 4 = a.length * 5 + 4 + 1 + 1 + 1 + 1 + 1 := by simp; omega
    rw [e1]
    unfold entCells at ih ⊢
    simp only [List.cons_append, List.flatMap_cons]
    rw [← ih]
    simp [Ent.cells]
theorem OwnE.met {w : World} {base g n cap : Nat} {a b : List Ent} {x : Ent} (m : Bool) (h : OwnE w base (.slice (some ⟨g, 0, none⟩) n cap) (a ++ x :: b)) (hn : n = (a ++ x :: b).length) :
    OwnE (w.setCell ⟨g, a.length * 5 + 4, none⟩ (.bool m)) base (.slice (some ⟨g, 0, none⟩) n cap) (a ++ metE m x :: b) ∧ w.grownBy (w.setCell ⟨g, a.length * 5 + 4, none⟩ (.bool m)) (some g) := by
  have ho := h.own
  rw [← hn] at ho
  obtain ⟨h5, hg⟩ := ho.stored (a.length * 5 + 4) (.bool m)
  rw [ent_met] at h5
  have hlen : (a ++ metE m x :: b).length = n := by rw [hn]; simp
  have hd : ∀ d ∈ a ++ metE m x :: b, Sl w d.v d.e.r.length (rowCells d.e.r) ∧ ∀ k, d.v.ownBlock = some k → base ≤ k ∧ k < w.heap.size ∧ k ≠ g := by
    intro d hd
    rcases List.mem_append.1 hd with hd | hd
    · exact ⟨h.rows d (by simp [hd]), fun k hk => by obtain ⟨z, p, q⟩ := h.far d (by simp [hd]) k hk; exact ⟨z, p, fun e => q (by rw [e]; rfl)⟩⟩
    · rcases List.mem_cons.1 hd with rfl | hd
      · exact ⟨h.rows x (by simp), fun k hk => by obtain ⟨z, p, q⟩ := h.far x (by simp) k hk; exact ⟨z, p, fun e => q (by rw [e]; rfl)⟩⟩
      · exact ⟨h.rows d (by simp [hd]), fun k hk => by obtain ⟨z, p, q⟩ := h.far d (by simp [hd]) k hk; exact ⟨z, p, fun e => q (by rw [e]; rfl)⟩⟩
  refine ⟨⟨by rw [hlen]; exact h5, fun d hd' => sl_grown (hd d hd').1 hg (fun k hk e => ((hd d hd').2 k hk).2.2 (by injection e with e; exact e.symm)), fun d hd' k hk => ?_⟩, hg⟩
  obtain ⟨z, p, q⟩ := (hd d hd').2 k hk
  exact ⟨z, Nat.lt_of_lt_of_le p hg.size, fun e => q (by simp [Value.ownBlock] at e; exact e.symm)⟩
theorem set_split {l : List Ent} {k : Nat} {x : Ent} (hk : l[k]? = some x) (y : Ent) : l = l.take k ++ x :: l.drop (k + 1) ∧ l.set k y = l.take k ++ y :: l.drop (k + 1) ∧ (l.take k).length = k := by
  obtain ⟨h1, h2⟩ := List.getElem?_eq_some_iff.1 hk
  refine ⟨?_, ?_, by rw [List.length_take]; omega⟩
  · conv => lhs; rw [← List.take_append_drop k l]
    rw [List.drop_eq_getElem_cons h1, h2]
  · rw [List.set_eq_take_append_cons_drop, if_pos h1]
theorem OwnE.metAt {w : World} {base g n cap k : Nat} {l : List Ent} {x : Ent} (m : Bool) (h : OwnE w base (.slice (some ⟨g, 0, none⟩) n cap) l) (hn : n = l.length) (hk : l[k]? = some x) :
    OwnE (w.setCell ⟨g, k * 5 + 4, none⟩ (.bool m)) base (.slice (some ⟨g, 0, none⟩) n cap) (l.set k (metE m x)) ∧ w.grownBy (w.setCell ⟨g, k * 5 + 4, none⟩ (.bool m)) (some g) := by
  obtain ⟨e1, e2, e3⟩ := set_split hk (metE m x)
  rw [e1] at h hn
  have := OwnE.met m h hn
  rw [e3] at this
  rw [e2]
  exact this
theorem eblk_set {v : Value} {l : List Ent} {k j : Nat} {x : Ent} (m : Bool) (hk : l[k]? = some x) : EBlk v (l.set k (metE m x)) j ↔ EBlk v l j := by
  obtain ⟨e1, e2, -⟩ := set_split hk (metE m x)
  rw [e2]
  conv => rhs; rw [e1]
  unfold EBlk
  constructor
  · rintro (h | ⟨c, hc, h⟩)
    · exact .inl h
    · rcases List.mem_append.1 hc with hc | hc
      · exact .inr ⟨c, by simp [hc], h⟩
      · rcases List.mem_cons.1 hc with rfl | hc
        · exact .inr ⟨x, by simp, h⟩
        · exact .inr ⟨c, by simp [hc], h⟩
  · rintro (h | ⟨c, hc, h⟩)
    · exact .inl h
    · rcases List.mem_append.1 hc with hc | hc
      · exact .inr ⟨c, by simp [hc], h⟩
      · rcases List.mem_cons.1 hc with rfl | hc
        · exact .inr ⟨metE m c, by simp, h⟩
        · exact .inr ⟨c, by simp [hc], h⟩
theorem OwnBuf.split2 {w : World} {base : Nat} {b : Buf} (h : OwnBuf w base b) {i j : Nat} (hi : i < b.runs.length) (hj : j < b.runs.length) (hne : i ≠ j) (k : Nat) (hk : EBlk b.runs[i].1 b.runs[i].2 k) : ¬ EBlk b.runs[j].1 b.runs[j].2 k := by
  have hp := List.pairwise_iff_getElem.1 h.pair
  rcases Nat.lt_or_gt_of_ne hne with h1 | h1
  · exact hp i j hi hj h1 k hk
  · intro h2
    exact hp j i hj hi h1 k h2 hk
/-- A buffer with one entry's mark set. -/
def Buf.mark (b : Buf) (j k : Nat) (y : Ent) : Buf := match j with
  | 0 => ⟨b.limit, b.vm, b.mem.set k y, b.vr, b.runs⟩
  | i + 1 => ⟨b.limit, b.vm, b.mem, b.vr, b.runs.set i ((b.part (i + 1)).1, (b.part (i + 1)).2.set k y)⟩
theorem mark_limit (b : Buf) (j k : Nat) (y : Ent) : (b.mark j k y).limit = b.limit := by cases j <;> rfl
theorem mark_vm (b : Buf) (j k : Nat) (y : Ent) : (b.mark j k y).vm = b.vm := by cases j <;> rfl
theorem mark_vr (b : Buf) (j k : Nat) (y : Ent) : (b.mark j k y).vr = b.vr := by cases j <;> rfl
theorem mark_len (b : Buf) (j k : Nat) (y : Ent) : (b.mark j k y).runs.length = b.runs.length := by cases j <;> simp [Buf.mark]
theorem mark_part (b : Buf) (j k : Nat) (y : Ent) (hj : j < b.runs.length + 1) (q : Nat) : (b.mark j k y).part q = if q = j then ((b.part j).1, (b.part j).2.set k y) else b.part q := by
  cases j with
  | zero => cases q <;> simp [Buf.mark, Buf.part]
  | succ i =>
    cases q with
    | zero => simp [Buf.mark, Buf.part]
    | succ q =>
      simp only [Buf.mark, Buf.part, List.getElem?_set, Nat.add_right_cancel_iff]
      by_cases h : i = q
      · subst h
        rw [if_pos rfl, if_pos (by omega), if_pos rfl]
        rfl
      · rw [if_neg h, if_neg (fun e => h e.symm)]
theorem OwnBuf.mark {w : World} {base g n cap j k : Nat} {b : Buf} {x : Ent} (m : Bool) (h : OwnBuf w base b) (hj : j < b.runs.length + 1) (hv : (b.part j).1 = .slice (some ⟨g, 0, none⟩) n cap) (hn : n = (b.part j).2.length) (hk : (b.part j).2[k]? = some x) :
    OwnBuf (w.setCell ⟨g, k * 5 + 4, none⟩ (.bool m)) base (b.mark j k (metE m x)) ∧ w.grownBy (w.setCell ⟨g, k * 5 + 4, none⟩ (.bool m)) (some g) := by
  cases j with
  | zero =>
    obtain ⟨limit, vm, mem, vr, runs⟩ := b
    simp only [Buf.part] at hv hn hk
    subst hv
    obtain ⟨h1, hg⟩ := h.mem.metAt m hn hk
    have hEg : EBlk (.slice (some ⟨g, 0, none⟩) n cap) mem g := .inl rfl
    refine ⟨⟨h1, own_set h.sl (fun q hq e => h.mr g hEg (by have e' : q = g := e; rw [← e']; exact hq)) _, fun p hp => (h.runs p hp).grown hg (fun q hq e => by
      injection e with e
      subst e
      exact (h.far p hp _ hq).1 hEg), fun p hp q hq => ⟨fun h2 => (h.far p hp q hq).1 ((eblk_set m hk).1 h2), (h.far p hp q hq).2⟩, fun q hq => h.mr q ((eblk_set m hk).1 hq), h.pair⟩, hg⟩
  | succ i =>
    obtain ⟨limit, vm, mem, vr, runs⟩ := b
    have hi : i < runs.length := by simpa using hj
    have e0 : (⟨limit, vm, mem, vr, runs⟩ : Buf).part (i + 1) = runs[i] := by simp [Buf.part, hi]
    rw [e0] at hv hn hk
    have hr := h.runs runs[i] (List.getElem_mem hi)
    have hap := fun {i' : Nat} (h1 : i' < runs.length) (h2 : i' ≠ i) (q : Nat) => h.split2 (i := i') (j := i) h1 hi h2 q
    have hfar := h.far runs[i] (List.getElem_mem hi)
    rw [hv] at hr
    have hEg : EBlk runs[i].1 runs[i].2 g := .inl (by rw [hv]; rfl)
    obtain ⟨h1, hg⟩ := hr.metAt m hn hk
    have hset : ∀ q, EBlk runs[i].1 (runs[i].2.set k (metE m x)) q ↔ EBlk runs[i].1 runs[i].2 q := fun q => eblk_set m hk
    have hmap : (runs.set i (runs[i].1, runs[i].2.set k (metE m x))).map (·.1) = runs.map (·.1) := by
      rw [List.map_set]
      apply List.ext_getElem?
      intro q
      rw [List.getElem?_set]
      split
      · rename_i e; subst e; simp [hi]
      · rfl
    have hmk : (⟨limit, vm, mem, vr, runs⟩ : Buf).mark (i + 1) k (metE m x) = ⟨limit, vm, mem, vr, runs.set i (runs[i].1, runs[i].2.set k (metE m x))⟩ := by
      show (⟨limit, vm, mem, vr, runs.set i (((⟨limit, vm, mem, vr, runs⟩ : Buf).part (i + 1)).1, ((⟨limit, vm, mem, vr, runs⟩ : Buf).part (i + 1)).2.set k (metE m x))⟩ : Buf) = _
      rw [e0]
    rw [hmk]
    refine ⟨⟨h.mem.grown hg (fun q hq e => by injection e with e; subst e; exact (hfar _ hEg).1 hq), ?_, fun p hp => ?_, fun p hp q hq => ?_, h.mr, ?_⟩, hg⟩
    · show World.ownsRow _ _ _ _ _ (runs.set i _).length ((runs.set i _).map (·.1))
      rw [hmap, List.length_set]
      exact own_set h.sl (fun q hq e => (hfar g hEg).2 (by have e' : q = g := e; rw [← e']; exact hq)) _
    · obtain ⟨i', h2, rfl⟩ := List.getElem_of_mem hp
      rw [List.length_set] at h2
      by_cases hii : i = i'
      · subst hii
        simp only [List.getElem_set_self]
        rw [hv]
        exact h1
      · rw [List.getElem_set_ne hii]
        exact (h.runs _ (List.getElem_mem h2)).grown hg (fun q hq e => by injection e with e; subst e; exact hap h2 (fun e => hii e.symm) _ hq hEg)
    · obtain ⟨i', h2, rfl⟩ := List.getElem_of_mem hp
      rw [List.length_set] at h2
      by_cases hii : i = i'
      · subst hii
        simp only [List.getElem_set_self] at hq
        exact hfar q ((hset q).1 hq)
      · rw [List.getElem_set_ne hii] at hq
        exact h.far _ (List.getElem_mem h2) q hq
    · refine List.pairwise_iff_getElem.2 fun a c ha hc hac q hq => ?_
      simp only [List.length_set] at ha hc
      have hp := List.pairwise_iff_getElem.1 h.pair a c ha hc hac q
      have e1 : ∀ d (hd : d < runs.length), EBlk ((runs.set i (runs[i].1, runs[i].2.set k (metE m x)))[d]'(by rw [List.length_set]; exact hd)).1 ((runs.set i (runs[i].1, runs[i].2.set k (metE m x)))[d]'(by rw [List.length_set]; exact hd)).2 q ↔ EBlk runs[d].1 runs[d].2 q := by
        intro d hd
        by_cases hid : i = d
        · subst hid
          simp only [List.getElem_set_self]
          exact hset q
        · rw [List.getElem_set_ne hid]
      rw [e1 c hc]
      exact hp ((e1 a ha).1 hq)

end Go.Proofs.YteabfalklgffmaaDoor
