/-
  Plain law of buffers: what was done to right buffers leaves right ones; which entries there are then.
-/
import Derived.Test.YteabfalklgffmaaDoorBufM5
import Derived.Test.YteabfalklgffmaaDoorBuf20
set_option linter.unusedSimpArgs false
set_option linter.unusedVariables false
namespace Go.Proofs.YteabfalklgffmaaDoor
open Go.Lib (compareBytes)

theorem flat_filter (L : List (List En)) : (L.filter fun l => !l.isEmpty).flatten = L.flatten := by
  induction L with
  | nil => rfl
  | cons a t ih =>
    cases a with
    | nil => simpa using ih
    | cons x u => simp [ih]
theorem flat_flatMap (L : List (List En)) (f : En → List En) : (L.map fun l => l.flatMap f).flatten = L.flatten.flatMap f := by
  induction L with
  | nil => rfl
  | cons a t ih => rw [List.map_cons, List.flatten_cons, ih, List.flatten_cons, List.flatMap_append]
theorem siftB_all (b : Bu) (f : En → List En) : (siftB b f).all = b.all.flatMap f := by
  show (b.mem.flatMap f :: ((b.runs.map fun l => l.flatMap f).filter fun l => !l.isEmpty)).flatten = _
  rw [List.flatten_cons, flat_filter, flat_flatMap, ← List.flatMap_append]
  rfl
theorem mem_siftF {keep met : En → Bool} {x y : En} (h : y ∈ siftF keep met x) : keep x = true ∧ y = { x with met := met x } := by
  unfold siftF at h
  by_cases hk : keep x = true
  · rw [if_pos hk] at h
    exact ⟨hk, List.mem_singleton.1 h⟩
  · rw [if_neg hk] at h
    cases h
theorem sift_pair {keep met : En → Bool} {R : En → En → Prop} (hR : ∀ x y m n, R x y → R { x with met := m } { y with met := n }) : ∀ {l : List En}, l.Pairwise R → (l.flatMap (siftF keep met)).Pairwise R
  | [], _ => .nil
  | x :: t, h => by
    obtain ⟨h1, h2⟩ := List.pairwise_cons.1 h
    rw [List.flatMap_cons]
    refine List.pairwise_append.2 ⟨?_, sift_pair hR h2, fun y hy z hz => ?_⟩
    · unfold siftF
      split
      · exact List.pairwise_singleton _ _
      · exact .nil
    · obtain ⟨-, rfl⟩ := mem_siftF hy
      obtain ⟨u, hu, hz⟩ := List.mem_flatMap.1 hz
      obtain ⟨-, rfl⟩ := mem_siftF hz
      exact hR _ _ _ _ (h1 u hu)
theorem sift_len {keep met : En → Bool} : ∀ (l : List En), (l.flatMap (siftF keep met)).length ≤ l.length
  | [] => Nat.le_refl _
  | x :: t => by
    have h1 : (siftF keep met x).length ≤ 1 := by unfold siftF; split <;> simp
    have h2 := sift_len (keep := keep) (met := met) t
    rw [List.flatMap_cons, List.length_append, List.length_cons]
    omega
theorem sift_good {b : Bu} {keep met : En → Bool} (h : GoodB b) : GoodB (siftB b (siftF keep met)) := by
  have hin : ∀ e ∈ (siftB b (siftF keep met)).all, ∃ x ∈ b.all, e = { x with met := met x } := by
    intro e he
    rw [siftB_all] at he
    obtain ⟨x, hx, he⟩ := List.mem_flatMap.1 he
    exact ⟨x, hx, (mem_siftF he).2⟩
  refine ⟨h.limit, ?_, ?_, ?_, ?_, ?_, ?_⟩
  · rw [siftB_all]
    exact Nat.le_trans (sift_len _) h.few
  · have := sift_len (keep := keep) (met := met) b.mem
    have h2 := h.mem
    show ((b.mem.flatMap (siftF keep met)).length : Int) ≤ b.limit
    omega
  · intro l hl
    have := (List.mem_filter.1 hl).2
    intro e
    rw [e] at this
    simp at this
  · intro l hl
    rcases List.mem_cons.1 hl with rfl | hl
    · exact sift_pair (fun _ _ _ _ h => h) (h.up b.mem (by simp [Bu.parts]))
    · obtain ⟨m, hm, rfl⟩ := List.mem_map.1 (List.mem_filter.1 hl).1
      exact sift_pair (fun _ _ _ _ h => h) (h.up m (by simp [Bu.parts, hm]))
  · intro e he
    obtain ⟨x, hx, rfl⟩ := hin e he
    exact h.ok x hx
  · rw [siftB_all]
    exact sift_pair (fun _ _ _ _ h => h) h.alone
theorem putB_perm (b : Bu) (e : En) : (putB b e).all.Perm (e :: b.all) := by
  unfold putB
  have h1 : b.all = b.mem ++ b.runs.flatten := by simp [Bu.all, Bu.parts]
  rw [h1]
  split
  · show ([] :: (b.runs ++ [insE b.mem e])).flatten.Perm _
    rw [List.flatten_cons, List.flatten_append, List.nil_append]
    simp only [List.flatten_cons, List.flatten_nil, List.append_nil]
    exact (List.perm_append_comm).trans ((insE_perm b.mem e).append_right _)
  · show (insE b.mem e :: b.runs).flatten.Perm _
    rw [List.flatten_cons]
    exact (insE_perm b.mem e).append_right _
theorem put_good {b : Bu} {e : En} (h : GoodB b) (hp : putE b e = 0) : GoodB (putB b e) := by
  obtain ⟨h1, h2, h3⟩ : okE e = true ∧ isE b.all e = false ∧ b.all.length < 4096 := by
    unfold putE at hp
    by_cases a1 : okE e = false
    · rw [if_pos a1] at hp; cases hp
    · rw [if_neg a1] at hp
      by_cases a2 : isE b.all e = true
      · rw [if_pos a2] at hp; cases hp
      · rw [if_neg a2] at hp
        by_cases a3 : 4096 ≤ b.all.length
        · rw [if_pos a3] at hp; cases hp
        · exact ⟨by simpa using a1, by simpa using a2, by omega⟩
  have hP := putB_perm b e
  have hmem : isE b.mem e = false := by
    rw [isE_no] at h2 ⊢
    exact fun x hx => h2 x (by unfold Bu.all Bu.parts; simp [hx])
  have hup := insE_up (h.up b.mem (by simp [Bu.parts])) hmem
  have hlim : (putB b e).limit = b.limit := by unfold putB; split <;> rfl
  have hA : Alone (putB b e).all := by
    refine alone_perm hP.symm (List.pairwise_cons.2 ⟨fun x hx e0 => ?_, h.alone⟩)
    have := (isE_no.1 h2) x hx
    rw [cmpE_flip e x, e0] at this
    exact this rfl
  refine ⟨by rw [hlim]; exact h.limit, ?_, ?_, ?_, ?_, ?_, hA⟩
  · rw [hP.length_eq, List.length_cons]; omega
  · unfold putB
    split
    · show ((0 : Nat) : Int) ≤ b.limit
      have := h.limit
      omega
    · rename_i hn
      show ((insE b.mem e).length : Int) ≤ b.limit
      omega
  · intro l hl
    unfold putB at hl
    split at hl
    · rcases List.mem_append.1 hl with hl | hl
      · exact h.full l hl
      · simp only [List.mem_singleton] at hl
        subst hl
        intro e0
        have := (insE_perm b.mem e).length_eq
        rw [e0] at this
        simp at this
    · exact h.full l hl
  · intro l hl
    unfold putB at hl
    split at hl
    · rcases List.mem_cons.1 hl with rfl | hl
      · exact .nil
      · rcases List.mem_append.1 hl with hl | hl
        · exact h.up l (by simp [Bu.parts, hl])
        · simp only [List.mem_singleton] at hl
          subst hl
          exact hup
    · rcases List.mem_cons.1 hl with rfl | hl
      · exact hup
      · exact h.up l (by simp [Bu.parts, hl])
  · intro x hx
    rcases List.mem_cons.1 (hP.subset hx) with rfl | hx
    · exact h1
    · exact h.ok x hx
theorem pack_perm {b : Bu} (h : Alone b.all) : (packB b).all.Perm b.all := by
  have hs := sortE_perm h
  unfold packB
  split
  · rename_i e
    rw [e] at hs
    show ([] : List En).Perm b.all
    exact hs
  · show ([] :: [sortE b.all]).flatten.Perm b.all
    simpa using hs
theorem pack_good {b : Bu} (h : GoodB b) : GoodB (packB b) := by
  have hP := pack_perm h.alone
  refine ⟨h.limit, by rw [hP.length_eq]; exact h.few, ?_, ?_, ?_, fun e he => h.ok e (hP.subset he), alone_perm hP.symm h.alone⟩
  · show ((0 : Nat) : Int) ≤ b.limit
    have := h.limit
    omega
  · intro l hl
    unfold packB at hl
    by_cases e : sortE b.all = []
    · rw [if_pos e] at hl; cases hl
    · rw [if_neg e] at hl
      simp only [List.mem_singleton] at hl
      subst hl
      exact e
  · intro l hl
    unfold packB at hl
    rcases List.mem_cons.1 hl with rfl | hl
    · exact .nil
    · by_cases e : sortE b.all = []
      · simp only [if_pos e] at hl; cases hl
      · simp only [if_neg e, List.mem_singleton] at hl
        subst hl
        exact sortE_up _
/-- Two right buffers of the same entries. -/
structure AlikeB (a b : Bu) : Prop where
  one : GoodB a
  two : GoodB b
  perm : a.all.Perm b.all
theorem isE_perm {l m : List En} (h : l.Perm m) (e : En) : isE l e = isE m e := by
  unfold isE
  rw [Bool.eq_iff_iff, List.any_eq_true, List.any_eq_true]
  exact ⟨fun ⟨x, hx, h2⟩ => ⟨x, h.subset hx, h2⟩, fun ⟨x, hx, h2⟩ => ⟨x, h.symm.subset hx, h2⟩⟩
theorem AlikeB.err {a b : Bu} (h : AlikeB a b) (e : En) : putE a e = putE b e := by
  unfold putE
  rw [isE_perm h.perm, h.perm.length_eq]
theorem AlikeB.putS {a b : Bu} (h : AlikeB a b) (e : En) : putS a e = (if putE b e ≠ 0 then (noB, putE b e) else (putB a e, 0)) ∧ Go.Proofs.YteabfalklgffmaaDoor.putS b e = (if putE b e ≠ 0 then (noB, putE b e) else (putB b e, 0)) := by
  constructor
  · unfold Go.Proofs.YteabfalklgffmaaDoor.putS
    rw [if_neg (fun hn => hn (check_zeroB.2 h.one)), h.err e]
  · unfold Go.Proofs.YteabfalklgffmaaDoor.putS
    rw [if_neg (fun hn => hn (check_zeroB.2 h.two))]
theorem AlikeB.put {a b : Bu} (h : AlikeB a b) {e : En} (hp : putE b e = 0) : AlikeB (putB a e) (putB b e) :=
  ⟨put_good h.one ((h.err e).trans hp), put_good h.two hp, (putB_perm a e).trans ((h.perm.cons e).trans (putB_perm b e).symm)⟩
theorem dropB_sift' (b : Bu) (upto : Int) : dropB b upto = siftB b (siftF (fun e => decide (upto < e.t)) (fun e => e.met)) := by
  unfold dropB
  congr 1
  funext e
  unfold siftF
  by_cases h : upto < e.t
  · rw [if_pos h, if_pos (decide_eq_true h)]
  · rw [if_neg h, if_neg (by show ¬ decide (upto < e.t) = true; simp; omega)]
theorem AlikeB.drop {a b : Bu} (h : AlikeB a b) (upto : Int) : AlikeB (dropB a upto) (dropB b upto) := by
  rw [dropB_sift', dropB_sift']
  exact ⟨sift_good h.one, sift_good h.two, by rw [siftB_all, siftB_all]; exact h.perm.flatMap_right _⟩
theorem AlikeB.pack {a b : Bu} (h : AlikeB a b) : AlikeB a (packB b) := ⟨h.one, pack_good h.two, h.perm.trans (pack_perm h.two.alone).symm⟩
theorem AlikeB.sorted {a b : Bu} (h : AlikeB a b) : sortE a.all = sortE b.all :=
  sortE_eq ((sortE_perm h.two.alone).trans h.perm.symm) (sortE_up _)
theorem putB_limit (b : Bu) (e : En) : (putB b e).limit = b.limit := by unfold putB; split <;> rfl
theorem alike_empty {one two : Int} (h1 : inB one 1 64 = true) (h2 : inB two 1 64 = true) : AlikeB ⟨one, [], []⟩ ⟨two, [], []⟩ := by
  have g : ∀ n : Int, inB n 1 64 = true → GoodB ⟨n, [], []⟩ := fun n hn => by
    have := of_decide_eq_true hn
    refine ⟨this, by simp [Bu.all, Bu.parts], by show ((0 : Nat) : Int) ≤ n; omega, nofun, fun l hl => ?_, fun e he => ?_, ?_⟩
    · simp [Bu.parts] at hl; subst hl; exact .nil
    · simp [Bu.all, Bu.parts] at he
    · simp [Bu.all, Bu.parts, Alone]
  exact ⟨g one h1, g two h2, .refl _⟩
end Go.Proofs.YteabfalklgffmaaDoor
