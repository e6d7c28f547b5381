/-
  Buffers in memory of one's own.
-/
import Derived.Test.YteabfalklgffmaaDoorBuf15
set_option linter.unusedSimpArgs false
set_option linter.unusedVariables false
namespace Go.Proofs.YteabfalklgffmaaDoor
open Go.RowKit

/-- A buffer, all of whose blocks are new and apart. -/
structure OwnBuf (w : World) (base : Nat) (b : Buf) : Prop where
  mem : OwnE w base b.vm b.mem
  sl : w.ownsRow base 22 1 b.vr b.runs.length (b.runs.map (·.1))
  runs : ∀ p ∈ b.runs, OwnE w base p.1 p.2
  far : ∀ p ∈ b.runs, ∀ k, EBlk p.1 p.2 k → ¬ EBlk b.vm b.mem k ∧ b.vr.ownBlock ≠ some k
  mr : ∀ k, EBlk b.vm b.mem k → b.vr.ownBlock ≠ some k
  pair : b.runs.Pairwise fun p q => ∀ k, EBlk p.1 p.2 k → ¬ EBlk q.1 q.2 k
theorem OwnBuf.ok {w : World} {base : Nat} {b : Buf} (h : OwnBuf w base b) : b.ok w := ⟨h.mem.ents, Sl.of_own h.sl, fun p hp => (h.runs p hp).ents⟩
theorem OwnBuf.below {w w' : World} {base : Nat} {b : Buf} (h : OwnBuf w base b) (hb : Below w.heap.size w w') : OwnBuf w' base b :=
  ⟨h.mem.below hb, own_below h.sl hb, fun p hp => (h.runs p hp).below hb, h.far, h.mr, h.pair⟩
theorem OwnBuf.drew {w : World} {base : Nat} {b : Buf} (h : OwnBuf w base b) : OwnBuf w.drew base b := ⟨h.mem.drew, h.sl, fun p hp => (h.runs p hp).drew, h.far, h.mr, h.pair⟩
theorem OwnBuf.low {w : World} {base base' : Nat} {b : Buf} (h : OwnBuf w base b) (hb : base' ≤ base) : OwnBuf w base' b :=
  ⟨h.mem.low hb, own_low h.sl hb, fun p hp => (h.runs p hp).low hb, h.far, h.mr, h.pair⟩
theorem eblk_nil {v : Value} {k : Nat} (hv : v.ownBlock = none) : ¬ EBlk v [] k := by
  rintro (h | ⟨c, hc, -⟩)
  · rw [hv] at h; cases h
  · cases hc
theorem OwnBuf.empty (w : World) (base : Nat) (limit : Int) : OwnBuf w base ⟨limit, .slice none 0 0, [], .slice none 0 0, []⟩ :=
  ⟨OwnE.nil _ _, ⟨rfl, .inl ⟨rfl, rfl⟩⟩, nofun, nofun, fun k hk => absurd hk (eblk_nil rfl), .nil⟩
/-- A store that hits none of its blocks. -/
theorem OwnBuf.setFar {w : World} {base : Nat} {b : Buf} (h : OwnBuf w base b) {p : Addr} (hp : p.block < base) (u : Value) : OwnBuf (w.setCell p u) base b :=
  ⟨h.mem.set hp u, own_set h.sl (fun k hk e => by have := own_ge h.sl k hk; omega) u, fun q hq => (h.runs q hq).set hp u, h.far, h.mr, h.pair⟩
/-- Entries that lie behind all that is there. -/
theorem OwnBuf.apart {w w' : World} {base base' : Nat} {b : Buf} {v : Value} {l : List Ent} (h : OwnBuf w base b) (hn : OwnE w' base' v l) (hb : w.heap.size ≤ base') {k : Nat} (hk : EBlk v l k) : ¬ EBlk b.vm b.mem k ∧ b.vr.ownBlock ≠ some k ∧ ∀ p ∈ b.runs, ¬ EBlk p.1 p.2 k := by
  have h1 := (hn.range hk).1
  refine ⟨fun h2 => ?_, fun h2 => ?_, fun p hp h2 => ?_⟩
  · have := (h.mem.range h2).2; omega
  · have := (h.sl.lt k h2).2; omega
  · have := ((h.runs p hp).range h2).2; omega
/-- Mem is laid in. -/
theorem OwnBuf.setMem {w : World} {base : Nat} {b : Buf} {v : Value} {l : List Ent} (h : OwnBuf w base b) (hn : OwnE w base v l) (hf : ∀ k, EBlk v l k → b.vr.ownBlock ≠ some k ∧ ∀ p ∈ b.runs, ¬ EBlk p.1 p.2 k) : OwnBuf w base ⟨b.limit, v, l, b.vr, b.runs⟩ :=
  ⟨hn, h.sl, h.runs, fun p hp k hk => ⟨fun h2 => (hf k h2).2 p hp hk, (h.far p hp k hk).2⟩, fun k hk => (hf k hk).1, h.pair⟩
theorem OwnBuf.noMem {w : World} {base : Nat} {b : Buf} (h : OwnBuf w base b) : OwnBuf w base ⟨b.limit, .slice none 0 0, [], b.vr, b.runs⟩ :=
  h.setMem (OwnE.nil _ _) fun k hk => absurd hk (eblk_nil rfl)
/-- Mem grows in its place. -/
theorem OwnBuf.memGrown {w w' : World} {base : Nat} {b : Buf} {v : Value} {l : List Ent} (h : OwnBuf w base b) (hn : OwnE w' base v l) (hg : w.grownBy w' b.vm.ownBlock) (hf : ∀ k, EBlk v l k → EBlk b.vm b.mem k ∨ w.heap.size ≤ k) : OwnBuf w' base ⟨b.limit, v, l, b.vr, b.runs⟩ := by
  refine ⟨hn, h.sl.kept hg ?_, fun p hp => (h.runs p hp).grown hg fun k hk e => (h.far p hp k hk).1 (.inl e), fun p hp k hk => ⟨fun h2 => ?_, (h.far p hp k hk).2⟩, fun k hk h2 => ?_, h.pair⟩
  · cases hv : b.vr.ownBlock with
    | none => exact .inl rfl
    | some k => exact .inr fun e => h.mr k (.inl e.symm) hv
  · rcases hf k h2 with h3 | h3
    · exact (h.far p hp k hk).1 h3
    · have := ((h.runs p hp).range hk).2; omega
  · rcases hf k hk with h3 | h3
    · exact h.mr k h3 h2
    · have := (h.sl.lt k h2).2; omega
/-- One more run. -/
theorem OwnBuf.snoc {w w' : World} {base : Nat} {b : Buf} {v v' : Value} {l : List Ent} (h : OwnBuf w base b) (hn : OwnE w base v l) (hf : ∀ k, EBlk v l k → ¬ EBlk b.vm b.mem k ∧ b.vr.ownBlock ≠ some k ∧ ∀ p ∈ b.runs, ¬ EBlk p.1 p.2 k)
    (hown : w'.ownsRow base 22 1 v' (b.runs.length + 1) (b.runs.map (·.1) ++ [v])) (hg : w.grownBy w' b.vr.ownBlock) (hat : v'.ownBlock = b.vr.ownBlock ∨ v'.ownBlock = some w.heap.size) : OwnBuf w' base ⟨b.limit, b.vm, b.mem, v', b.runs ++ [(v, l)]⟩ := by
  have hv : ∀ k, v'.ownBlock = some k → b.vr.ownBlock = some k ∨ k = w.heap.size := fun k hk => by
    rcases hat with e | e
    · exact .inl (e ▸ hk)
    · rw [e] at hk; injection hk with hk; exact .inr hk.symm
  refine ⟨h.mem.grown hg fun k hk => h.mr k hk, ?_, fun p hp => ?_, fun p hp k hk => ?_, fun k hk h2 => ?_, ?_⟩
  · show w'.ownsRow base 22 1 v' (b.runs ++ [(v, l)]).length ((b.runs ++ [(v, l)]).map (·.1))
    rw [List.length_append, List.map_append]
    exact hown
  · rcases List.mem_append.1 hp with hp | hp
    · exact (h.runs p hp).grown hg fun k hk => (h.far p hp k hk).2
    · simp only [List.mem_singleton] at hp
      subst hp
      exact hn.grown hg fun k hk => (hf k hk).2.1
  · rcases List.mem_append.1 hp with hp | hp
    · refine ⟨(h.far p hp k hk).1, fun h2 => ?_⟩
      rcases hv k h2 with h3 | h3
      · exact (h.far p hp k hk).2 h3
      · have := ((h.runs p hp).range hk).2; omega
    · simp only [List.mem_singleton] at hp
      subst hp
      refine ⟨(hf k hk).1, fun h2 => ?_⟩
      rcases hv k h2 with h3 | h3
      · exact (hf k hk).2.1 h3
      · have := (hn.range hk).2; omega
  · rcases hv k h2 with h3 | h3
    · exact h.mr k hk h3
    · have := (h.mem.range hk).2; omega
  · refine List.pairwise_append.2 ⟨h.pair, List.pairwise_singleton _ _, fun p hp q hq k hk h2 => ?_⟩
    simp only [List.mem_singleton] at hq
    subst hq
    exact (hf k h2).2.2 p hp hk
theorem runI : EInfo Tryd.prog 22 1 24 := by
  have h : (Tryd.prog.info? 22).map (fun i => (i.zero, i.size, i.bytes)) = some (some (.slice none 0 0), 1, 24) := by kernel_rfl
  obtain ⟨i, hi, h1, h2, h3⟩ := info_parts h
  exact ⟨i, _, hi, h1, h2, h3, rfl, by omega⟩
/-- What stays of the first j parts: a buffer under way. -/
def siftK (b : Buf) (f : En → List En) (j : Nat) : Bu := ⟨b.limit, if j = 0 then [] else (ens b.mem).flatMap f, ((b.runs.take (j - 1)).map fun p => (ens p.2).flatMap f).filter fun l => !l.isEmpty⟩
theorem siftK_all (b : Buf) (f : En → List En) : siftK b f (b.runs.length + 1) = siftB b.bu f := by
  unfold siftK siftB Buf.bu
  rw [if_neg (by omega), Nat.add_sub_cancel, List.take_length]
  simp [List.map_map, Function.comp_def]
theorem siftK_one (b : Buf) (f : En → List En) : siftK b f 1 = ⟨b.limit, (ens b.mem).flatMap f, []⟩ := by simp [siftK]
theorem siftK_succ (b : Buf) (f : En → List En) {j : Nat} {p : Value × List Ent} (hx : b.runs[j]? = some p) : siftK b f (j + 2) = ⟨b.limit, (siftK b f (j + 1)).mem, (siftK b f (j + 1)).runs ++ if (ens p.2).flatMap f = [] then [] else [(ens p.2).flatMap f]⟩ := by
  unfold siftK
  rw [if_neg (by omega), if_neg (by omega), show j + 2 - 1 = j + 1 from rfl, Nat.add_sub_cancel, List.take_add_one, hx, List.map_append, List.filter_append]
  congr 1
  congr 1
  by_cases h : (ens p.2).flatMap f = []
  · rw [if_pos h]; simp [h]
  · rw [if_neg h]; simp [h]

end Go.Proofs.YteabfalklgffmaaDoor
