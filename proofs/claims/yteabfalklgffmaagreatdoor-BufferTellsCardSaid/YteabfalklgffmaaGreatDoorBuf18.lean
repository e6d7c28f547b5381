/-
  The reference's PutIn.
-/
import Derived.Test.YteabfalklgffmaaGreatDoorBuf17
import Derived.Test.YteabfalklgffmaaGreatDoorBuf10
set_option linter.unusedSimpArgs false
set_option linter.unusedVariables false
namespace Go.Proofs.YteabfalklgffmaaGreatDoor
open Go.RowKit

set_option maxHeartbeats 1000000 in
theorem every_any (x : Ent) (w : World) : Calls Tryz.prog 33 #[x.agg] w fun e w' => e = .returned (.bool true) ∧ Below w.heap.size w w' := by
  unfold Ent.agg
  have hB := below_alloc w (.cells #[.string (str x.e.key), .int .i64 x.e.t, .int .i64 x.e.s, x.v, .bool x.e.met] 48)
  go_enter Tryz.func33, Tryz.ntmps33
  go_wp2
  go_ret
  exact ⟨rfl, hB⟩
theorem good_runs {b : Buf} (hg : GoodB b.bu) : b.runs.length ≤ 4096 := by
  have h0 : ∀ l : List (List En), (∀ x ∈ l, x ≠ []) → l.length ≤ l.flatten.length := by
    intro l
    induction l with
    | nil => intro _; simp
    | cons a t ih =>
      intro h
      have h1 := ih fun x hx => h x (List.mem_cons_of_mem _ hx)
      have h2 : 1 ≤ a.length := by
        have := h a (by simp)
        cases a with
        | nil => exact absurd rfl this
        | cons _ _ => simp
      simp only [List.length_cons, List.flatten_cons, List.length_append]
      omega
  have h1 := h0 b.bu.runs hg.full
  have h2 := hg.few
  have h3 : b.bu.all.length = b.bu.mem.length + b.bu.runs.flatten.length := by unfold Bu.all Bu.parts; simp
  have h4 : b.bu.runs.length = b.runs.length := List.length_map _
  omega
theorem good_mem {b : Buf} (hg : GoodB b.bu) : b.mem.length ≤ 4096 := by
  have h2 := hg.few
  have h3 : b.bu.all.length = b.bu.mem.length + b.bu.runs.flatten.length := by unfold Bu.all Bu.parts; simp
  have h4 : b.bu.mem.length = b.mem.length := ens_len _
  omega
theorem keep_all {b : Buf} (hg : GoodB b.bu) : siftB b.bu (keepF fun _ => true) = b.bu := by
  rw [show (keepF fun _ => true) = fun e => [e] from by funext e; exact if_pos rfl]
  exact siftB_id hg.full
theorem isE_mem {b : Bu} {e : En} (h : isE b.all e = false) : isE b.mem e = false := by
  rw [isE_no] at h ⊢
  intro x hx
  exact h x (by unfold Bu.all Bu.parts; simp [hx])
theorem ownEvery_any (b : Buf) (w : World) (hb : b.ok w) (hf : b.fit) (hg : GoodB b.bu) :
    Calls Tryz.prog 32 #[b.agg, .func (.func 33) #[] #[]] w fun e w' => ∃ b', e = .returned b'.agg ∧ OwnBuf w' (w.heap.size + 3) b' ∧ b'.bu = b.bu ∧ Below w.heap.size w w' ∧ w.heap.size + 3 ≤ w'.heap.size := by
  have h := ownBuffer_any 33 #[] (fun _ => true) b w hb (by have := hg.few; omega) (by have := good_runs hg; omega) (fun k x hx => ((hf.part k).1 x hx).len)
    (enters_of Tryz.func33 (by kernel_rfl) rfl) (fun x W _ _ => every_any x W)
  rw [keep_all hg] at h
  exact h
theorem bu_eq {a b : Buf} (h : a.bu = b.bu) : a.limit = b.limit ∧ ens a.mem = ens b.mem ∧ a.mem.length = b.mem.length ∧ a.runs.length = b.runs.length := by
  obtain ⟨h1, h2, h3, -⟩ := bu_runs h
  exact ⟨h1, h2, by have := congrArg List.length h2; rwa [ens_len, ens_len] at this, h3⟩

/-- A block that is none of a buffer's. -/
structure Buf.off (b : Buf) (o : Nat) : Prop where
  mem : ∀ k, EBlk b.vm b.mem k → k ≠ o
  vr : ∀ k, b.vr.ownBlock = some k → k ≠ o
  runs : ∀ q ∈ b.runs, ∀ k, EBlk q.1 q.2 k → k ≠ o
theorem OwnBuf.off {w : World} {base : Nat} {b : Buf} (h : OwnBuf w base b) {o : Nat} (ho : w.heap.size ≤ o) : b.off o :=
  ⟨fun k hk => by have := (h.mem.range hk).2; omega, fun k hk => by have := own_lt h.sl k hk; omega, fun q hq k hk => by have := ((h.runs q hq).range hk).2; omega⟩
theorem OwnE.setOff {w : World} {base : Nat} {v : Value} {l : List Ent} (h : OwnE w base v l) {p : Addr} (hf : ∀ k, EBlk v l k → k ≠ p.block) (u : Value) : OwnE (w.setCell p u) base v l :=
  h.setFar (fun k hk => hf k (.inl hk)) (fun c hc k hk => hf k (.inr ⟨c, hc, hk⟩)) u
theorem OwnBuf.setOff {w : World} {base : Nat} {b : Buf} (h : OwnBuf w base b) {p : Addr} (hf : b.off p.block) (u : Value) : OwnBuf (w.setCell p u) base b :=
  ⟨h.mem.setOff hf.mem u, own_set h.sl hf.vr u, fun q hq => (h.runs q hq).setOff (hf.runs q hq) u, h.far, h.mr, h.pair⟩
theorem Buf.off.setMem {b : Buf} {o : Nat} (h : b.off o) {v : Value} {l : List Ent} (hf : ∀ k, EBlk v l k → k ≠ o) : (⟨b.limit, v, l, b.vr, b.runs⟩ : Buf).off o := ⟨hf, h.vr, h.runs⟩
/-- Mem becomes a run. -/
theorem OwnBuf.spill {w w' : World} {base : Nat} {b : Buf} {v' : Value} (h : OwnBuf w base b) (hown : w'.ownsRow base 22 1 v' (b.runs.length + 1) (b.runs.map (·.1) ++ [b.vm])) (hg : w.grownBy w' b.vr.ownBlock) (hat : v'.ownBlock = b.vr.ownBlock ∨ v'.ownBlock = some w.heap.size) :
    OwnBuf w' base ⟨b.limit, .slice none 0 0, [], v', b.runs ++ [(b.vm, b.mem)]⟩ :=
  h.noMem.snoc h.mem (fun k hk => ⟨eblk_nil rfl, h.mr k hk, fun p hp h2 => (h.far p hp k h2).1 hk⟩) hown hg hat
theorem Buf.off.spill {b : Buf} {o m : Nat} (h : b.off o) {v' : Value} (hat : v'.ownBlock = b.vr.ownBlock ∨ v'.ownBlock = some m) (hm : m ≠ o) : (⟨b.limit, .slice none 0 0, [], v', b.runs ++ [(b.vm, b.mem)]⟩ : Buf).off o := by
  refine ⟨fun k hk => absurd hk (eblk_nil rfl), fun k hk => ?_, fun q hq k hk => ?_⟩
  · rcases hat with e | e
    · exact h.vr k (e ▸ hk)
    · rw [e] at hk; injection hk with hk; omega
  · rcases List.mem_append.1 hq with hq | hq
    · exact h.runs q hq k hk
    · simp only [List.mem_singleton] at hq
      subst hq
      exact h.mem k hk


end Go.Proofs.YteabfalklgffmaaGreatDoor
