/-
  What a range over the parts needs: append inside of it; what a record's turn leaves.
-/
import Derived.Test.YteabfalklgffmaaDoorBuf16
set_option linter.unusedSimpArgs false
set_option linter.unusedVariables false
namespace Go.Proofs.YteabfalklgffmaaDoor
open Go.RowKit

theorem wpListIn_app {F : Fence} {q : Nat} {P : Program} {w : World} {ops : Array Oper} {rest : List Oper} {o : Oper} {a : Act} {Q : Exit → Act → World → Prop} (hgd : o.guard = none) (s x : Operand) (t : TypeId)
    (ho : o.op = .call { callee := .builtin .append, args := #[s, x], argTypes := #[t, t] })
    (base : Nat) (e : TypeId) (size bytes : Nat) (ht : P.underlying t = some (.slice e)) (hi : EInfo P e size bytes)
    (v : Value) (n : Nat) (xs : List Value) (hv : a.eval s = v) (hown : w.ownsRow base e size v n xs) (sv : Value) (m : Nat) (news : List Value) (hx : a.eval x = sv) (hs : Sl w sv m news) (hl : news.length = m * size) (h1 : ∀ u ∈ news, u.oneCell' = true)
    (h63 : n + m ≤ maxLen) (hbytes : (n + m) * bytes ≤ 140737488355328) (hbase : base ≤ w.heap.size)
    (h : ∀ v' w', w'.ownsRow base e size v' (n + m) (xs ++ news) → w.grownBy w' v.ownBlock → (v'.ownBlock = v.ownBlock ∨ v'.ownBlock = some w.heap.size) → wpListIn F q P ops Q rest (a.put o.dst v') w') : wpListIn F q P ops Q (o :: rest) a w := by
  refine wpListIn_plain hgd fun K hK' => ?_
  obtain ⟨v', w', hrun, r1, r2, r3⟩ := run_app (P := P) (w := w) base t o.type e size bytes ht hi v n xs hown sv m news hs hl h1 h63 hbytes hbase
  unfold Oper.wpIn
  refine ⟨?_, ?_⟩
  · simp [Oper.about, ho, resolve, Target.leads, Sem.run_pure]
  · rw [Oper.semAt_plain F _ _ (by rw [ho]; intro c hc'; cases hc')]
    simp [execOp, ho, resolve, invoke, builtin, hv, hx, hrun, Result.andThen]
    exact hK' _ _ (h v' w' r1 r2 r3)

/-- A record's turn: the block is none of cells. -/
def RecRow (A : World) (row : Option Nat) : Prop := ∀ r, row = some r → ∃ o : Obj, A.heap[r]? = some o ∧ o.isCells = false
theorem RecRow.cells {A : World} {row : Option Nat} (h : RecRow A row) {g : Nat} {cs : Array Value} {t : TypeId} {fr : Nat × Nat} (hg : A.heap[g]? = some (.cells cs t fr)) : row ≠ some g := fun e => by
  obtain ⟨o, ho, hc⟩ := h g e
  rw [hg] at ho
  injection ho with ho
  subst ho
  cases hc
theorem own_rec {A B : World} {row : Option Nat} {base : Nat} {e : TypeId} {size : Nat} {v : Value} {n : Nat} {xs : List Value} (h : A.ownsRow base e size v n xs) (hg : A.grownBy B row) (hr : RecRow A row) : B.ownsRow base e size v n xs := by
  refine h.kept hg ?_
  rcases h.2 with ⟨hv, -⟩ | ⟨g, cap, cur, hv, -, hb, -⟩
  · exact .inl (by rw [hv]; rfl)
  · exact .inr fun e => hr.cells hb (by rw [← e, hv]; rfl)
theorem sl_rec {A B : World} {row : Option Nat} {v : Value} {n : Nat} {cs : List Value} (h : Sl A v n cs) (hg : A.grownBy B row) (hr : RecRow A row) : Sl B v n cs := by
  obtain ⟨X, c, rfl, h1, h2, h0, h3⟩ := h
  refine ⟨X, c, rfl, h1, h2, h0, fun hne => ?_⟩
  obtain ⟨b, off, rfl, hc⟩ := h3 hne
  refine ⟨b, off, rfl, fun j u hj => ?_⟩
  have hcc := hc j u hj
  have hlt := World.block_lt_of_cell? A _ hcc
  have hne : some b ≠ row := fun e => by
    obtain ⟨o, ho, hoc⟩ := hr b e.symm
    simp only [World.cell?, ho] at hcc
    cases o <;> simp_all [Obj.isCells]
  rw [World.cell?_of_block (hg.block b hlt hne)]
  exact hcc
theorem OwnE.recd {A B : World} {row : Option Nat} {base : Nat} {v : Value} {l : List Ent} (h : OwnE A base v l) (hg : A.grownBy B row) (hr : RecRow A row) : OwnE B base v l :=
  ⟨own_rec h.own hg hr, fun c hc => sl_rec (h.rows c hc) hg hr, fun c hc k hk => ⟨(h.far c hc k hk).1, Nat.lt_of_lt_of_le (h.far c hc k hk).2.1 hg.size, (h.far c hc k hk).2.2⟩⟩
theorem OwnBuf.recd {A B : World} {row : Option Nat} {base : Nat} {b : Buf} (h : OwnBuf A base b) (hg : A.grownBy B row) (hr : RecRow A row) : OwnBuf B base b :=
  ⟨h.mem.recd hg hr, own_rec h.sl hg hr, fun p hp => (h.runs p hp).recd hg hr, h.far, h.mr, h.pair⟩

/-- What stays of some parts, one behind the other. -/
def sstep (b : Buf) (f : En → List En) (u : Bu) (k : Nat) : Bu :=
  if k = 0 then ⟨u.limit, (ens (b.part k).2).flatMap f, u.runs⟩ else if (ens (b.part k).2).flatMap f = [] then u else ⟨u.limit, u.mem, u.runs ++ [(ens (b.part k).2).flatMap f]⟩
def siftP (b : Buf) (f : En → List En) (pre : List Nat) : Bu := pre.foldl (sstep b f) ⟨b.limit, [], []⟩
theorem siftP_snoc (b : Buf) (f : En → List En) (pre : List Nat) (k : Nat) : siftP b f (pre ++ [k]) = sstep b f (siftP b f pre) k := by unfold siftP; rw [List.foldl_append]; rfl
theorem siftP_range (b : Buf) (f : En → List En) : ∀ j, j ≤ b.runs.length + 1 → siftP b f (List.range j) = siftK b f j
  | 0, _ => by simp [siftP, siftK]
  | 1, _ => by
    rw [show List.range 1 = [] ++ [0] from rfl, siftP_snoc, siftK_one]
    simp [siftP, sstep, Buf.part]
  | j + 2, h => by
    rw [List.range_succ, siftP_snoc, siftP_range b f (j + 1) (by omega)]
    have hx := List.getElem?_eq_getElem (l := b.runs) (i := j) (by omega)
    rw [siftK_succ b f hx]
    unfold sstep
    rw [if_neg (by omega), part_run b hx]
    by_cases h0 : (ens b.runs[j].2).flatMap f = []
    · rw [if_pos h0, if_pos h0, List.append_nil]; rfl
    · rw [if_neg h0, if_neg h0]; rfl
theorem siftP_all (b : Buf) (f : En → List En) : siftP b f (List.range (b.runs.length + 1)) = siftB b.bu f := by rw [siftP_range b f _ (Nat.le_refl _), siftK_all]
theorem siftP_limit (b : Buf) (f : En → List En) (pre : List Nat) : (siftP b f pre).limit = b.limit := by
  have : ∀ (l : List Nat) (u : Bu), (l.foldl (sstep b f) u).limit = u.limit := by
    intro l
    induction l with
    | nil => exact fun _ => rfl
    | cons k t ih =>
      intro u
      rw [List.foldl_cons, ih]
      unfold sstep
      split
      · rfl
      · split <;> rfl
  exact this pre _
/-- Entries that stay, some of them turned. -/
def siftF (keep met : En → Bool) (e : En) : List En := if keep e = true then [{ e with met := met e }] else []
theorem siftF_true {keep met : En → Bool} {e : En} (h : keep e = true) : siftF keep met e = [{ e with met := met e }] := if_pos h
theorem siftF_false {keep met : En → Bool} {e : En} (h : keep e = false) : siftF keep met e = [] := if_neg (by rw [h]; simp)

theorem kp_grown {m Bs : Nat} {W W' : World} {row : Option Nat} (hg : W.grownBy W' row) (hm : m ≤ W.heap.size) (hB : Bs < W.heap.size) (hr : ∀ k, row = some k → m ≤ k ∧ k ≠ Bs) : KpB m Bs W W' :=
  ⟨(Below.refl m W).grown hg hm (fun k hk => (hr k hk).1), hg.block Bs hB (fun e => (hr Bs e.symm).2 rfl)⟩
theorem ko_own {W W' : World} {base : Nat} {e : TypeId} {size : Nat} {v : Value} {n : Nat} {xs : List Value} (h : W.ownsRow base e size v n xs) (hg : W.grownBy W' v.ownBlock) : KeepsOthers W W' :=
  KeepsOthers.of_grownBy hg fun j o hj ho => by
    rcases h.2 with ⟨hv, -⟩ | ⟨g, cap, cur, hv, -, hb, -⟩
    · rw [hv] at hj; cases hj
    · rw [hv] at hj
      have : g = j := by simpa [Value.ownBlock] using hj
      subst this
      rw [hb] at ho
      injection ho with ho
      rw [← ho]; rfl

end Go.Proofs.YteabfalklgffmaaDoor
