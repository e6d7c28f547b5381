/-
  The reference's PutIn.
-/
import Derived.Test.YteabfalklgffmaaDoorBuf17
import Derived.Test.YteabfalklgffmaaDoorBuf10
set_option linter.unusedSimpArgs false
set_option linter.unusedVariables false
namespace Go.Proofs.YteabfalklgffmaaDoor
open Go.RowKit

set_option maxHeartbeats 1000000 in
theorem every_any (x : Ent) (w : World) : Calls Tryd.prog 32 #[x.agg] w fun e w' => e = .returned (.bool true) ∧ Below w.heap.size w w' := by
  unfold Ent.agg
  have hB := below_alloc w (.cells #[.string (str x.e.key), .int .i64 x.e.t, .int .i64 x.e.s, x.v, .bool x.e.met] 28)
  go_enter Tryd.func32, Tryd.ntmps32
  go_wp2
  go_ret
  exact ⟨rfl, hB⟩
theorem good_runs {b : Buf} (hg : GoodB b.bu) : b.runs.length ≤ 4096 := by
  have h0 : ∀ l : List (List En), (∀ x ∈ l, x ≠ []) → l.length ≤ l.flatten.length := by
    intro l
    induction l with
    | nil => intro _; simp
    | cons a t ih =>
      intro h
      have h1 := ih fun x hx => h x (List.mem_cons_of_mem _ hx)
      have h2 : 1 ≤ a.length := by
        have := h a (by simp)
        cases a with
        | nil => exact absurd rfl this
        | cons _ _ => simp
      simp only [List.length_cons, List.flatten_cons, List.length_append]
      omega
  have h1 := h0 b.bu.runs hg.full
  have h2 := hg.few
  have h3 : b.bu.all.length = b.bu.mem.length + b.bu.runs.flatten.length := by unfold Bu.all Bu.parts; simp
  have h4 : b.bu.runs.length = b.runs.length := List.length_map _
  omega
theorem good_mem {b : Buf} (hg : GoodB b.bu) : b.mem.length ≤ 4096 := by
  have h2 := hg.few
  have h3 : b.bu.all.length = b.bu.mem.length + b.bu.runs.flatten.length := by unfold Bu.all Bu.parts; simp
  have h4 : b.bu.mem.length = b.mem.length := ens_len _
  omega
theorem keep_all {b : Buf} (hg : GoodB b.bu) : siftB b.bu (keepF fun _ => true) = b.bu := by
  rw [show (keepF fun _ => true) = fun e => [e] from by funext e; exact if_pos rfl]
  exact siftB_id hg.full
theorem isE_mem {b : Bu} {e : En} (h : isE b.all e = false) : isE b.mem e = false := by
  rw [isE_no] at h ⊢
  intro x hx
  exact h x (by unfold Bu.all Bu.parts; simp [hx])
theorem ownEvery_any (b : Buf) (w : World) (hb : b.ok w) (hf : b.fit) (hg : GoodB b.bu) :
    Calls Tryd.prog 31 #[b.agg, .func (.func 32) #[] #[]] w fun e w' => ∃ b', e = .returned b'.agg ∧ OwnBuf w' (w.heap.size + 3) b' ∧ b'.bu = b.bu ∧ Below w.heap.size w w' ∧ w.heap.size + 3 ≤ w'.heap.size := by
  have h := ownBuffer_any 32 #[] (fun _ => true) b w hb (by have := hg.few; omega) (by have := good_runs hg; omega) (fun k x hx => ((hf.part k).1 x hx).len)
    (enters_of Tryd.func32 (by kernel_rfl) rfl) (fun x W _ _ => every_any x W)
  rw [keep_all hg] at h
  exact h
theorem bu_eq {a b : Buf} (h : a.bu = b.bu) : a.limit = b.limit ∧ ens a.mem = ens b.mem ∧ a.mem.length = b.mem.length ∧ a.runs.length = b.runs.length := by
  obtain ⟨h1, h2, h3, -⟩ := bu_runs h
  exact ⟨h1, h2, by have := congrArg List.length h2; rwa [ens_len, ens_len] at this, h3⟩

/-- A block that is none of a buffer's. -/
structure Buf.off (b : Buf) (o : Nat) : Prop where
  mem : ∀ k, EBlk b.vm b.mem k → k ≠ o
  vr : ∀ k, b.vr.ownBlock = some k → k ≠ o
  runs : ∀ q ∈ b.runs, ∀ k, EBlk q.1 q.2 k → k ≠ o
theorem OwnBuf.off {w : World} {base : Nat} {b : Buf} (h : OwnBuf w base b) {o : Nat} (ho : w.heap.size ≤ o) : b.off o :=
  ⟨fun k hk => by have := (h.mem.range hk).2; omega, fun k hk => by have := own_lt h.sl k hk; omega, fun q hq k hk => by have := ((h.runs q hq).range hk).2; omega⟩
theorem OwnE.setOff {w : World} {base : Nat} {v : Value} {l : List Ent} (h : OwnE w base v l) {p : Addr} (hf : ∀ k, EBlk v l k → k ≠ p.block) (u : Value) : OwnE (w.setCell p u) base v l :=
  h.setFar (fun k hk => hf k (.inl hk)) (fun c hc k hk => hf k (.inr ⟨c, hc, hk⟩)) u
theorem OwnBuf.setOff {w : World} {base : Nat} {b : Buf} (h : OwnBuf w base b) {p : Addr} (hf : b.off p.block) (u : Value) : OwnBuf (w.setCell p u) base b :=
  ⟨h.mem.setOff hf.mem u, own_set h.sl hf.vr u, fun q hq => (h.runs q hq).setOff (hf.runs q hq) u, h.far, h.mr, h.pair⟩
theorem Buf.off.setMem {b : Buf} {o : Nat} (h : b.off o) {v : Value} {l : List Ent} (hf : ∀ k, EBlk v l k → k ≠ o) : (⟨b.limit, v, l, b.vr, b.runs⟩ : Buf).off o := ⟨hf, h.vr, h.runs⟩
/-- Mem becomes a run. -/
theorem OwnBuf.spill {w w' : World} {base : Nat} {b : Buf} {v' : Value} (h : OwnBuf w base b) (hown : w'.ownsRow base 22 1 v' (b.runs.length + 1) (b.runs.map (·.1) ++ [b.vm])) (hg : w.grownBy w' b.vr.ownBlock) (hat : v'.ownBlock = b.vr.ownBlock ∨ v'.ownBlock = some w.heap.size) :
    OwnBuf w' base ⟨b.limit, .slice none 0 0, [], v', b.runs ++ [(b.vm, b.mem)]⟩ :=
  h.noMem.snoc h.mem (fun k hk => ⟨eblk_nil rfl, h.mr k hk, fun p hp h2 => (h.far p hp k h2).1 hk⟩) hown hg hat
theorem Buf.off.spill {b : Buf} {o m : Nat} (h : b.off o) {v' : Value} (hat : v'.ownBlock = b.vr.ownBlock ∨ v'.ownBlock = some m) (hm : m ≠ o) : (⟨b.limit, .slice none 0 0, [], v', b.runs ++ [(b.vm, b.mem)]⟩ : Buf).off o := by
  refine ⟨fun k hk => absurd hk (eblk_nil rfl), fun k hk => ?_, fun q hq k hk => ?_⟩
  · rcases hat with e | e
    · exact h.vr k (e ▸ hk)
    · rw [e] at hk; injection hk with hk; omega
  · rcases List.mem_append.1 hq with hq | hq
    · exact h.runs q hq k hk
    · simp only [List.mem_singleton] at hq
      subst hq
      exact h.mem k hk

set_option maxHeartbeats 8000000 in
set_option maxRecDepth 100000 in
theorem putIn_any (b : Buf) (x : Ent) (w : World) (hb : b.ok w) (hf : b.fit) (hg : GoodB b.bu) (hs : Sl w x.v x.e.r.length (rowCells x.e.r)) (h8 : x.e.r.length ≤ 4398046511104) (hn : isE b.bu.all x.e = false) :
    Calls Tryd.prog 9 #[b.agg, x.agg] w fun e w' => ∃ b' : Buf, e = .returned b'.agg ∧ OwnBuf w' w.heap.size b' ∧ b'.bu = putB b.bu x.e ∧ Below w.heap.size w w' := by
  have HS := Lib.hid hs
  have HOW := Lib.hid (fun w' (h : Below w.heap.size w w') => ownEvery_any b w' (hb.below h) hf hg)
  have hml : b.mem.length ≤ 999999 := by have := good_mem hg; omega
  have hrl : b.runs.length ≤ 999999 := by have := good_runs hg; omega
  have HUP := Lib.hid (show Up (ens b.mem) from hg.up _ (by simp [Bu.parts, Buf.bu]))
  have HIS := Lib.hid (show isE (ens b.mem) x.e = false from isE_mem hn)
  have HPB := Lib.hid (show putB b.bu x.e = if b.limit < ((insE (ens b.mem) x.e).length : Int) then ⟨b.limit, [], b.bu.runs ++ [insE (ens b.mem) x.e]⟩ else ⟨b.limit, insE (ens b.mem) x.e, b.bu.runs⟩ from rfl)
  obtain ⟨A, c, hvr, hr1, hr2, -⟩ := id hb.sl
  obtain ⟨Am, cm, hvm, hm1, hm2, -⟩ := id hb.mem.sl
  obtain ⟨Ax, cx, hvx, -⟩ := id hs
  unfold Buf.agg at HOW ⊢
  unfold Ent.agg
  rw [hvr, hvm] at HOW ⊢
  rw [hvx]
  have B0 := new_first w 25 #[.int .i64 b.limit, .slice Am b.mem.length cm, .slice A b.runs.length c] (.cells #[.string (str x.e.key), .int .i64 x.e.t, .int .i64 x.e.s, .slice Ax x.e.r.length cx, .bool x.e.met] 28)
  have B1 := new_second w 28 #[.string (str x.e.key), .int .i64 x.e.t, .int .i64 x.e.s, .slice Ax x.e.r.length cx, .bool x.e.met] (.cells #[.int .i64 b.limit, .slice Am b.mem.length cm, .slice A b.runs.length c] 25)
  have HK0 := Lib.hid (B0.alloc (.cells #[.int .i64 0, .slice none 0 0, .slice none 0 0] 25))
  have HK1 := Lib.hid (B1.alloc (.cells #[.int .i64 0, .slice none 0 0, .slice none 0 0] 25))
  have HK2 := Lib.hid (show Blk (((w.alloc (.cells #[.int .i64 b.limit, .slice Am b.mem.length cm, .slice A b.runs.length c] 25)).alloc (.cells #[.string (str x.e.key), .int .i64 x.e.t, .int .i64 x.e.s, .slice Ax x.e.r.length cx, .bool x.e.met] 28)).alloc (.cells #[.int .i64 0, .slice none 0 0, .slice none 0 0] 25)) (w.heap.size + 1 + 1) 25 #[.int .i64 0, .slice none 0 0, .slice none 0 0] from by
    have := Blk.new ((w.alloc (.cells #[.int .i64 b.limit, .slice Am b.mem.length cm, .slice A b.runs.length c] 25)).alloc (.cells #[.string (str x.e.key), .int .i64 x.e.t, .int .i64 x.e.s, .slice Ax x.e.r.length cx, .bool x.e.met] 28)) 25 #[.int .i64 0, .slice none 0 0, .slice none 0 0]
    simpa using this)
  have hB := below_trans (below_trans (below_alloc w (.cells #[.int .i64 b.limit, .slice Am b.mem.length cm, .slice A b.runs.length c] 25)) (below_alloc _ (.cells #[.string (str x.e.key), .int .i64 x.e.t, .int .i64 x.e.s, .slice Ax x.e.r.length cx, .bool x.e.met] 28))) (below_alloc _ (.cells #[.int .i64 0, .slice none 0 0, .slice none 0 0] 25))
  have y0 := HK0.out.cell 0 _ rfl
  have y1 := HK0.out.cell 1 _ rfl
  have y2 := HK0.out.cell 2 _ rfl
  have hsz : w.heap.size + 3 = (((w.alloc (.cells #[.int .i64 b.limit, .slice Am b.mem.length cm, .slice A b.runs.length c] 25)).alloc (.cells #[.string (str x.e.key), .int .i64 x.e.t, .int .i64 x.e.s, .slice Ax x.e.r.length cx, .bool x.e.met] 28)).alloc (.cells #[.int .i64 0, .slice none 0 0, .slice none 0 0] 25)).heap.size := by simp
  have HVX := Lib.hid hvx
  clear hb hf hg hs hn hvr hvm hvx B0 B1
  go_enter Tryd.func9, Tryd.ntmps9
  go_wp2_with fail
  refine (HOW.out _ hB).mono ?_
  rintro e w1 ⟨b1, rfl, hob, hbu, hb1, hs1⟩
  rw [← hsz] at hob hs1
  have hbw1 := below_trans hB hb1
  obtain ⟨hl1, he1, hm1', hr1'⟩ := bu_eq hbu
  obtain ⟨Ar1, cr1, hvr1, -⟩ := id hob.ok.sl
  obtain ⟨Am1, cm1, hvm1, -⟩ := id hob.ok.mem.sl
  have hle := hob.ok
  rw [hvr1, hvm1, hl1]
  have HOF := Lib.hid (hob.off (Nat.le_refl _))
  have HOB := Lib.hid (hob.below (below_alloc w1 (.cells #[.int .i64 b.limit, .slice Am1 b1.mem.length cm1, .slice Ar1 b1.runs.length cr1] 25)))
  have HKO := Lib.hid (Blk.new w1 25 #[.int .i64 b.limit, .slice Am1 b1.mem.length cm1, .slice Ar1 b1.runs.length cr1])
  have HK3 := Lib.hid ((HK1.out.below hb1).alloc (.cells #[.int .i64 b.limit, .slice Am1 b1.mem.length cm1, .slice Ar1 b1.runs.length cr1] 25))
  have HK4 := Lib.hid ((HK2.out.below hb1).alloc (.cells #[.int .i64 b.limit, .slice Am1 b1.mem.length cm1, .slice Ar1 b1.runs.length cr1] 25))
  have hb2 := below_trans hbw1 (below_alloc w1 (.cells #[.int .i64 b.limit, .slice Am1 b1.mem.length cm1, .slice Ar1 b1.runs.length cr1] 25))
  have hw1s := hbw1.size
  have hw6 : w.heap.size + 1 + 1 < w1.heap.size := (HK2.out.below hb1).lt
  have HIN := Lib.hid (into_any b1.vm b1.mem x (w.heap.size + 3 + 3) _ HOB.out.mem (by simp; omega) (by omega) (HS.out.below hb2) h8 (fun hne k hk e => by
    have h1 := own_ge hob.mem.own k e
    have h2 := sl_far HS.out hne k hk
    omega) (by rw [he1]; exact HUP.out))
  rw [he1, show intoE (ens b.mem) x.e = (insE (ens b.mem) x.e, true) from if_neg (by rw [HIS.out]; simp), hvm1] at HIN
  unfold Ent.agg at HIN
  rw [HVX.out] at HIN
  have q1 := HKO.out.cell 1 _ rfl
  have x0 := HK3.out.cell 0 _ rfl
  have x1 := HK3.out.cell 1 _ rfl
  have x2 := HK3.out.cell 2 _ rfl
  have x3 := HK3.out.cell 3 _ rfl
  have x4 := HK3.out.cell 4 _ rfl
  have HVM1 := Lib.hid hvm1
  have HVR1 := Lib.hid hvr1
  have HHO := Lib.hid hob
  have HLI := Lib.hid hl1
  have HM1 := Lib.hid hm1'
  have HR1 := Lib.hid hr1'
  have HRU : Hid (b1.bu.runs = b.bu.runs) := Lib.hid (congrArg Bu.runs hbu)
  clear hob hle hvm1 hvr1 y0 y1 y2 HOW HK0 HK1 HK2 hb1 hl1 he1 hm1' hr1' hbu
  go_wp2_with fail
  refine HIN.out.mono ?_
  rintro e w3 ⟨v3, l3, rfl, hown, hens, hg3, hbk⟩
  have hl3 : l3.length = (insE (ens b.mem) x.e).length := by have := congrArg List.length hens; rwa [ens_len] at this
  have hin := (insE_perm (ens b.mem) x.e).length_eq
  rw [List.length_cons, ens_len] at hin
  obtain ⟨A3, c3, rfl, -⟩ := Sl.of_own hown.own
  rw [show (Value.slice Am1 b1.mem.length cm1).ownBlock = b1.vm.ownBlock from by rw [HVM1.out]] at hg3
  replace hbk := fun k hk => ((hbk k hk).imp (fun h => (show EBlk b1.vm b1.mem k by rw [HVM1.out]; exact h)) id)
  have hbw3 := below_grown hb2 hg3 (fun k hk => by have := own_ge HOB.out.mem.own k hk; omega)
  have hgo : ∀ g, g < w.heap.size + 3 + 3 → b1.vm.ownBlock ≠ some g := fun g hg e => by have := own_ge HOB.out.mem.own g e; omega
  have HKO3 := Lib.hid (HKO.out.grown hg3 (fun e => HOF.out.mem _ (.inl e) rfl))
  have HK6 := Lib.hid (HK4.out.grown hg3 (hgo _ (by omega)))
  have HB3 := Lib.hid (HOB.out.memGrown hown hg3 hbk)
  have HF3 := Lib.hid (HOF.out.setMem (v := .slice A3 l3.length c3) (l := l3) (fun k hk => by
    rcases hbk k hk with h | h
    · exact HOF.out.mem k h
    · simp at h; omega))
  have p1 := HKO3.out.cell 1 _ rfl
  have g1 := HKO3.out.free 1
  have hbw4 := hbw3.setCell (p := ⟨w1.heap.size, 1, none⟩) (by show w.heap.size ≤ w1.heap.size; exact hw1s) (.slice A3 l3.length c3)
  have HKO4 := Lib.hid (HKO3.out.set_ 1 (.slice A3 l3.length c3))
  have HK7 := Lib.hid (HK6.out.far (p := ⟨w1.heap.size, 1, none⟩) (by show w.heap.size + 1 + 1 ≠ w1.heap.size; omega) (.slice A3 l3.length c3))
  have HB4 := Lib.hid (HB3.out.setOff (p := ⟨w1.heap.size, 1, none⟩) HF3.out (.slice A3 l3.length c3))
  have HE3 := Lib.hid hens
  have hle3 : l3.length ≤ 1000000 := by omega
  have HL3 := Lib.hid hl3
  have u0 := HKO4.out.cell 0 (.int .i64 b.limit) rfl
  have u1 := HKO4.out.cell 1 (.slice A3 l3.length c3) rfl
  have u2 := HKO4.out.cell 2 (.slice Ar1 b1.runs.length cr1) rfl
  have hr8 : b1.runs.length ≤ 1000000 := by rw [HR1.out]; omega
  have hsz3 : w1.heap.size < w3.heap.size := HKO3.out.lt
  clear hown hens hg3 hbk hgo hbw3 hl3 hin q1 x0 x1 x2 x3 x4 HIN HOB
  by_cases hbig : b.limit < (l3.length : Int)
  · have HPX : Hid ((⟨b1.limit, .slice none 0 0, [], .slice none 0 0, b1.runs ++ [(.slice A3 l3.length c3, l3)]⟩ : Buf).bu = putB b.bu x.e) := Lib.hid (by
      rw [HPB.out, if_pos (by rw [← HL3.out]; exact hbig), ← HRU.out, ← HE3.out, ← HLI.out]
      simp [Buf.bu, ens])
    have HB5 := Lib.hid (HB4.out.below (below_alloc _ (.cells #[.slice A3 l3.length c3] 22)))
    have K5 := Lib.hid (HKO4.out.alloc (.cells #[.slice A3 l3.length c3] 22))
    have K6 := Lib.hid (HK7.out.alloc (.cells #[.slice A3 l3.length c3] 22))
    have hb5 := below_trans hbw4 (below_alloc _ (.cells #[.slice A3 l3.length c3] 22))
    have HS5 := Lib.hid (one_cellR (w3.setCell ⟨w1.heap.size, 1, none⟩ (.slice A3 l3.length c3)) 22 (.slice A3 l3.length c3))
    rw [World.size_setCell] at HS5
    have HBS : Hid (w.heap.size + 3 + 3 ≤ ((w3.setCell ⟨w1.heap.size, 1, none⟩ (.slice A3 l3.length c3)).alloc (.cells #[.slice A3 l3.length c3] 22)).heap.size) := Lib.hid (by simp; omega)
    have HSL := Lib.hid HB5.out.sl
    dsimp only at HSL
    rw [HVR1.out] at HSL
    go_wp2_with (at_builtin; refine wpList_app rfl (.tmp 23) (.tmp 26) 23 rfl (w.heap.size + 3 + 3) 22 1 24 Tryd.underlying23 runI (.slice Ar1 b1.runs.length cr1) b1.runs.length _ rfl HSL.out _ 1 [.slice A3 l3.length c3] rfl HS5.out rfl (by simp; rfl) ?_ ?_ HBS.out ?_)
    · unfold maxLen; omega
    · omega
    · intro v7 w7 hown7 hg7 hat7
      obtain ⟨A7, c7, hv7, -⟩ := Sl.of_own hown7
      subst hv7
      rw [← HVR1.out] at hg7 hat7
      have h6 := HB5.out.spill hown7 hg7 hat7
      have f6 := HF3.out.spill (v' := .slice A7 (b1.runs.length + 1) c7) hat7 (by simp [World.size_setCell]; omega)
      have HPY : Hid ((⟨b1.limit, .slice none 0 0, [], .slice A7 (b1.runs.length + 1) c7, b1.runs ++ [(.slice A3 l3.length c3, l3)]⟩ : Buf).bu = putB b.bu x.e) := Lib.hid HPX.out
      have hge := own_ge HB5.out.sl
      have hbw7 := below_grown hb5 hg7 (fun k hk => by have := hge k hk; omega)
      have K7 := Lib.hid (K5.out.grown hg7 (fun e => HF3.out.vr _ e rfl))
      have K8 := Lib.hid (K6.out.grown hg7 (fun e => by have := hge _ e; omega))
      have H6 := Lib.hid h6
      have F6 := Lib.hid f6
      have q7 := K7.out.cell 2 _ rfl
      have e7 := K7.out.free 2
      have K9 := Lib.hid (K7.out.set_ 2 (.slice A7 (b1.runs.length + 1) c7))
      have q8 := K9.out.cell 1 (.slice A3 l3.length c3) rfl
      have e8 := K9.out.free 1
      have K10 := K9.out.set_ 1 (.slice none 0 0)
      have t0 := K10.cell 0 (.int .i64 b.limit) rfl
      have t1 := K10.cell 1 (.slice none 0 0) rfl
      have t2 := K10.cell 2 (.slice A7 (b1.runs.length + 1) c7) rfl
      have K11 := (K8.out.far (p := ⟨w1.heap.size, 2, none⟩) (by show w.heap.size + 1 + 1 ≠ w1.heap.size; omega) (.slice A7 (b1.runs.length + 1) c7)).far (p := ⟨w1.heap.size, 1, none⟩) (by show w.heap.size + 1 + 1 ≠ w1.heap.size; omega) (.slice none 0 0)
      have r0 := K11.cell 0 _ rfl
      have r1 := K11.cell 1 _ rfl
      have r2 := K11.cell 2 _ rfl
      have g0 := K11.free 0
      have g1 := K11.free 1
      have g2 := K11.free 2
      have Z := ((K11.set_ 0 (.int .i64 b.limit)).set_ 1 (.slice none 0 0)).set_ 2 (.slice A7 (b1.runs.length + 1) c7)
      have z0 := Z.cell 0 (.int .i64 b.limit) rfl
      have z1 := Z.cell 1 (.slice none 0 0) rfl
      have z2 := Z.cell 2 (.slice A7 (b1.runs.length + 1) c7) rfl
      have hp : ∀ i, (⟨w.heap.size + 1 + 1, i, none⟩ : Addr).block < w.heap.size + 3 + 3 := fun i => by show w.heap.size + 1 + 1 < _; omega
      have hq : ∀ i, w.heap.size ≤ (⟨w.heap.size + 1 + 1, i, none⟩ : Addr).block := fun i => by show w.heap.size ≤ w.heap.size + 1 + 1; omega
      have hq1 : ∀ i, w.heap.size ≤ (⟨w1.heap.size, i, none⟩ : Addr).block := fun i => hw1s
      have H9 := Lib.hid ((((((h6.setOff (p := ⟨w1.heap.size, 2, none⟩) f6 (.slice A7 (b1.runs.length + 1) c7)).setOff (p := ⟨w1.heap.size, 1, none⟩) f6 (.slice none 0 0)).setFar (hp 0) (.int .i64 b.limit)).setFar (hp 1) (.slice none 0 0)).setFar (hp 2) (.slice A7 (b1.runs.length + 1) c7)).low (show w.heap.size ≤ w.heap.size + 3 + 3 by omega))
      have hb9 := ((((hbw7.setCell (hq1 2) (.slice A7 (b1.runs.length + 1) c7)).setCell (hq1 1) (.slice none 0 0)).setCell (hq 0) (.int .i64 b.limit)).setCell (hq 1) (.slice none 0 0)).setCell (hq 2) (.slice A7 (b1.runs.length + 1) c7)
      clear hown7 hg7 hat7 hge h6 f6 hbw7 hp hq hq1 K10 K11 Z
      go_wp2
      refine bodyPost_ret (v := .agg #[.int .i64 b.limit, .slice none 0 0, .slice A7 (b1.runs.length + 1) c7]) (by simp [results, Tryd.results9, go_sem, z0, z1, z2]) rfl ?_
      exact ⟨⟨b1.limit, .slice none 0 0, [], .slice A7 (b1.runs.length + 1) c7, b1.runs ++ [(.slice A3 l3.length c3, l3)]⟩, by rw [HLI.out], H9.out, HPY.out, hb9⟩
  · have HPX : Hid ((⟨b1.limit, .slice A3 l3.length c3, l3, b1.vr, b1.runs⟩ : Buf).bu = putB b.bu x.e) := Lib.hid (by
      rw [HPB.out, if_neg (by rw [← HL3.out]; exact hbig), ← HRU.out, ← HE3.out, ← HLI.out]
      rfl)
    have r0 := HK7.out.cell 0 _ rfl
    have r1 := HK7.out.cell 1 _ rfl
    have r2 := HK7.out.cell 2 _ rfl
    have g3 := HK7.out.free 0
    have g4 := HK7.out.free 1
    have g5 := HK7.out.free 2
    have Z := ((HK7.out.set_ 0 (.int .i64 b.limit)).set_ 1 (.slice A3 l3.length c3)).set_ 2 (.slice Ar1 b1.runs.length cr1)
    have z0 := Z.cell 0 (.int .i64 b.limit) rfl
    have z1 := Z.cell 1 (.slice A3 l3.length c3) rfl
    have z2 := Z.cell 2 (.slice Ar1 b1.runs.length cr1) rfl
    have hp : ∀ i, (⟨w.heap.size + 1 + 1, i, none⟩ : Addr).block < w.heap.size + 3 + 3 := fun i => by show w.heap.size + 1 + 1 < _; omega
    have hq : ∀ i, w.heap.size ≤ (⟨w.heap.size + 1 + 1, i, none⟩ : Addr).block := fun i => by show w.heap.size ≤ w.heap.size + 1 + 1; omega
    have H9 := Lib.hid ((((HB4.out.setFar (hp 0) (.int .i64 b.limit)).setFar (hp 1) (.slice A3 l3.length c3)).setFar (hp 2) (.slice Ar1 b1.runs.length cr1)).low (show w.heap.size ≤ w.heap.size + 3 + 3 by omega))
    have hb9 := ((hbw4.setCell (hq 0) (.int .i64 b.limit)).setCell (hq 1) (.slice A3 l3.length c3)).setCell (hq 2) (.slice Ar1 b1.runs.length cr1)
    clear hp hq Z
    go_wp2
    refine bodyPost_ret (v := .agg #[.int .i64 b.limit, .slice A3 l3.length c3, .slice Ar1 b1.runs.length cr1]) (by simp [results, Tryd.results9, go_sem, z0, z1, z2]) rfl ?_
    exact ⟨⟨b1.limit, .slice A3 l3.length c3, l3, b1.vr, b1.runs⟩, by rw [HLI.out, HVR1.out], H9.out, HPX.out, hb9⟩

end Go.Proofs.YteabfalklgffmaaDoor
