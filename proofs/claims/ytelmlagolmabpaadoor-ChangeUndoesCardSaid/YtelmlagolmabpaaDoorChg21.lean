/-
  Changes of one's own; told's say.
-/
import Derived.Test.YtelmlagolmabpaaDoorChgM6
set_option linter.unusedSimpArgs false
set_option linter.unusedVariables false
namespace Go.Proofs.YtelmlagolmabpaaDoor
open Go.RowKit Go.Maps

theorem chgI : EInfo Tryd.prog 92 2 32 := by
  have h : (Tryd.prog.info? 92).map (fun i => (i.zero, i.size, i.bytes)) = some (some (.agg #[.int .i64 0, .slice none 0 0]), 2, 32) := by kernel_rfl
  obtain ⟨i, hi, h1, h2, h3⟩ := info_parts h
  exact ⟨i, _, hi, h1, h2, h3, rfl, by omega⟩
theorem sl_set {w : World} {v : Value} {n : Nat} {cs : List Value} (h : Sl w v n cs) {p : Addr} (hp : cs ≠ [] → ∀ k, v.ownBlock = some k → k ≠ p.block) (u : Value) : Sl (w.setCell p u) v n cs := by
  obtain ⟨A, c, rfl, h1, h2, h0, h3⟩ := h
  refine ⟨A, c, rfl, h1, h2, h0, fun hne => ?_⟩
  obtain ⟨b, off, rfl, hc⟩ := h3 hne
  refine ⟨b, off, rfl, fun j x hj => ?_⟩
  have hcc := hc j x hj
  rw [World.cell?_of_block (Below.heap_setCell w p u b (hp hne b rfl))]
  exact hcc
/-- Changes in a row of one's own, their rows too. -/
structure OwnC (w : World) (base : Nat) (v : Value) (l : List Chn) : Prop where
  own : w.ownsRow base 92 2 v l.length (chnCells l)
  rows : ∀ c ∈ l, Sl w c.v c.r.length (rowCells c.r)
  far : ∀ c ∈ l, ∀ k, c.v.ownBlock = some k → base ≤ k ∧ k < w.heap.size ∧ v.ownBlock ≠ some k
theorem OwnC.chs {w : World} {base : Nat} {v : Value} {l : List Chn} (h : OwnC w base v l) : Chs w v l := ⟨Sl.of_own h.own, h.rows⟩
theorem OwnC.below {w w' : World} {base : Nat} {v : Value} {l : List Chn} (h : OwnC w base v l) (hb : Below w.heap.size w w') : OwnC w' base v l :=
  ⟨own_below h.own hb, fun c hc => (h.rows c hc).below hb, fun c hc k hk => ⟨(h.far c hc k hk).1, Nat.lt_of_lt_of_le (h.far c hc k hk).2.1 hb.size, (h.far c hc k hk).2.2⟩⟩
theorem OwnC.alloc {w : World} {base : Nat} {v : Value} {l : List Chn} (h : OwnC w base v l) (o : Obj) : OwnC (w.alloc o) base v l := h.below (below_alloc w o)
theorem OwnC.drew {w : World} {base : Nat} {v : Value} {l : List Chn} (h : OwnC w base v l) : OwnC w.drew base v l := ⟨h.own, h.rows, h.far⟩
theorem OwnC.nil (w : World) (base : Nat) : OwnC w base (.slice none 0 0) [] := ⟨⟨rfl, .inl ⟨rfl, rfl⟩⟩, nofun, nofun⟩
theorem chnCells_app (a b : List Chn) : chnCells (a ++ b) = chnCells a ++ chnCells b := List.flatMap_append
theorem OwnC.snoc {w w' : World} {base : Nat} {v v' : Value} {l : List Chn} {c : Chn} (h : OwnC w base v l) (hown : w'.ownsRow base 92 2 v' (l.length + 1) (chnCells l ++ c.cells)) (hg : w.grownBy w' v.ownBlock) (hat : v'.ownBlock = v.ownBlock ∨ v'.ownBlock = some w.heap.size)
    (hc : Sl w c.v c.r.length (rowCells c.r)) (hf : ∀ k, c.v.ownBlock = some k → base ≤ k ∧ k < w.heap.size ∧ v.ownBlock ≠ some k) : OwnC w' base v' (l ++ [c]) := by
  have hfar : ∀ d ∈ l ++ [c], Sl w d.v d.r.length (rowCells d.r) ∧ ∀ k, d.v.ownBlock = some k → base ≤ k ∧ k < w.heap.size ∧ v.ownBlock ≠ some k := by
    intro d hd
    rcases List.mem_append.1 hd with hd | hd
    · exact ⟨h.rows d hd, h.far d hd⟩
    · simp only [List.mem_singleton] at hd; subst hd; exact ⟨hc, hf⟩
  refine ⟨?_, fun d hd => sl_grown (hfar d hd).1 hg (fun k hk => ((hfar d hd).2 k hk).2.2), fun d hd k hk => ?_⟩
  · rw [chnCells_app, List.length_append]
    simpa [chnCells] using hown
  · obtain ⟨h0, h1, h2⟩ := (hfar d hd).2 k hk
    refine ⟨h0, Nat.lt_of_lt_of_le h1 hg.size, fun e => ?_⟩
    rcases hat with e' | e'
    · exact h2 (e' ▸ e)
    · rw [e'] at e
      injection e with e
      omega
theorem OwnC.set {w : World} {base : Nat} {v : Value} {l : List Chn} (h : OwnC w base v l) {p : Addr} (hp : p.block < base) (u : Value) : OwnC (w.setCell p u) base v l :=
  ⟨own_set h.own (fun k hk e => by have := own_ge h.own k hk; omega) u, fun c hc => sl_set (h.rows c hc) (fun _ k hk e => by have := (h.far c hc k hk).1; omega) u,
   fun c hc k hk => by have := h.far c hc k hk; rw [World.size_setCell]; exact this⟩
theorem one_chn (W : World) (c : Chn) : Sl (W.alloc (.cells #[.int .i64 c.k, c.v] 92)) (.slice (some ⟨W.heap.size, 0, none⟩) 1 1) 1 c.cells := Sl.block (Blk.new W 92 #[.int .i64 c.k, c.v]) 1 1 (Nat.le_refl _) (by decide)
theorem chn_one {w : World} {c : Chn} {n : Nat} {cs : List Value} (h : Sl w c.v n cs) : ∀ u ∈ c.cells, u.oneCell' = true := by
  obtain ⟨A, k, hv, -⟩ := h
  intro u hu
  simp [Chn.cells] at hu
  rcases hu with rfl | rfl
  · rfl
  · rw [hv]; rfl
theorem grown_set {w w' : World} {P : Nat} (h : w.grownBy w' (some P)) (i : Nat) (u : Value) : w.grownBy (w'.setCell ⟨P, i, none⟩ u) (some P) :=
  ⟨h.os, h.tape, h.output, by rw [World.size_setCell]; exact h.size, fun k hk hn => (Below.heap_setCell w' ⟨P, i, none⟩ u k (fun e => hn (by rw [e]))).trans (h.block k hk hn)⟩

set_option maxHeartbeats 4000000 in
set_option maxRecDepth 100000 in
theorem say_any (P : Nat) (v : Value) (out : List Chn) (kind n : Int) (r : List Val) (w0 w : World) (h0 : w0.grownBy w (some P)) (hP : P < w0.heap.size) (hB : Blk w P 52 #[v]) (hO : OwnC w w0.heap.size v out)
    (hl : out.length ≤ 4096) (hr : GoodR r) (hn : 0 < n ∧ n ≤ 1099511627776) :
    Calls Tryd.prog 100 #[.int .i64 kind, .int .i64 n, .string (str (keyRow r)), .pointer (some ⟨P, 0, none⟩)] w fun e w' =>
      (4096 < out.length + n ∧ e = .returned (.bool false) ∧ w0.grownBy w' (some P) ∧ w.heap.size ≤ w'.heap.size) ∨
      (out.length + n ≤ 4096 ∧ e = .returned (.bool true) ∧ ∃ v' out', OwnC w' w0.heap.size v' out' ∧ ac out' = ac out ++ List.replicate n.toNat (kind, r) ∧ Blk w' P 52 #[v'] ∧ w0.grownBy w' (some P)) := by
  have HO := Lib.hid hO
  have HB := Lib.hid hB
  have HG := Lib.hid h0
  have y0 := hB.cell 0 _ rfl
  obtain ⟨Av, cv, rfl, hc1, hc2, -⟩ := Sl.of_own hO.own
  unfold maxLen at hc2
  have hw : IntKind.i64.wrap (4096 - (out.length : Int)) = 4096 - (out.length : Int) := by rw [IntKind.wrap_i64]; omega
  clear hO hB h0
  by_cases hq : 4096 - (out.length : Int) < n
  · go_enter Tryd.func100, Tryd.ntmps100
    go_wp2
    go_ret
    exact .inl ⟨by omega, rfl, HG.out, Nat.le_refl _⟩
  · have hle : out.length + n ≤ 4096 := by omega
    have HBK := Lib.hid (back_good hr)
    have hsz : (str (keyRow r)).size ≤ 4611686018427387904 := by rw [str_size]; have := keyRow_short hr; omega
    have HR := Lib.hid hr
    generalize str (keyRow r) = ky at HBK hsz ⊢
    clear hr
    go_enter Tryd.func100, Tryd.ntmps100
    go_wp2_with fail
    go_loopw [8, 9, 16] (fun _ _ i wr => ∃ (j : Nat) (v' : Value) (o : List Chn), i = .int .i64 j ∧ (j : Int) ≤ n ∧ o.length = out.length + j ∧ Hid (ac o = ac out ++ List.replicate j (kind, r)) ∧ Hid (OwnC wr w0.heap.size v' o) ∧ Hid (Blk wr P 52 #[v']) ∧ w0.grownBy wr (some P)) (fun _ _ i _ => n.toNat - (intOf i).toNat)
    case atStart => exact ⟨0, _, out, rfl, by omega, by omega, Lib.hid (by simp), HO, HB, HG.out⟩
    case round =>
      obtain ⟨j, v', o, rfl, hj, hol, HA, HOr, HBr, hgr⟩ := hrel
      by_cases hlt : (j : Int) < n
      · go_wp2_with fail
        refine (back_any2 _ _ hsz).mono ?_
        rw [HBK.out]
        rintro e w2 ⟨vb, rfl, hs2, hf2, hb2⟩
        have HS2 := Lib.hid hs2
        have HF2 := Lib.hid hf2
        obtain ⟨A2, c2, rfl, -⟩ := id hs2
        have HO2 := Lib.hid (HOr.out.below hb2)
        have HB2 := Lib.hid (HBr.out.below hb2)
        have hg2 := hgr.andThen (grown_of_below hb2 (some P)) (fun k hk => .inr hk)
        have y1 := HB2.out.cell 0 _ rfl
        have hu : Hid (∀ k, v'.ownBlock = some k → k < wr.heap.size) := Lib.hid (own_lt HOr.out.own)
        have HO3 := Lib.hid (HO2.out.alloc (.cells #[.int .i64 kind, .slice A2 r.length c2] 92))
        have HB3 := Lib.hid (HB2.out.alloc (.cells #[.int .i64 kind, .slice A2 r.length c2] 92))
        have hg3 := hg2.andThen (grown_of_below (below_alloc w2 (.cells #[.int .i64 kind, .slice A2 r.length c2] 92)) (some P)) (fun k hk => .inr hk)
        clear hs2 hf2
        go_wp2_with
          (at_builtin
           refine wpList_app rfl (.tmp 23) (.tmp 27) 52 rfl w0.heap.size 92 2 32 Tryd.underlying52 chgI v' o.length _ rfl HO3.out.own _ 1 (Chn.cells ⟨.slice A2 r.length c2, r, kind⟩) rfl (one_chn w2 ⟨.slice A2 r.length c2, r, kind⟩) rfl (chn_one HS2.out) (by unfold maxLen; omega) (by omega) (by have := hg3.size; simpa using this) ?_
           intro v4 w4 hown4 hg4 hat4
           have HOWN4 := Lib.hid hown4
           have HAT4 := Lib.hid hat4
           have HG4 := Lib.hid hg4
           have HB4 := Lib.hid (HB3.out.grown hg4 (fun e => by have := own_ge HOr.out.own P e; omega))
           obtain ⟨A4, c4, rfl, -⟩ := Sl.of_own hown4
           have y4 := HB4.out.cell 0 _ rfl
           have yf := HB4.out.free 0
           clear hown4 hg4 hat4)
        have HN : Hid (OwnC w4 w0.heap.size (.slice A4 (o.length + 1) c4) (o ++ [⟨.slice A2 r.length c2, r, kind⟩])) := Lib.hid (HO3.out.snoc HOWN4.out HG4.out HAT4.out (HS2.out.below (below_alloc _ _)) (fun k hk => ⟨Nat.le_trans hgr.size (HF2.out k hk).1, Nat.lt_of_lt_of_le (HF2.out k hk).2 (by simp), fun e => Nat.lt_irrefl _ (Nat.lt_of_lt_of_le (hu.out k e) (HF2.out k hk).1)⟩))
        have HAN : Hid (ac (o ++ [⟨.slice A2 r.length c2, r, kind⟩]) = ac out ++ List.replicate (j + 1) (kind, r)) := Lib.hid (by
          rw [List.replicate_succ', ← List.append_assoc, ← HA.out]; simp [ac])
        have HSET := Lib.hid (HN.out.set (p := ⟨P, 0, none⟩) hP (.slice A4 (o.length + 1) c4))
        have HBS := Lib.hid (HB4.out.set_ 0 (.slice A4 (o.length + 1) c4))
        have hg5 : w0.grownBy w4 (some P) := hg3.andThen HG4.out (fun k hk => .inl (own_ge HOr.out.own k hk))
        have HG5 := Lib.hid (grown_set hg5 0 (.slice A4 (o.length + 1) c4))
        have HOL := Lib.hid hol
        clear hol
        rw [HOL.out] at HN HSET HBS HG5
        go_wp2
        go_roundw
        case rel => exact ⟨j + 1, _, _, by go_num, by omega, by rw [List.length_append, List.length_singleton, HOL.out]; omega, HAN.out, HSET.out, HBS.out, HG5.out⟩
        case measure => simp [intOf]; omega
      · obtain rfl : n = (j : Int) := by omega
        have HGR := Lib.hid hgr
        go_wp2
        go_ret
        first
          | exact .inr ⟨hle, rfl, v', o, HOr.out, by simpa using HA.out, HBr.out, HGR.out⟩
          | exact .inr ⟨rfl, v', o, HOr.out, by simpa using HA.out, HBr.out, HGR.out⟩

end Go.Proofs.YtelmlagolmabpaaDoor
