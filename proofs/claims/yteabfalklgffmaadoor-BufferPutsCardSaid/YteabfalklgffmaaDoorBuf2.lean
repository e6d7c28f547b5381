/-
  The order of two entries' places, in the program and in the reference.
-/
import Derived.Test.YteabfalklgffmaaDoorBuf1
import Derived.Test.YteabfalklgffmaaDoorBufM2
import Derived.Sort.Grow
set_option linter.unusedSimpArgs false
set_option linter.unusedVariables false
namespace Go.Proofs.YteabfalklgffmaaDoor
open Go.RowKit
open Go.Lib (compareBytes)

def Ent.agg (x : Ent) : Value := .agg #[.string (str x.e.key), .int .i64 x.e.t, .int .i64 x.e.s, x.v, .bool x.e.met]
theorem cmpE_first (a b : En) : firstNZ [compareBytes a.key b.key, ordI a.t b.t, ordI a.s b.s] = cmpE a b := by
  unfold cmpE firstNZ
  by_cases h1 : compareBytes a.key b.key = 0
  · by_cases h2 : ordI a.t b.t = 0
    · by_cases h3 : ordI a.s b.s = 0
      · simp [h1, h2, h3]
      · simp [h1, h2, h3]
    · simp [h1, h2]
  · simp [h1]

set_option maxHeartbeats 2000000 in
set_option maxRecDepth 10000 in
theorem or_any (v : Value) (l : List Int) (w : World) (h : Sl w v l.length (intCells l)) :
    Calls Tryd.prog 43 #[v] w fun e w' => e = .returned (.int .i64 (firstNZ l)) ∧ w = w' := by
  have HH := Lib.hid h
  obtain ⟨A, c, rfl, h1, h2, -⟩ := h
  unfold maxLen at h2
  go_enter Tryd.func43, Tryd.ntmps43
  go_wp2
  go_loop [5, 8] (fun _ i => ∃ k : Nat, k ≤ l.length ∧ i = .int .i64 k ∧ Hid (∀ x ∈ l.take k, x = 0)) (fun _ i => l.length - (intOf i).toNat)
  case atStart => exact ⟨0, by omega, rfl, by simp [Hid]⟩
  case round =>
    obtain ⟨k, hk, rfl, H⟩ := hrel
    by_cases hlt : k < l.length
    · obtain ⟨b, off, rfl, -, hc⟩ := int_at HH.out rfl hlt
      have c1 := hc w (Below.refl _ _)
      have hg : l[k]? = some (l.getD k 0) := by simp [hlt]
      generalize l.getD k 0 = n at c1 hg
      have HG := Lib.hid hg
      clear hg hc
      by_cases hn : n = 0
      · subst hn
        go_wp2
        go_round
        case rel =>
          refine ⟨k + 1, by omega, by go_num, ?_⟩
          show ∀ x ∈ l.take (k + 1), x = 0
          rw [List.take_add_one, HG.out]
          intro x hx
          rcases List.mem_append.1 hx with hx | hx
          · exact H.out x hx
          · simpa using hx
        case measure => simp [intOf]; omega
      · have hb := beqF hn
        have e1 := Lib.hid (firstNZ_hit H.out HG.out hn)
        clear hn
        go_wp2
        go_ret
        exact ⟨by rw [e1.out]; rfl, rfl⟩
    · obtain rfl : k = l.length := by omega
      have e1 := Lib.hid (firstNZ_none (l := l) (by have := H.out; simpa using this))
      go_wp2
      go_ret
      exact ⟨by rw [e1.out]; rfl, rfl⟩

set_option maxHeartbeats 2000000 in
set_option maxRecDepth 10000 in
theorem order_grow (a b : Ent) (w : World) :
    Calls Tryd.prog 23 #[a.agg, b.agg] w fun e w' => e = .returned (.int .i64 (cmpE a.e b.e)) ∧ ∃ q os', w' = Sort.grow (w.drewN q) os' := by
  have EC := Lib.hid (cmpE_first a.e b.e)
  have EK := Lib.hid (show compareBytes (str a.e.key).data.toList (str b.e.key).data.toList = compareBytes a.e.key b.e.key from rfl)
  obtain ⟨av, ⟨ak, at_, as_, ar, am⟩⟩ := a
  obtain ⟨bv, ⟨bk, bt, bs, br, bm⟩⟩ := b
  unfold Ent.agg
  simp only at EC EK ⊢
  generalize hkc : compareBytes ak bk = kc at EC EK
  generalize str ak = sa at EK ⊢
  generalize str bk = sb at EK ⊢
  generalize cmpE ⟨ak, at_, as_, ar, am⟩ ⟨bk, bt, bs, br, bm⟩ = c at EC ⊢
  clear hkc
  have B0 := new_first w 28 #[.string sa, .int .i64 at_, .int .i64 as_, av, .bool am] (.cells #[.string sb, .int .i64 bt, .int .i64 bs, bv, .bool bm] 28)
  have B1 := new_second w 28 #[.string sb, .int .i64 bt, .int .i64 bs, bv, .bool bm] (.cells #[.string sa, .int .i64 at_, .int .i64 as_, av, .bool am] 28)
  have hB := below_trans (below_alloc w (.cells #[.string sa, .int .i64 at_, .int .i64 as_, av, .bool am] 28)) (below_alloc _ (.cells #[.string sb, .int .i64 bt, .int .i64 bs, bv, .bool bm] 28))
  have HX := Lib.hid (show Sl (((w.alloc (.cells #[.string sa, .int .i64 at_, .int .i64 as_, av, .bool am] 28)).alloc (.cells #[.string sb, .int .i64 bt, .int .i64 bs, bv, .bool bm] 28)).alloc (.cells #[.int .i64 kc, .int .i64 (ordI at_ bt), .int .i64 (ordI as_ bs)] 3)) (.slice (some ⟨w.heap.size + 1 + 1, 0, none⟩) 3 3) 3 (intCells [kc, ordI at_ bt, ordI as_ bs]) from by
    have := Sl.block (Blk.new ((w.alloc (.cells #[.string sa, .int .i64 at_, .int .i64 as_, av, .bool am] 28)).alloc (.cells #[.string sb, .int .i64 bt, .int .i64 bs, bv, .bool bm] 28)) 3 #[.int .i64 kc, .int .i64 (ordI at_ bt), .int .i64 (ordI as_ bs)]) 3 3 (Nat.le_refl _) (by decide)
    simpa [intCells] using this)
  go_enter Tryd.func23, Tryd.ntmps23
  go_wp2_with fail
  go_region_held3 (fun w' => w'.cell? ⟨w.heap.size, 0, none⟩ = some (.string sa) ∧ w'.cell? ⟨w.heap.size, 1, none⟩ = some (.int .i64 at_) ∧ w'.cell? ⟨w.heap.size, 2, none⟩ = some (.int .i64 as_) ∧
      w'.cell? ⟨w.heap.size + 1, 0, none⟩ = some (.string sb) ∧ w'.cell? ⟨w.heap.size + 1, 1, none⟩ = some (.int .i64 bt) ∧ w'.cell? ⟨w.heap.size + 1, 2, none⟩ = some (.int .i64 bs))
    (go_keep)
    (first
      | (go_at_call 45; refine (cmp_any _ _ _).mono ?_; rintro e w1 ⟨rfl, rfl⟩)
      | (go_at_call 44; refine (Tryd.strings_Compare _ _ _).mono ?_; rw [EK.out]; rintro e w1 ⟨rfl, rfl⟩)
      | (go_at_call 43; refine (or_any _ [kc, ordI at_ bt, ordI as_ bs] _ HX.out.drew).mono ?_; rw [EC.out]; rintro e w1 ⟨rfl, rfl⟩))
  all_goals
    go_wp2
    go_ret
    exact ⟨rfl, 1, _, by rw [Sort.alloc_eq_grow, Sort.alloc_eq_grow, Sort.alloc_eq_grow, Sort.grow_grow, Sort.grow_grow]; rfl⟩
theorem below_growN (w : World) (q : Nat) (os : Array Obj) : Below w.heap.size w (Sort.grow (w.drewN q) os) := ⟨rfl, rfl, rfl, by simp, fun k hk => Sort.heap_grow_old (w.drewN q) os hk⟩
theorem order_ent (a b : Ent) (w : World) :
    Calls Tryd.prog 23 #[a.agg, b.agg] w fun e w' => e = .returned (.int .i64 (cmpE a.e b.e)) ∧ Below w.heap.size w w' :=
  (order_grow a b w).mono fun _ _ ⟨he, q, os, hw⟩ => ⟨he, hw ▸ below_growN w q os⟩

set_option maxHeartbeats 2000000 in
set_option maxRecDepth 10000 in
theorem place_ent (a b : Ent) (w : World) :
    Calls Tryd.prog 37 #[a.agg, b.agg] w fun e w' => e = .returned (.int .i64 (cmpE a.e b.e)) ∧ Below w.heap.size w w' := by
  have EK := Lib.hid (show compareBytes a.e.key b.e.key = cmpB (str a.e.key) (str b.e.key) from compare_eq (str a.e.key) (str b.e.key))
  have EC : Hid (cmpE a.e b.e = if compareBytes a.e.key b.e.key ≠ 0 then compareBytes a.e.key b.e.key else if ordI a.e.t b.e.t ≠ 0 then ordI a.e.t b.e.t else ordI a.e.s b.e.s) := Lib.hid rfl
  obtain ⟨av, ⟨ak, at_, as_, ar, am⟩⟩ := a
  obtain ⟨bv, ⟨bk, bt, bs, br, bm⟩⟩ := b
  unfold Ent.agg
  simp only at EC EK ⊢
  rw [EK.out] at EC
  generalize str ak = sa at EK EC ⊢
  generalize str bk = sb at EK EC ⊢
  generalize cmpE ⟨ak, at_, as_, ar, am⟩ ⟨bk, bt, bs, br, bm⟩ = c at EC ⊢
  have hB := below_trans (below_alloc w (.cells #[.string sa, .int .i64 at_, .int .i64 as_, av, .bool am] 28)) (below_alloc _ (.cells #[.string sb, .int .i64 bt, .int .i64 bs, bv, .bool bm] 28))
  cases h5 : sa.toList == sb.toList
  · cases h4 : Op.bytesLess sa.toList sb.toList
    · have e2 := Lib.hid (show c = 1 from by
        have : cmpB sa sb = 1 := by unfold cmpB; rw [h4, h5]; rfl
        rw [EC.out, this, if_pos (by omega)])
      clear EC EK
      go_enter Tryd.func37, Tryd.ntmps37
      go_wp2
      go_ret
      exact ⟨by rw [e2.out]; rfl, hB⟩
    · have e2 := Lib.hid (show c = -1 from by
        have : cmpB sa sb = -1 := by unfold cmpB; rw [h4]; rfl
        rw [EC.out, this, if_pos (by omega)])
      clear EC EK
      go_enter Tryd.func37, Tryd.ntmps37
      go_wp2
      go_ret
      exact ⟨by rw [e2.out]; rfl, hB⟩
  · have e0 : cmpB sa sb = 0 := by
      have h6 : sa.toList = sb.toList := by simpa using h5
      unfold cmpB
      rw [h6, show Op.bytesLess sb.toList sb.toList = false from by
        have := cmpB_eq sb.toList sb.toList
        rw [cb_self] at this
        cases hh : Op.bytesLess sb.toList sb.toList with
        | false => rfl
        | true => rw [hh] at this; simp at this]
      simp
    have EC2 : Hid (c = if ordI at_ bt ≠ 0 then ordI at_ bt else ordI as_ bs) := Lib.hid (EC.out.trans (if_neg (fun h => h e0)))
    clear EC EK e0
    by_cases h2 : ordI at_ bt = 0
    · have e2 := Lib.hid (EC2.out.trans (if_neg (fun h => h h2)))
      have hb2 : (ordI at_ bt != 0) = false := by rw [h2]; rfl
      clear EC2 h2
      go_enter Tryd.func37, Tryd.ntmps37
      go_wp2_with (go_at_call 54; refine (order_any _ _ _).mono ?_; rintro e w' ⟨rfl, rfl⟩)
      go_ret
      exact ⟨by rw [e2.out]; rfl, hB⟩
    · have e2 := Lib.hid (EC2.out.trans (if_pos h2))
      have hb2 := bneT h2
      clear EC2 h2
      go_enter Tryd.func37, Tryd.ntmps37
      go_wp2_with (go_at_call 54; refine (order_any _ _ _).mono ?_; rintro e w' ⟨rfl, rfl⟩)
      go_ret
      exact ⟨by rw [e2.out]; rfl, hB⟩
end Go.Proofs.YteabfalklgffmaaDoor
