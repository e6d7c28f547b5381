/-
  The reference's There and PutError.
-/
import Derived.Test.YteabfalklgffmaaGreatDoorBuf14
set_option linter.unusedSimpArgs false
set_option linter.unusedVariables false
namespace Go.Proofs.YteabfalklgffmaaGreatDoor
open Go.RowKit

theorem isE_sort {l : List En} (h : Alone l) (e : En) : isE (sortE l) e = isE l e := by
  have hp := sortE_perm h
  unfold isE
  rw [Bool.eq_iff_iff, List.any_eq_true, List.any_eq_true]
  exact ⟨fun ⟨x, hx, h⟩ => ⟨x, hp.subset hx, h⟩, fun ⟨x, hx, h⟩ => ⟨x, hp.symm.subset hx, h⟩⟩
theorem into_free (l : List En) (e : En) : (intoE l e).2 = !isE l e := by
  unfold intoE
  split
  · rename_i h; rw [h]; rfl
  · rename_i h; simp at h; rw [h]; rfl
theorem isE_same (l : List En) {a b : En} (h1 : a.key = b.key) (h2 : a.t = b.t) (h3 : a.s = b.s) : isE l a = isE l b := by
  unfold isE
  congr 1
  funext x
  have := cmpE_same (cmpE_zero.2 ⟨h1, h2, h3⟩) x
  rw [show cmpE x a = cmpE x b by rw [cmpE_flip a x, cmpE_flip b x, this]]

set_option maxHeartbeats 4000000 in
set_option maxRecDepth 10000 in
theorem there_any (b : Buf) (key : List UInt8) (t s : Int) (w : World) (hb : b.ok w) (hf : b.fit) (hg : GoodB b.bu) :
    Calls Tryz.prog 8 #[b.agg, .string (str key), .int .i64 t, .int .i64 s] w fun e w' => e = .returned (.bool (isE b.bu.all ⟨key, t, s, [], false⟩)) ∧ Below w.heap.size w w' := by
  have HO := Lib.hid hb
  have hal := hg.few
  have HEN := Lib.hid (fun w' (h : Below w.heap.size w w') => entries_any b w' (hb.below h) (by omega) (fun k x hx => ((hf.part k).1 x hx).len))
  have HI : Hid (isE b.bu.all ⟨key, t, s, [], false⟩ = !(intoE (sortE b.bu.all) ⟨key, t, s, [], false⟩).2) := Lib.hid (by rw [into_free, isE_sort hg.alone]; simp)
  have HLS : Hid ((sortE b.bu.all).length = b.bu.all.length) := Lib.hid (sortE_perm hg.alone).length_eq
  have HUP := Lib.hid (sortE_up b.bu.all)
  generalize isE b.bu.all ⟨key, t, s, [], false⟩ = R at HI ⊢
  obtain ⟨A, c, hvr, hr1, hr2, -⟩ := id hb.sl
  obtain ⟨Am, cm, hvm, hm1, hm2, -⟩ := id hb.mem.sl
  unfold Buf.agg at HEN ⊢
  rw [hvr, hvm] at HEN ⊢
  have HX := Lib.hid (Blk.new w 25 #[.int .i64 b.limit, .slice Am b.mem.length cm, .slice A b.runs.length c])
  have hB := below_alloc w (.cells #[.int .i64 b.limit, .slice Am b.mem.length cm, .slice A b.runs.length c] 25)
  have y0 := HX.out.cell 0 _ rfl
  have y1 := HX.out.cell 1 _ rfl
  have y2 := HX.out.cell 2 _ rfl
  clear hb hf hvr hvm hg
  go_enter Tryz.func8, Tryz.ntmps8
  go_wp2_with fail
  refine (HEN.out _ hB).mono ?_
  rintro e w2 ⟨v2, l2, rfl, hown, hens, hb2, hlt2⟩
  have hbw2 := below_trans hB hb2
  have HVL := Lib.hid (own_ge hown.own)
  have HIN := Lib.hid (into_any v2 l2 ⟨.slice none 0 0, ⟨key, t, s, [], false⟩⟩ _ w2 hown hlt2 (by
    have h1 := congrArg List.length hens
    rw [ens_len, HLS.out] at h1
    omega) (Sl.nil_ w2) (by simp) (fun h => absurd rfl h) (by rw [hens]; exact HUP.out))
  rw [hens] at HIN
  unfold Ent.agg at HIN
  clear hown hens hb2 y0 y1 y2 HEN
  go_wp2_with fail
  refine HIN.out.mono ?_
  rintro e w3 ⟨v3, l3, rfl, -, -, hg3, -⟩
  have hbw3 := below_grown hbw2 hg3 (fun k hk => by have := HVL.out k hk; simp at this; omega)
  generalize (intoE (sortE b.bu.all) ⟨key, t, s, [], false⟩).2 = G at HI
  clear HIN
  go_wp2
  go_ret
  exact ⟨by rw [HI.out]; rfl, hbw3⟩


end Go.Proofs.YteabfalklgffmaaGreatDoor
