/-
  The reference's ScanIn.
-/
import Derived.Test.YteabfalklgffmaaGreatDoorBuf32
import Derived.Test.YteabfalklgffmaaGreatDoorBufLaw4
set_option linter.unusedSimpArgs false
set_option linter.unusedVariables false
namespace Go.Proofs.YteabfalklgffmaaGreatDoor
open Go.RowKit

set_option maxHeartbeats 8000000 in
set_option maxRecDepth 10000 in
theorem scanIn_any (b : Buf) (key : List UInt8) (frm upto : Int) (w : World) (hb : b.ok w) (hf : b.fit) (hg : GoodB b.bu) :
    Calls Tryz.prog 18 #[b.agg, .string (str key), .int .i64 frm, .int .i64 upto] w fun e w' => ∃ v l, e = .returned v ∧ Ents w' v l ∧ ens l = scanL b.bu key frm upto ∧ Below w.heap.size w w' := by
  have HAI := Lib.hid (fun w' (h : Below w.heap.size w w') => allIn_any b w' (hb.below h) hf hg)
  have HSC : Hid (scanL b.bu key frm upto = (sortE b.bu.all).filter (scanP key frm upto)) := Lib.hid rfl
  have HLS : Hid ((sortE b.bu.all).length ≤ 4096) := Lib.hid (by rw [(sortE_perm hg.alone).length_eq]; exact hg.few)
  generalize scanL b.bu key frm upto = SL at HSC ⊢
  generalize sortE b.bu.all = SA at HSC HAI HLS
  obtain ⟨Av, cv, hvb, -⟩ := id hb.mem.sl
  obtain ⟨Ar, cr, hvr, -⟩ := id hb.sl
  unfold Buf.agg at HAI ⊢
  rw [hvb, hvr] at HAI ⊢
  have HK := Lib.hid (Blk.new w 25 #[.int .i64 b.limit, .slice Av b.mem.length cv, .slice Ar b.runs.length cr])
  have hB := below_alloc w (.cells #[.int .i64 b.limit, .slice Av b.mem.length cv, .slice Ar b.runs.length cr] 25)
  have y0 := HK.out.cell 0 _ rfl
  have y1 := HK.out.cell 1 _ rfl
  have y2 := HK.out.cell 2 _ rfl
  clear hb hf hg hvb hvr
  go_enter Tryz.func18, Tryz.ntmps18
  go_wp2_with fail
  refine (HAI.out _ hB).mono ?_
  rintro e w1 ⟨v, l, rfl, hown, he, hb1, hsz⟩
  have hbw1 := below_trans hB hb1
  obtain ⟨A, c, hv, hr1, hr2, -⟩ := id hown.ents.sl
  subst hv
  unfold maxLen at hr2
  have HE := Lib.hid he
  have HL := Lib.hid hown.ents
  have hll : l.length ≤ 4096 := by have h1 := congrArg List.length he; rw [ens_len] at h1; have h2 := HLS.out; omega
  clear y0 y1 y2 HK HAI hown he hb1 hsz hB
  go_wp2_with fail
  obtain ⟨W1, hW1⟩ : ∃ W1, W1 = w1 := ⟨_, rfl⟩
  subst hW1
  go_loopw [9, 11] (fun own k wr => ∃ (m : Nat) (v : Value) (o : List Ent), v = own ∧ k = .int .i64 m ∧ m ≤ l.length ∧ Hid (ens o = ((ens l).take m).filter (scanP key frm upto)) ∧ Hid (o.length ≤ m) ∧ Hid (wr.ownsRow W1.heap.size 48 5 v o.length (entCells o)) ∧ Hid (∀ x ∈ o, Sl W1 x.v x.e.r.length (rowCells x.e.r)) ∧ Below W1.heap.size W1 wr) (fun _ k _ => l.length - (intOf k).toNat)
  case atStart => exact ⟨0, _, [], rfl, rfl, by omega, Lib.hid (by simp [ens]), Lib.hid (by simp), Lib.hid ⟨rfl, .inl ⟨rfl, rfl⟩⟩, Lib.hid nofun, Below.refl _ _⟩
  case round =>
    obtain ⟨m, v, o, rfl, rfl, hm, HEO, HOL, HOW, HRW, hbi⟩ := hrel
    by_cases hml : m < l.length
    · have hx := List.getElem?_eq_getElem hml
      generalize l[m] = x at hx
      obtain ⟨g5, off5, rfl, -, hc⟩ := ent_at HL.out.sl rfl hx
      obtain ⟨Ax, cx, hvx, -⟩ := id (HL.out.rows x (List.mem_of_getElem? hx))
      have HSX := Lib.hid (HL.out.rows x (List.mem_of_getElem? hx))
      have HTK : Hid (((ens l).take (m + 1)).filter (scanP key frm upto) = ens o ++ [x.e].filter (scanP key frm upto)) := Lib.hid (by rw [List.take_add_one, ens_at hx, List.filter_append, ← HEO.out]; rfl)
      have HPX : Hid (scanP key frm upto x.e = (((str x.e.key).toList == (str key).toList) && decide (frm ≤ x.e.t) && decide (x.e.t ≤ upto))) := Lib.hid (by unfold scanP; rw [str_toList, str_toList])
      obtain ⟨d0, d1, d2, d3, d4⟩ := hc _ hbi
      have hol := HOL.out
      have k0 : (0 : Int) ≤ (m : Int) := by omega
      have k1 : (m : Int) < (l.length : Int) := by omega
      have hwm : IntKind.i64.wrap ((m : Int) + 1) = (m : Int) + 1 := by rw [IntKind.wrap_i64]; omega
      rw [hvx] at d3
      by_cases hp : ((((str x.e.key).toList == (str key).toList) = true ∧ frm ≤ x.e.t) ∧ x.e.t ≤ upto)
      · obtain ⟨⟨p1, p2⟩, p3⟩ := hp
        have HEN : Hid (ens (o ++ [(⟨.slice Ax x.e.r.length cx, x.e⟩ : Ent)]) = ((ens l).take (m + 1)).filter (scanP key frm upto)) := Lib.hid (by
          rw [HTK.out, List.filter_cons_of_pos (by rw [HPX.out, p1]; simp [p2, p3])]
          unfold ens; simp)
        have HOA := Lib.hid (own_below HOW.out (below_alloc wr (.cells #[.string (str x.e.key), .int .i64 x.e.t, .int .i64 x.e.s, .slice Ax x.e.r.length cx, .bool x.e.met] 48)))
        have HS1 := Lib.hid (one_ent wr ⟨.slice Ax x.e.r.length cx, x.e⟩)
        have HON := Lib.hid (ent_one (c := ⟨.slice Ax x.e.r.length cx, x.e⟩) (w := wr) (n := x.e.r.length) (cs := rowCells x.e.r) (by have := HSX.out.below hbi; rw [hvx] at this; exact this))
        have hb3 := below_trans hbi (below_alloc wr (.cells #[.string (str x.e.key), .int .i64 x.e.t, .int .i64 x.e.s, .slice Ax x.e.r.length cx, .bool x.e.met] 48))
        have HBS : Hid (W1.heap.size ≤ (wr.alloc (.cells #[.string (str x.e.key), .int .i64 x.e.t, .int .i64 x.e.s, .slice Ax x.e.r.length cx, .bool x.e.met] 48)).heap.size) := Lib.hid hb3.size
        have HRN : Hid (∀ y ∈ o ++ [(⟨.slice Ax x.e.r.length cx, x.e⟩ : Ent)], Sl W1 y.v y.e.r.length (rowCells y.e.r)) := Lib.hid (fun y hy => by
          rcases List.mem_append.1 hy with hy | hy
          · exact HRW.out y hy
          · simp only [List.mem_singleton] at hy
            subst hy
            have := HSX.out
            rw [hvx] at this
            exact this)
        clear hx hc hvx HSX HPX HTK HOW HRW
        go_wp2_with (at_builtin; refine wpList_app rfl (.tmp 45) (.tmp 50) 22 rfl W1.heap.size 48 5 64 Tryz.underlying22 entI _ o.length _ rfl HOA.out _ 1 (Ent.cells ⟨.slice Ax x.e.r.length cx, x.e⟩) rfl HS1.out rfl HON.out ?_ ?_ HBS.out ?_)
        · unfold maxLen; omega
        · omega
        · intro v7 w7 hown7 hg7 hat7
          have H7 : Hid (w7.ownsRow W1.heap.size 48 5 v7 (o ++ [(⟨.slice Ax x.e.r.length cx, x.e⟩ : Ent)]).length (entCells (o ++ [(⟨.slice Ax x.e.r.length cx, x.e⟩ : Ent)]))) := Lib.hid (by rw [entCells_app, List.length_append]; simpa [entCells] using hown7)
          have hb7 := below_grown hb3 hg7 (own_ge HOA.out)
          have HL7 : Hid ((o ++ [(⟨.slice Ax x.e.r.length cx, x.e⟩ : Ent)]).length ≤ m + 1) := Lib.hid (by simp; omega)
          clear hown7 hg7 hat7
          go_wp2
          go_roundw
          case rel => exact ⟨m + 1, v7, _, rfl, by go_num, by omega, HEN, HL7, H7, HRN, hb7⟩
          case measure => simp [intOf]; omega
      · have HEN : Hid (ens o = ((ens l).take (m + 1)).filter (scanP key frm upto)) := Lib.hid (by
          rw [HTK.out, List.filter_cons_of_neg (by rw [HPX.out]; simp only [Bool.and_eq_true, decide_eq_true_eq]; exact hp)]
          simp)
        have HL7 : Hid (o.length ≤ m + 1) := Lib.hid (Nat.le_succ_of_le hol)
        have hp' := hp
        clear hx hc hvx HSX HPX HTK
        cases p1 : ((str x.e.key).toList == (str key).toList)
        · go_wp2
          go_roundw
          case rel => exact ⟨m + 1, v, o, rfl, by go_num, by omega, HEN, HL7, HOW, HRW, hbi⟩
          case measure => simp [intOf]; omega
        · by_cases p2 : frm ≤ x.e.t
          · have p3 : ¬ x.e.t ≤ upto := fun h => hp ⟨⟨p1, p2⟩, h⟩
            clear hp hp'
            go_wp2
            go_roundw
            case rel => exact ⟨m + 1, v, o, rfl, by go_num, by omega, HEN, HL7, HOW, HRW, hbi⟩
            case measure => simp [intOf]; omega
          · clear hp hp'
            go_wp2
            go_roundw
            case rel => exact ⟨m + 1, v, o, rfl, by go_num, by omega, HEN, HL7, HOW, HRW, hbi⟩
            case measure => simp [intOf]; omega
    · obtain rfl : m = l.length := by omega
      have hk1 : ¬ (l.length : Int) < (l.length : Int) := by omega
      have HEF : Hid (ens o = SL) := Lib.hid (by rw [HEO.out, List.take_of_length_le (by rw [ens_len]; exact Nat.le_refl _), HE.out, ← HSC.out])
      have hbq := below_trans hbw1 hbi
      have hEN : Ents wr v o := ⟨Sl.of_own HOW.out, fun x hx => (HRW.out x hx).below hbi⟩
      clear HEO
      go_wp2
      go_ret
      first
        | exact ⟨v, rfl, o, hEN, HEF.out, hbq⟩
        | exact ⟨v, o, rfl, hEN, HEF.out, hbq⟩
end Go.Proofs.YteabfalklgffmaaGreatDoor
