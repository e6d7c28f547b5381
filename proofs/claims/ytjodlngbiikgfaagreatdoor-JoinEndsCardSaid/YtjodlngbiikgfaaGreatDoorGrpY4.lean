/-Plans: the reference's CheckPlan. -/
import Derived.Test.YtjodlngbiikgfaaGreatDoorGrpK8
import Derived.Test.YtjodlngbiikgfaaGreatDoorGrpY3
set_option linter.unusedSimpArgs false
set_option linter.unusedVariables false
namespace Go.Proofs.YtjodlngbiikgfaaGreatDoor
open Go.RowKit Go.Maps
def Pl.long (p:Pl):Prop:=4<p.left.length∨4<p.right.length∨4<p.lkeys.length∨4<p.rkeys.length∨4<p.aggs.length∨8<p.group.length
theorem counts_long {p:Pl}(h:p.long):countsB p=false:=by
 cases hc:countsB p
 ·rfl
 ·obtain⟨a,b,c,d,e,f,g,i,j,k⟩:=counts_short hc
  unfold Pl.long at h;omega
theorem kinds_bare {p:Pl}(h:p.grouped=false∨allB (fun a=>btw a.1 1 4) p.aggs=true):kindsB p.bare=kindsB p:=by
 unfold kindsB Pl.bare;simp only;rcases h with h|h
 ·rw[h];rfl
 ·rw[h];rfl
theorem kinds_bad {p:Pl}(h1:p.grouped=true)(h2:allB (fun a=>btw a.1 1 4) p.aggs=false):kindsB p=false:=by
 unfold kindsB;rw[h1,h2];simp
set_option maxHeartbeats 16000000 in
set_option maxRecDepth 10000 in
theorem cp_a (p:Pl)(w:World)(h:p.ok w)(hlong:p.long)(ha:4<p.aggs.length)(hg:p.grouped=false):
 Calls Tryz.prog 11 #[.agg #[.int .i64 p.kind,.int .i64 p.mode,.int .i64 p.low,.int .i64 p.high,.int .i64 p.size,.int .i64 p.limit,p.vl,p.vr,p.vk,p.vq,.bool p.grouped,p.vg,p.va]] w fun e w'=>e= .returned (.int .i64 (checkP p))∧Below w.heap.size w w':=by
 have E:Hid (checkP p=if kindsB p then if rangesB p then if countsB p then if typesB p then if formB p then 0 else 1 else 5 else 2 else 3 else 4):=Lib.hid rfl;have HK1:=Lib.hid (fun w' (hb:Below w.heap.size w w')=>wrongKind_any p w' (h.a.below hb));have HK2:=Lib.hid (fun w'=>wrongKind_any p.bare w' (Sl.nil_ w'));have HR:=Lib.hid (fun w'=>wrongRange_any p w');have HM:=Lib.hid (fun w' (hb:Below w.heap.size w w')=>wrongMany_any p w' (h.below hb));have HT:=Lib.hid (fun w' (hb:Below w.heap.size w w')=>types_any p w' (h.below hb));have HF:=Lib.hid (fun w' (hb:Below w.heap.size w w')=>wrongForm_any p w' (h.below hb));have HL:=Lib.hid (counts_long (p:=p));have HS:=Lib.hid (counts_short (p:=p));have HB1:=Lib.hid (kinds_bare (p:=p));have HB2:=Lib.hid (kinds_bad (p:=p));have HFE:=Lib.hid (form_eq p);have HTE:Hid (typesB p=allB (fun n=>btw n 1 3) (p.left++p.right)):=Lib.hid rfl;have HAA:=Lib.hid h.a;unfold Pl.long at HL hlong;obtain⟨⟨A0,c0,e0,n0,m0,-⟩,⟨A1,c1,e1,n1,m1,-⟩,⟨A2,c2,e2,n2,m2,-⟩,⟨A3,c3,e3,n3,m3,-⟩,⟨A4,c4,e4,n4,m4,-⟩,⟨A5,c5,e5,n5,m5,-⟩⟩:=h;unfold Pl.bare at HK2 HB1;generalize checkP p=R at E⊢;generalize formR p=bf at HF HFE;rw[←HFE.out]at E;clear HFE;have HSS:=Lib.hid (fun(hs:p.short)=>And.intro (And.intro hs.l1 hs.l2) (And.intro hs.r1 hs.r2));obtain⟨kind,mode,low,high,size,limit,vl,vr,vk,vq,grouped,vg,va,left,right,lkeys,rkeys,group,aggs⟩:=p;simp only at HK1 HK2 HR HM HT HF HL HB1 HB2 HAA HTE HS HSS e0 e1 e2 e3 e4 e5 n0 n1 n2 n3 n4 n5 E hlong ha hg⊢;subst e0 e1 e2 e3 e4 e5;unfold maxLen at m0 m1 m2 m3 m4 m5;generalize kindsB ⟨kind,mode,low,high,size,limit,_,_,_,_,grouped,_,_,left,right,lkeys,rkeys,group,aggs⟩=bk at E HK1 HB1 HB2;generalize kindsB ⟨kind,mode,low,high,size,limit,_,_,_,_,grouped,_,_,left,right,lkeys,rkeys,group,[]⟩=bk2 at HK2 HB1;generalize rangesB _=br at E HR;generalize countsB _=bc at E HM HL HS;generalize typesB _=bt at E HTE;subst hg
 have E2:Hid (R=if bk then if br then 2 else 3 else 4):=Lib.hid (by
  have:=E.out;rw[HL.out hlong]at this;exact this)
 clear E HL HM HT HF HTE HS HSS
 have hd:(4<(left.length:Int))∨(¬4<(left.length:Int)∧4<(right.length:Int))∨(¬4<(left.length:Int)∧ ¬4<(right.length:Int)∧4<(lkeys.length:Int))∨(¬4<(left.length:Int)∧ ¬4<(right.length:Int)∧ ¬4<(lkeys.length:Int)∧4<(rkeys.length:Int))∨
  (¬4<(left.length:Int)∧ ¬4<(right.length:Int)∧ ¬4<(lkeys.length:Int)∧ ¬4<(rkeys.length:Int)∧4<(aggs.length:Int))∨(¬4<(left.length:Int)∧ ¬4<(right.length:Int)∧ ¬4<(lkeys.length:Int)∧ ¬4<(rkeys.length:Int)∧ ¬4<(aggs.length:Int)∧8<(group.length:Int)):=by omega
 clear hlong;have ha:4<(aggs.length:Int):=by omega
 have hd:(4<(left.length:Int))∨(¬4<(left.length:Int)∧4<(right.length:Int))∨(¬4<(left.length:Int)∧ ¬4<(right.length:Int)∧4<(lkeys.length:Int))∨(¬4<(left.length:Int)∧ ¬4<(right.length:Int)∧ ¬4<(lkeys.length:Int)∧4<(rkeys.length:Int))∨
  (¬4<(left.length:Int)∧ ¬4<(right.length:Int)∧ ¬4<(lkeys.length:Int)∧ ¬4<(rkeys.length:Int)):=by omega
 have hB:=below_trans (below_alloc w (.cells #[.int .i64 kind,.int .i64 mode,.int .i64 low,.int .i64 high,.int .i64 size,.int .i64 limit,.slice A0 left.length c0,.slice A1 right.length c1,.slice A2 lkeys.length c2,.slice A3 rkeys.length c3,.bool false,.slice A4 group.length c4,.slice A5 aggs.length c5] 25)) (below_alloc _ (.cells #[.int .i64 kind,.int .i64 mode,.int .i64 low,.int .i64 high,.int .i64 size,.int .i64 limit,.slice A0 left.length c0,.slice A1 right.length c1,.slice A2 lkeys.length c2,.slice A3 rkeys.length c3,.bool false,.slice A4 group.length c4,.slice A5 aggs.length c5] 25));have K1:=new_first w 25 #[.int .i64 kind,.int .i64 mode,.int .i64 low,.int .i64 high,.int .i64 size,.int .i64 limit,.slice A0 left.length c0,.slice A1 right.length c1,.slice A2 lkeys.length c2,.slice A3 rkeys.length c3,.bool false,.slice A4 group.length c4,.slice A5 aggs.length c5] (.cells #[.int .i64 kind,.int .i64 mode,.int .i64 low,.int .i64 high,.int .i64 size,.int .i64 limit,.slice A0 left.length c0,.slice A1 right.length c1,.slice A2 lkeys.length c2,.slice A3 rkeys.length c3,.bool false,.slice A4 group.length c4,.slice A5 aggs.length c5] 25);have K2:=new_second w 25 #[.int .i64 kind,.int .i64 mode,.int .i64 low,.int .i64 high,.int .i64 size,.int .i64 limit,.slice A0 left.length c0,.slice A1 right.length c1,.slice A2 lkeys.length c2,.slice A3 rkeys.length c3,.bool false,.slice A4 group.length c4,.slice A5 aggs.length c5] (.cells #[.int .i64 kind,.int .i64 mode,.int .i64 low,.int .i64 high,.int .i64 size,.int .i64 limit,.slice A0 left.length c0,.slice A1 right.length c1,.slice A2 lkeys.length c2,.slice A3 rkeys.length c3,.bool false,.slice A4 group.length c4,.slice A5 aggs.length c5] 25);have EB:=Lib.hid (HB1.out (.inl rfl));clear HB1 HB2 HK1;rcases hd with h1|⟨h1,h2⟩|⟨h1,h2,h3⟩|⟨h1,h2,h3,h4⟩|⟨h1,h2,h3,h4⟩
 all_goals
  go_enter Tryz.func11,Tryz.ntmps11
  go_wp2_with fail
  go_loopw[4] (fun i wr=> ∃k:Nat,k≤aggs.length∧i= .int .i64 k∧Blk wr w.heap.size 25 #[.int .i64 kind,.int .i64 mode,.int .i64 low,.int .i64 high,.int .i64 size,.int .i64 limit,.slice A0 left.length c0,.slice A1 right.length c1,.slice A2 lkeys.length c2,.slice A3 rkeys.length c3,.bool false,.slice A4 group.length c4,.slice A5 aggs.length c5]∧Blk wr (w.heap.size+1) 25 #[.int .i64 kind,.int .i64 mode,.int .i64 low,.int .i64 high,.int .i64 size,.int .i64 limit,.slice A0 left.length c0,.slice A1 right.length c1,.slice A2 lkeys.length c2,.slice A3 rkeys.length c3,.bool false,.slice A4 group.length c4,.slice A5 aggs.length c5]∧Below w.heap.size w wr) (fun i _=>aggs.length-(intOf i).toNat)
  case atStart=>exact⟨0,by omega,rfl,K1,K2,hB⟩
  case round=>
   obtain⟨k,hk,rfl,J1,J2,hbw⟩:=hrel;have y10:=J1.cell 10 _ rfl;have y12:=J1.cell 12 _ rfl;by_cases hlt:k<aggs.length
   ·go_wp2
    go_roundw
    case rel=>exact⟨k+1,by omega,by go_num,J1,J2,hbw⟩
    case measure=>simp[intOf];omega
   ·obtain rfl:k=aggs.length:=by omega
    have f12:=J2.free 12;have J3:Blk (wr.setCell ⟨w.heap.size+1,12,none⟩ (.slice none 0 0)) (w.heap.size+1) 25 #[.int .i64 kind,.int .i64 mode,.int .i64 low,.int .i64 high,.int .i64 size,.int .i64 limit,.slice A0 left.length c0,.slice A1 right.length c1,.slice A2 lkeys.length c2,.slice A3 rkeys.length c3,.bool false,.slice A4 group.length c4,.slice none 0 0]:=J2.set_ 12 (.slice none 0 0);have J4:=J1.far (p:=⟨w.heap.size+1,12,none⟩) (by simp) (.slice none 0 0);have hb4:=hbw.setCell (p:=⟨w.heap.size+1,12,none⟩) (by simp) (.slice none 0 0);obtain⟨z0,z1,z2,z3,z4,z5,z6,z7,z8,z9,z10,z11,z12⟩:=pl_cells J2;clear J1 J2 J3 hbw
    go_wp2_with fail
    refine(HK2.out _).mono ?_;rintro e w1 ⟨rfl,hb1⟩;have B1:=below_trans hb4 hb1;obtain⟨y0,y1,y2,y3,y4,y5,y6,y7,y8,y9,y10,y11,y12⟩:=pl_cells (J4.below hb1);clear z0 z1 z2 z3 z4 z5 z6 z7 z8 z9 z10 z11 z12 J4 hb4 hb1;cases hbk:bk2
    ·have EE:Hid (R=4):=Lib.hid (by rw[E2.out,←EB.out,hbk];rfl)
     go_wp2;go_ret;exact⟨ret_int (by rw[EE.out]),B1⟩
    ·have E3:Hid (R=if br then 2 else 3):=Lib.hid (by rw[E2.out,←EB.out,hbk];rfl)
     clear hbk
     go_wp2_with fail
     refine(HR.out _).mono ?_;rintro e w2 ⟨rfl,hb2⟩;have B2:=below_trans B1 hb2;cases hbr:br
     ·have EE:Hid (R=3):=Lib.hid (by rw[E3.out,hbr];rfl)
      go_wp2;go_ret;exact⟨ret_int (by rw[EE.out]),B2⟩
     ·have EE:Hid (R=2):=Lib.hid (by rw[E3.out,hbr];rfl)
      go_wp2;go_ret;exact⟨ret_int (by rw[EE.out]),B2⟩
set_option maxHeartbeats 16000000 in
set_option maxRecDepth 10000 in
theorem cp_b (p:Pl)(w:World)(h:p.ok w)(hlong:p.long)(ha:4<p.aggs.length)(hg:p.grouped=true):
 Calls Tryz.prog 11 #[.agg #[.int .i64 p.kind,.int .i64 p.mode,.int .i64 p.low,.int .i64 p.high,.int .i64 p.size,.int .i64 p.limit,p.vl,p.vr,p.vk,p.vq,.bool p.grouped,p.vg,p.va]] w fun e w'=>e= .returned (.int .i64 (checkP p))∧Below w.heap.size w w':=by
 have E:Hid (checkP p=if kindsB p then if rangesB p then if countsB p then if typesB p then if formB p then 0 else 1 else 5 else 2 else 3 else 4):=Lib.hid rfl;have HK1:=Lib.hid (fun w' (hb:Below w.heap.size w w')=>wrongKind_any p w' (h.a.below hb));have HK2:=Lib.hid (fun w'=>wrongKind_any p.bare w' (Sl.nil_ w'));have HR:=Lib.hid (fun w'=>wrongRange_any p w');have HM:=Lib.hid (fun w' (hb:Below w.heap.size w w')=>wrongMany_any p w' (h.below hb));have HT:=Lib.hid (fun w' (hb:Below w.heap.size w w')=>types_any p w' (h.below hb));have HF:=Lib.hid (fun w' (hb:Below w.heap.size w w')=>wrongForm_any p w' (h.below hb));have HL:=Lib.hid (counts_long (p:=p));have HS:=Lib.hid (counts_short (p:=p));have HB1:=Lib.hid (kinds_bare (p:=p));have HB2:=Lib.hid (kinds_bad (p:=p));have HFE:=Lib.hid (form_eq p);have HTE:Hid (typesB p=allB (fun n=>btw n 1 3) (p.left++p.right)):=Lib.hid rfl;have HAA:=Lib.hid h.a;unfold Pl.long at HL hlong;obtain⟨⟨A0,c0,e0,n0,m0,-⟩,⟨A1,c1,e1,n1,m1,-⟩,⟨A2,c2,e2,n2,m2,-⟩,⟨A3,c3,e3,n3,m3,-⟩,⟨A4,c4,e4,n4,m4,-⟩,⟨A5,c5,e5,n5,m5,-⟩⟩:=h;unfold Pl.bare at HK2 HB1;generalize checkP p=R at E⊢;generalize formR p=bf at HF HFE;rw[←HFE.out]at E;clear HFE;have HSS:=Lib.hid (fun(hs:p.short)=>And.intro (And.intro hs.l1 hs.l2) (And.intro hs.r1 hs.r2));obtain⟨kind,mode,low,high,size,limit,vl,vr,vk,vq,grouped,vg,va,left,right,lkeys,rkeys,group,aggs⟩:=p;simp only at HK1 HK2 HR HM HT HF HL HB1 HB2 HAA HTE HS HSS e0 e1 e2 e3 e4 e5 n0 n1 n2 n3 n4 n5 E hlong ha hg⊢;subst e0 e1 e2 e3 e4 e5;unfold maxLen at m0 m1 m2 m3 m4 m5;generalize kindsB ⟨kind,mode,low,high,size,limit,_,_,_,_,grouped,_,_,left,right,lkeys,rkeys,group,aggs⟩=bk at E HK1 HB1 HB2;generalize kindsB ⟨kind,mode,low,high,size,limit,_,_,_,_,grouped,_,_,left,right,lkeys,rkeys,group,[]⟩=bk2 at HK2 HB1;generalize rangesB _=br at E HR;generalize countsB _=bc at E HM HL HS;generalize typesB _=bt at E HTE;subst hg
 have E2:Hid (R=if bk then if br then 2 else 3 else 4):=Lib.hid (by
  have:=E.out;rw[HL.out hlong]at this;exact this)
 clear E HL HM HT HF HTE HS HSS
 have hd:(4<(left.length:Int))∨(¬4<(left.length:Int)∧4<(right.length:Int))∨(¬4<(left.length:Int)∧ ¬4<(right.length:Int)∧4<(lkeys.length:Int))∨(¬4<(left.length:Int)∧ ¬4<(right.length:Int)∧ ¬4<(lkeys.length:Int)∧4<(rkeys.length:Int))∨
  (¬4<(left.length:Int)∧ ¬4<(right.length:Int)∧ ¬4<(lkeys.length:Int)∧ ¬4<(rkeys.length:Int)∧4<(aggs.length:Int))∨(¬4<(left.length:Int)∧ ¬4<(right.length:Int)∧ ¬4<(lkeys.length:Int)∧ ¬4<(rkeys.length:Int)∧ ¬4<(aggs.length:Int)∧8<(group.length:Int)):=by omega
 clear hlong;have ha:4<(aggs.length:Int):=by omega
 have hd:(4<(left.length:Int))∨(¬4<(left.length:Int)∧4<(right.length:Int))∨(¬4<(left.length:Int)∧ ¬4<(right.length:Int)∧4<(lkeys.length:Int))∨(¬4<(left.length:Int)∧ ¬4<(right.length:Int)∧ ¬4<(lkeys.length:Int)∧4<(rkeys.length:Int))∨
  (¬4<(left.length:Int)∧ ¬4<(right.length:Int)∧ ¬4<(lkeys.length:Int)∧ ¬4<(rkeys.length:Int)):=by omega
 have hB:=below_trans (below_alloc w (.cells #[.int .i64 kind,.int .i64 mode,.int .i64 low,.int .i64 high,.int .i64 size,.int .i64 limit,.slice A0 left.length c0,.slice A1 right.length c1,.slice A2 lkeys.length c2,.slice A3 rkeys.length c3,.bool true,.slice A4 group.length c4,.slice A5 aggs.length c5] 25)) (below_alloc _ (.cells #[.int .i64 kind,.int .i64 mode,.int .i64 low,.int .i64 high,.int .i64 size,.int .i64 limit,.slice A0 left.length c0,.slice A1 right.length c1,.slice A2 lkeys.length c2,.slice A3 rkeys.length c3,.bool true,.slice A4 group.length c4,.slice A5 aggs.length c5] 25));have K1:=new_first w 25 #[.int .i64 kind,.int .i64 mode,.int .i64 low,.int .i64 high,.int .i64 size,.int .i64 limit,.slice A0 left.length c0,.slice A1 right.length c1,.slice A2 lkeys.length c2,.slice A3 rkeys.length c3,.bool true,.slice A4 group.length c4,.slice A5 aggs.length c5] (.cells #[.int .i64 kind,.int .i64 mode,.int .i64 low,.int .i64 high,.int .i64 size,.int .i64 limit,.slice A0 left.length c0,.slice A1 right.length c1,.slice A2 lkeys.length c2,.slice A3 rkeys.length c3,.bool true,.slice A4 group.length c4,.slice A5 aggs.length c5] 25);have K2:=new_second w 25 #[.int .i64 kind,.int .i64 mode,.int .i64 low,.int .i64 high,.int .i64 size,.int .i64 limit,.slice A0 left.length c0,.slice A1 right.length c1,.slice A2 lkeys.length c2,.slice A3 rkeys.length c3,.bool true,.slice A4 group.length c4,.slice A5 aggs.length c5] (.cells #[.int .i64 kind,.int .i64 mode,.int .i64 low,.int .i64 high,.int .i64 size,.int .i64 limit,.slice A0 left.length c0,.slice A1 right.length c1,.slice A2 lkeys.length c2,.slice A3 rkeys.length c3,.bool true,.slice A4 group.length c4,.slice A5 aggs.length c5] 25);rcases hd with h1|⟨h1,h2⟩|⟨h1,h2,h3⟩|⟨h1,h2,h3,h4⟩|⟨h1,h2,h3,h4⟩
 all_goals
  go_enter Tryz.func11,Tryz.ntmps11
  go_wp2_with fail
  go_loopw[4] (fun i wr=> ∃k:Nat,k≤aggs.length∧i= .int .i64 k∧Hid (∀x∈aggs.take k,btw x.1 1 4=true)∧Blk wr w.heap.size 25 #[.int .i64 kind,.int .i64 mode,.int .i64 low,.int .i64 high,.int .i64 size,.int .i64 limit,.slice A0 left.length c0,.slice A1 right.length c1,.slice A2 lkeys.length c2,.slice A3 rkeys.length c3,.bool true,.slice A4 group.length c4,.slice A5 aggs.length c5]∧Blk wr (w.heap.size+1) 25 #[.int .i64 kind,.int .i64 mode,.int .i64 low,.int .i64 high,.int .i64 size,.int .i64 limit,.slice A0 left.length c0,.slice A1 right.length c1,.slice A2 lkeys.length c2,.slice A3 rkeys.length c3,.bool true,.slice A4 group.length c4,.slice A5 aggs.length c5]∧Below w.heap.size w wr) (fun i _=>aggs.length-(intOf i).toNat)
  case atStart=>exact⟨0,by omega,rfl,by simp[Hid],K1,K2,hB⟩
  case round=>
   obtain⟨k,hk,rfl,H,J1,J2,hbw⟩:=hrel;have y10:=J1.cell 10 _ rfl;have y12:=J1.cell 12 _ rfl;by_cases hlt:k<aggs.length
   ·have hx:=List.getElem?_eq_getElem (l:=aggs) hlt
    generalize aggs[k]=x at hx;obtain⟨g,off,rfl,-,hc⟩:=agg_at HAA.out rfl hx;obtain⟨d1,d2⟩:=hc _ hbw;have HX:=Lib.hid hx;clear hx hc;cases hq:btw x.1 1 4
    ·have e1:=Lib.hid (all_no (f:=fun a=>btw a.1 1 4) HX.out hq)
     have EE:Hid (R=4):=Lib.hid (by rw[E2.out,HB2.out trivial e1.out];rfl)
     go_wp2_with (go_at_call 34;refine(within_any _ _ _ _).mono ?_;rintro e w' ⟨rfl,rfl⟩)
     go_ret;exact⟨ret_int (by rw[EE.out]),hbw⟩
    ·have e1:=Lib.hid (all_step (f:=fun a=>btw a.1 1 4) H.out HX.out hq)
     go_wp2_with (go_at_call 34;refine(within_any _ _ _ _).mono ?_;rintro e w' ⟨rfl,rfl⟩)
     go_roundw
     case rel=>exact⟨k+1,by omega,by go_num,e1.out,J1,J2,hbw⟩
     case measure=>simp[intOf];omega
   ·obtain rfl:k=aggs.length:=by omega
    have EB:=Lib.hid (HB1.out (.inr (all_yes (f:=fun a:Int×Int=>btw a.1 1 4) H.out)));have f12:=J2.free 12;have J3:Blk (wr.setCell ⟨w.heap.size+1,12,none⟩ (.slice none 0 0)) (w.heap.size+1) 25 #[.int .i64 kind,.int .i64 mode,.int .i64 low,.int .i64 high,.int .i64 size,.int .i64 limit,.slice A0 left.length c0,.slice A1 right.length c1,.slice A2 lkeys.length c2,.slice A3 rkeys.length c3,.bool true,.slice A4 group.length c4,.slice none 0 0]:=J2.set_ 12 (.slice none 0 0);have J4:=J1.far (p:=⟨w.heap.size+1,12,none⟩) (by simp) (.slice none 0 0);have hb4:=hbw.setCell (p:=⟨w.heap.size+1,12,none⟩) (by simp) (.slice none 0 0);obtain⟨z0,z1,z2,z3,z4,z5,z6,z7,z8,z9,z10,z11,z12⟩:=pl_cells J2;clear J1 J2 J3 hbw
    go_wp2_with fail
    refine(HK2.out _).mono ?_;rintro e w1 ⟨rfl,hb1⟩;have B1:=below_trans hb4 hb1;obtain⟨y0,y1,y2,y3,y4,y5,y6,y7,y8,y9,y10,y11,y12⟩:=pl_cells (J4.below hb1);clear z0 z1 z2 z3 z4 z5 z6 z7 z8 z9 z10 z11 z12 J4 hb4 hb1;cases hbk:bk2
    ·have EE:Hid (R=4):=Lib.hid (by rw[E2.out,←EB.out,hbk];rfl)
     go_wp2;go_ret;exact⟨ret_int (by rw[EE.out]),B1⟩
    ·have E3:Hid (R=if br then 2 else 3):=Lib.hid (by rw[E2.out,←EB.out,hbk];rfl)
     clear hbk
     go_wp2_with fail
     refine(HR.out _).mono ?_;rintro e w2 ⟨rfl,hb2⟩;have B2:=below_trans B1 hb2;cases hbr:br
     ·have EE:Hid (R=3):=Lib.hid (by rw[E3.out,hbr];rfl)
      go_wp2;go_ret;exact⟨ret_int (by rw[EE.out]),B2⟩
     ·have EE:Hid (R=2):=Lib.hid (by rw[E3.out,hbr];rfl)
      go_wp2;go_ret;exact⟨ret_int (by rw[EE.out]),B2⟩
set_option maxHeartbeats 16000000 in
set_option maxRecDepth 10000 in
theorem cp_c (p:Pl)(w:World)(h:p.ok w)(hlong:p.long)(ha: ¬4<p.aggs.length):
 Calls Tryz.prog 11 #[.agg #[.int .i64 p.kind,.int .i64 p.mode,.int .i64 p.low,.int .i64 p.high,.int .i64 p.size,.int .i64 p.limit,p.vl,p.vr,p.vk,p.vq,.bool p.grouped,p.vg,p.va]] w fun e w'=>e= .returned (.int .i64 (checkP p))∧Below w.heap.size w w':=by
 have E:Hid (checkP p=if kindsB p then if rangesB p then if countsB p then if typesB p then if formB p then 0 else 1 else 5 else 2 else 3 else 4):=Lib.hid rfl;have HK1:=Lib.hid (fun w' (hb:Below w.heap.size w w')=>wrongKind_any p w' (h.a.below hb));have HK2:=Lib.hid (fun w'=>wrongKind_any p.bare w' (Sl.nil_ w'));have HR:=Lib.hid (fun w'=>wrongRange_any p w');have HM:=Lib.hid (fun w' (hb:Below w.heap.size w w')=>wrongMany_any p w' (h.below hb));have HT:=Lib.hid (fun w' (hb:Below w.heap.size w w')=>types_any p w' (h.below hb));have HF:=Lib.hid (fun w' (hb:Below w.heap.size w w')=>wrongForm_any p w' (h.below hb));have HL:=Lib.hid (counts_long (p:=p));have HS:=Lib.hid (counts_short (p:=p));have HB1:=Lib.hid (kinds_bare (p:=p));have HB2:=Lib.hid (kinds_bad (p:=p));have HFE:=Lib.hid (form_eq p);have HTE:Hid (typesB p=allB (fun n=>btw n 1 3) (p.left++p.right)):=Lib.hid rfl;have HAA:=Lib.hid h.a;unfold Pl.long at HL hlong;obtain⟨⟨A0,c0,e0,n0,m0,-⟩,⟨A1,c1,e1,n1,m1,-⟩,⟨A2,c2,e2,n2,m2,-⟩,⟨A3,c3,e3,n3,m3,-⟩,⟨A4,c4,e4,n4,m4,-⟩,⟨A5,c5,e5,n5,m5,-⟩⟩:=h;unfold Pl.bare at HK2 HB1;generalize checkP p=R at E⊢;generalize formR p=bf at HF HFE;rw[←HFE.out]at E;clear HFE;have HSS:=Lib.hid (fun(hs:p.short)=>And.intro (And.intro hs.l1 hs.l2) (And.intro hs.r1 hs.r2));obtain⟨kind,mode,low,high,size,limit,vl,vr,vk,vq,grouped,vg,va,left,right,lkeys,rkeys,group,aggs⟩:=p;simp only at HK1 HK2 HR HM HT HF HL HB1 HB2 HAA HTE HS HSS e0 e1 e2 e3 e4 e5 n0 n1 n2 n3 n4 n5 E hlong ha⊢;subst e0 e1 e2 e3 e4 e5;unfold maxLen at m0 m1 m2 m3 m4 m5;generalize kindsB ⟨kind,mode,low,high,size,limit,_,_,_,_,grouped,_,_,left,right,lkeys,rkeys,group,aggs⟩=bk at E HK1 HB1 HB2;generalize kindsB ⟨kind,mode,low,high,size,limit,_,_,_,_,grouped,_,_,left,right,lkeys,rkeys,group,[]⟩=bk2 at HK2 HB1;generalize rangesB _=br at E HR;generalize countsB _=bc at E HM HL HS;generalize typesB _=bt at E HTE
 have E2:Hid (R=if bk then if br then 2 else 3 else 4):=Lib.hid (by
  have:=E.out;rw[HL.out hlong]at this;exact this)
 clear E HL HM HT HF HTE HS HSS
 have hd:(4<(left.length:Int))∨(¬4<(left.length:Int)∧4<(right.length:Int))∨(¬4<(left.length:Int)∧ ¬4<(right.length:Int)∧4<(lkeys.length:Int))∨(¬4<(left.length:Int)∧ ¬4<(right.length:Int)∧ ¬4<(lkeys.length:Int)∧4<(rkeys.length:Int))∨
  (¬4<(left.length:Int)∧ ¬4<(right.length:Int)∧ ¬4<(lkeys.length:Int)∧ ¬4<(rkeys.length:Int)∧4<(aggs.length:Int))∨(¬4<(left.length:Int)∧ ¬4<(right.length:Int)∧ ¬4<(lkeys.length:Int)∧ ¬4<(rkeys.length:Int)∧ ¬4<(aggs.length:Int)∧8<(group.length:Int)):=by omega
 clear hlong;have ha: ¬4<(aggs.length:Int):=by omega
 have hd:(4<(left.length:Int))∨(¬4<(left.length:Int)∧4<(right.length:Int))∨(¬4<(left.length:Int)∧ ¬4<(right.length:Int)∧4<(lkeys.length:Int))∨(¬4<(left.length:Int)∧ ¬4<(right.length:Int)∧ ¬4<(lkeys.length:Int)∧4<(rkeys.length:Int))∨
  (¬4<(left.length:Int)∧ ¬4<(right.length:Int)∧ ¬4<(lkeys.length:Int)∧ ¬4<(rkeys.length:Int)∧8<(group.length:Int)):=by omega
 clear HB1 HB2 HK2;have hB:=below_trans (below_alloc w (.cells #[.int .i64 kind,.int .i64 mode,.int .i64 low,.int .i64 high,.int .i64 size,.int .i64 limit,.slice A0 left.length c0,.slice A1 right.length c1,.slice A2 lkeys.length c2,.slice A3 rkeys.length c3,.bool grouped,.slice A4 group.length c4,.slice A5 aggs.length c5] 25)) (below_alloc _ (.cells #[.int .i64 kind,.int .i64 mode,.int .i64 low,.int .i64 high,.int .i64 size,.int .i64 limit,.slice A0 left.length c0,.slice A1 right.length c1,.slice A2 lkeys.length c2,.slice A3 rkeys.length c3,.bool grouped,.slice A4 group.length c4,.slice A5 aggs.length c5] 25));have K1:=new_first w 25 #[.int .i64 kind,.int .i64 mode,.int .i64 low,.int .i64 high,.int .i64 size,.int .i64 limit,.slice A0 left.length c0,.slice A1 right.length c1,.slice A2 lkeys.length c2,.slice A3 rkeys.length c3,.bool grouped,.slice A4 group.length c4,.slice A5 aggs.length c5] (.cells #[.int .i64 kind,.int .i64 mode,.int .i64 low,.int .i64 high,.int .i64 size,.int .i64 limit,.slice A0 left.length c0,.slice A1 right.length c1,.slice A2 lkeys.length c2,.slice A3 rkeys.length c3,.bool grouped,.slice A4 group.length c4,.slice A5 aggs.length c5] 25);rcases hd with h1|⟨h1,h2⟩|⟨h1,h2,h3⟩|⟨h1,h2,h3,h4⟩|⟨h1,h2,h3,h4,h5⟩
 all_goals
  go_enter Tryz.func11,Tryz.ntmps11
  go_wp2_with fail
  refine(HK1.out _ hB).mono ?_;rintro e w1 ⟨rfl,hb1⟩;have B1:=below_trans hB hb1;obtain⟨y0,y1,y2,y3,y4,y5,y6,y7,y8,y9,y10,y11,y12⟩:=pl_cells (K1.below hb1);clear hb1;cases hbk:bk
  ·have EE:Hid (R=4):=Lib.hid (by rw[E2.out,hbk];rfl)
   go_wp2;go_ret;exact⟨ret_int (by rw[EE.out]),B1⟩
  ·have E3:Hid (R=if br then 2 else 3):=Lib.hid (by rw[E2.out,hbk];rfl)
   clear hbk
   go_wp2_with fail
   refine(HR.out _).mono ?_;rintro e w2 ⟨rfl,hb2⟩;have B2:=below_trans B1 hb2;cases hbr:br
   ·have EE:Hid (R=3):=Lib.hid (by rw[E3.out,hbr];rfl)
    go_wp2;go_ret;exact⟨ret_int (by rw[EE.out]),B2⟩
   ·have EE:Hid (R=2):=Lib.hid (by rw[E3.out,hbr];rfl)
    go_wp2;go_ret;exact⟨ret_int (by rw[EE.out]),B2⟩
set_option maxHeartbeats 16000000 in
set_option maxRecDepth 10000 in
theorem cp_d (p:Pl)(w:World)(h:p.ok w)(hlong: ¬p.long):
 Calls Tryz.prog 11 #[.agg #[.int .i64 p.kind,.int .i64 p.mode,.int .i64 p.low,.int .i64 p.high,.int .i64 p.size,.int .i64 p.limit,p.vl,p.vr,p.vk,p.vq,.bool p.grouped,p.vg,p.va]] w fun e w'=>e= .returned (.int .i64 (checkP p))∧Below w.heap.size w w':=by
 have E:Hid (checkP p=if kindsB p then if rangesB p then if countsB p then if typesB p then if formB p then 0 else 1 else 5 else 2 else 3 else 4):=Lib.hid rfl;have HK1:=Lib.hid (fun w' (hb:Below w.heap.size w w')=>wrongKind_any p w' (h.a.below hb));have HK2:=Lib.hid (fun w'=>wrongKind_any p.bare w' (Sl.nil_ w'));have HR:=Lib.hid (fun w'=>wrongRange_any p w');have HM:=Lib.hid (fun w' (hb:Below w.heap.size w w')=>wrongMany_any p w' (h.below hb));have HT:=Lib.hid (fun w' (hb:Below w.heap.size w w')=>types_any p w' (h.below hb));have HF:=Lib.hid (fun w' (hb:Below w.heap.size w w')=>wrongForm_any p w' (h.below hb));have HL:=Lib.hid (counts_long (p:=p));have HS:=Lib.hid (counts_short (p:=p));have HB1:=Lib.hid (kinds_bare (p:=p));have HB2:=Lib.hid (kinds_bad (p:=p));have HFE:=Lib.hid (form_eq p);have HTE:Hid (typesB p=allB (fun n=>btw n 1 3) (p.left++p.right)):=Lib.hid rfl;have HAA:=Lib.hid h.a;unfold Pl.long at HL hlong;obtain⟨⟨A0,c0,e0,n0,m0,-⟩,⟨A1,c1,e1,n1,m1,-⟩,⟨A2,c2,e2,n2,m2,-⟩,⟨A3,c3,e3,n3,m3,-⟩,⟨A4,c4,e4,n4,m4,-⟩,⟨A5,c5,e5,n5,m5,-⟩⟩:=h;unfold Pl.bare at HK2 HB1;generalize checkP p=R at E⊢;generalize formR p=bf at HF HFE;rw[←HFE.out]at E;clear HFE;have HSS:=Lib.hid (fun(hs:p.short)=>And.intro (And.intro hs.l1 hs.l2) (And.intro hs.r1 hs.r2));obtain⟨kind,mode,low,high,size,limit,vl,vr,vk,vq,grouped,vg,va,left,right,lkeys,rkeys,group,aggs⟩:=p;simp only at HK1 HK2 HR HM HT HF HL HB1 HB2 HAA HTE HS HSS e0 e1 e2 e3 e4 e5 n0 n1 n2 n3 n4 n5 E hlong⊢;subst e0 e1 e2 e3 e4 e5;unfold maxLen at m0 m1 m2 m3 m4 m5;generalize kindsB ⟨kind,mode,low,high,size,limit,_,_,_,_,grouped,_,_,left,right,lkeys,rkeys,group,aggs⟩=bk at E HK1 HB1 HB2;generalize kindsB ⟨kind,mode,low,high,size,limit,_,_,_,_,grouped,_,_,left,right,lkeys,rkeys,group,[]⟩=bk2 at HK2 HB1;generalize rangesB _=br at E HR;generalize countsB _=bc at E HM HL HS;generalize typesB _=bt at E HTE;have hB:=below_alloc w (.cells #[.int .i64 kind,.int .i64 mode,.int .i64 low,.int .i64 high,.int .i64 size,.int .i64 limit,.slice A0 left.length c0,.slice A1 right.length c1,.slice A2 lkeys.length c2,.slice A3 rkeys.length c3,.bool grouped,.slice A4 group.length c4,.slice A5 aggs.length c5] 25);have K1:=Blk.new w 25 #[.int .i64 kind,.int .i64 mode,.int .i64 low,.int .i64 high,.int .i64 size,.int .i64 limit,.slice A0 left.length c0,.slice A1 right.length c1,.slice A2 lkeys.length c2,.slice A3 rkeys.length c3,.bool grouped,.slice A4 group.length c4,.slice A5 aggs.length c5];have g1: ¬4<(left.length:Int):=by omega
 have g2: ¬4<(right.length:Int):=by omega
 have g3: ¬4<(lkeys.length:Int):=by omega
 have g4: ¬4<(rkeys.length:Int):=by omega
 have g5: ¬4<(aggs.length:Int):=by omega
 have g6: ¬8<(group.length:Int):=by omega
 have hl4:left.length≤1000:=by omega
 have hr4:right.length≤1000:=by omega
 clear hlong HL HB1 HB2 HK2;go_enter Tryz.func11,Tryz.ntmps11
 go_wp2_with fail
 refine(HK1.out _ hB).mono ?_;rintro e w1 ⟨rfl,hb1⟩;have B1:=below_trans hB hb1;have K2:=K1.below hb1;obtain⟨y0,y1,y2,y3,y4,y5,y6,y7,y8,y9,y10,y11,y12⟩:=pl_cells K2;clear g1 g2 g3 g4 g5 g6 hb1 K1 hB HK1;cases hbk:bk
 ·have EE:Hid (R=4):=Lib.hid (by rw[E.out,hbk];rfl)
  go_wp2;go_ret;exact⟨ret_int (by rw[EE.out]),B1⟩
 ·have E3:Hid (R=if br then if bc then if bt then if bf then 0 else 1 else 5 else 2 else 3):=Lib.hid (by rw[E.out,hbk];rfl)
  clear hbk E
  go_wp2_with fail
  refine(HR.out _).mono ?_;rintro e w2 ⟨rfl,hb2⟩;have B2:=below_trans B1 hb2;have K3:=K2.below hb2;clear y0 y1 y2 y3 y4 y5 y6 y7 y8 y9 y10 y11 y12 K2 hb2 B1;obtain⟨y0,y1,y2,y3,y4,y5,y6,y7,y8,y9,y10,y11,y12⟩:=pl_cells K3;cases hbr:br
  ·have EE:Hid (R=3):=Lib.hid (by rw[E3.out,hbr];rfl)
   go_wp2;go_ret;exact⟨ret_int (by rw[EE.out]),B2⟩
  ·have E4:Hid (R=if bc then if bt then if bf then 0 else 1 else 5 else 2):=Lib.hid (by rw[E3.out,hbr];rfl)
   clear hbr E3
   go_wp2_with fail
   refine(HM.out _ B2).mono ?_;rintro e w3 ⟨rfl,hb3⟩;have B3:=below_trans B2 hb3;have K4:=K3.below hb3;clear y0 y1 y2 y3 y4 y5 y6 y7 y8 y9 y10 y11 y12 K3 hb3 B2;obtain⟨y0,y1,y2,y3,y4,y5,y6,y7,y8,y9,y10,y11,y12⟩:=pl_cells K4;cases hbc:bc
   ·have EE:Hid (R=2):=Lib.hid (by rw[E4.out,hbc];rfl)
    go_wp2;go_ret;exact⟨ret_int (by rw[EE.out]),B3⟩
   ·have E5:Hid (R=if bt then if bf then 0 else 1 else 5):=Lib.hid (by rw[E4.out,hbc];rfl)
    have HS2:=Lib.hid (HS.out hbc);clear hbc E4
    go_wp2_with fail
    refine(HT.out _ B3 hl4 hr4).mono ?_;rintro e w4 ⟨vt,rfl,hst,-,hb4⟩;have B4:=below_trans B3 hb4;have K5:=K4.below hb4;clear y0 y1 y2 y3 y4 y5 y6 y7 y8 y9 y10 y11 y12 K4 hb4 B3;have hz:(left++right).length≤2000:=by rw[List.length_append];omega
    have HST:=Lib.hid hst;generalize left++right=t at HST hst HTE hz;obtain⟨A6,c6,rfl,n6,m6,-⟩:=hst;unfold maxLen at m6
    go_wp2_with fail
    go_loopw[6] (fun i wr=> ∃k:Nat,k≤t.length∧i= .int .i64 k∧Hid (∀x∈t.take k,btw x 1 3=true)∧w4=wr) (fun i _=>t.length-(intOf i).toNat)
    case atStart=>exact⟨0,by omega,rfl,by simp[Hid],rfl⟩
    case round=>
     obtain⟨k,hk,rfl,H,rfl⟩:=hrel;by_cases hlt:k<t.length
     ·obtain⟨g,off,rfl,-,hc⟩:=int_at HST.out rfl hlt
      have c1:=hc _ (Below.refl _ _);have hg:t[k]?=some (t.getD k 0):=by simp[hlt]
      generalize t.getD k 0=n at c1 hg;have HX:=Lib.hid hg;clear hg hc;cases hq:btw n 1 3
      ·have e1:=Lib.hid (all_no (f:=fun n=>btw n 1 3) HX.out hq)
       have EE:Hid (R=5):=Lib.hid (by rw[E5.out,HTE.out,e1.out];rfl)
       go_wp2_with (go_at_call 34;refine(within_any _ _ _ _).mono ?_;rintro e w' ⟨rfl,rfl⟩)
       go_ret;exact⟨ret_int (by rw[EE.out]),B4⟩
      ·have e1:=Lib.hid (all_step (f:=fun n=>btw n 1 3) H.out HX.out hq)
       go_wp2_with (go_at_call 34;refine(within_any _ _ _ _).mono ?_;rintro e w' ⟨rfl,rfl⟩)
       go_roundw
       case rel=>exact⟨k+1,by omega,by go_num,e1.out,trivial⟩
       case measure=>simp[intOf];omega
     ·obtain rfl:k=t.length:=by omega
      have e1:=Lib.hid (all_yes (f:=fun n:Int=>btw n 1 3) H.out);have E6:Hid (R=if bf then 0 else 1):=Lib.hid (by rw[E5.out,HTE.out,e1.out];rfl);obtain⟨y0,y1,y2,y3,y4,y5,y6,y7,y8,y9,y10,y11,y12⟩:=pl_cells K5
      go_wp2_with fail
      refine(HF.out _ B4 HS2.out).mono ?_;rintro e w5 ⟨rfl,hb5⟩;have B5:=below_trans B4 hb5;cases hbf:bf
      ·have EE:Hid (R=1):=Lib.hid (by rw[E6.out,hbf];rfl)
       go_wp2;go_ret;exact⟨ret_int (by rw[EE.out]),B5⟩
      ·have EE:Hid (R=0):=Lib.hid (by rw[E6.out,hbf];rfl)
       go_wp2;go_ret;exact⟨ret_int (by rw[EE.out]),B5⟩
theorem checkPlan_any (p:Pl)(w:World)(h:p.ok w):
 Calls Tryz.prog 11 #[.agg #[.int .i64 p.kind,.int .i64 p.mode,.int .i64 p.low,.int .i64 p.high,.int .i64 p.size,.int .i64 p.limit,p.vl,p.vr,p.vk,p.vq,.bool p.grouped,p.vg,p.va]] w fun e w'=>e= .returned (.int .i64 (checkP p))∧Below w.heap.size w w':=by
 by_cases hl:p.long
 ·by_cases ha:4<p.aggs.length
  ·cases hg:p.grouped
   ·have:=cp_a p w h hl ha hg
    rwa[hg]at this
   ·have:=cp_b p w h hl ha hg
    rwa[hg]at this
  ·exact cp_c p w h hl ha
 ·exact cp_d p w h hl
end Go.Proofs.YtjodlngbiikgfaaGreatDoor
