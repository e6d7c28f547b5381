/-Groups: (look).fine. -/
import Derived.Test.YtjhbeecmdgglgaaGreatDoorGrpV15
import Derived.Test.YtjhbeecmdgglgaaGreatDoorGrpV3
set_option linter.unusedSimpArgs false
set_option linter.unusedVariables false
namespace Go.Proofs.YtjhbeecmdgglgaaGreatDoor
open Go.RowKit
theorem keyR_two (l:List Val):(keyR l).2=keyErr l:=by
 unfold keyR;by_cases h:keyErr l=0
 ·rw[if_neg (fun h'=>h' h),h]
 ·rw[if_pos h]
theorem zip_at {α β:Type}{l:List α}{m:List β}{k:Nat}{x:α}{y:β}(h1:l[k]?=some x)(h2:m[k]?=some y):(l.zip m)[k]?=some (x,y):=by rw[List.getElem?_zip_eq_some];exact⟨h1,h2⟩
set_option maxHeartbeats 16000000 in
set_option maxRecDepth 10000 in
theorem gfine_any (p:Pl)(all own:Value)(g:Gm)(w:World)(hall:Sl w all (allT p).length (intCells (allT p)))(hown:Sl w own (ownT p).length (intCells (ownT p)))(hpa:Sl w p.va p.aggs.length (aggCells p.aggs))(hg:g.ok w)(hf:g.fit)(hm:Mx w)(hz:checkP p=0):
 Calls Tryz.prog 111 #[.agg (lookCells p all own),g.agg] w fun e w'=>e= .returned (.bool (groupB p g.gp))∧Below w.heap.size w w':=by
 have HALL:=Lib.hid hall;have HOWN:=Lib.hid hown;have HPA:=Lib.hid hpa;have HG:=Lib.hid hg;have HF:=Lib.hid hf;have HKY:=Lib.hid (fun W (h:Below w.heap.size w W)=>key_any g.v g.r W (hg.row.below h) hf.fine.row (hm.below h));have HTF:=Lib.hid (fun W (h:Below w.heap.size w W) (hl:g.r.length=(ownT p).length)=>typesFit_any g.v own g.r (ownT p) W (hg.row.below h) (hown.below h) hl);have HBG:=Lib.hid (fun W (h:Below w.heap.size w W) (a:Int×Int) (q:Value×List Tl) (h1:a∈p.aggs) (h2:q∈g.bags) (hn:0≤g.n∧g.n≤1073741824)=>bag_any p all own a g.n q.1 q.2 W (hall.below h) ((hg.bags q h2).below h) (fun x hx=>hf.fine.bags q.2 (List.mem_map.2 ⟨q,h2,rfl⟩) x hx) (fun h3=>form_aggs (check_ok hz).2.2.2.2 a h1 h3) hn)
 have hgb:groupB p g.gp=((keyErr g.r==0)&&((g.r.length==(ownT p).length)&&(allB fitOne ((ownT p).zip g.r)&&(btw g.n 1 1073741824&&((g.bags.length==p.aggs.length)&&(p.aggs.zip (g.bags.map (·.2))).all fun q=>bagB p q.1 g.n q.2))))):=by
  unfold groupB Gm.gp;simp only[List.length_map];rfl
 obtain⟨R,hR⟩: ∃R:Bool,R=groupB p g.gp:=⟨_,rfl⟩;rw[←hR];rw[hgb]at hR;have HR:=Lib.hid hR;have hnum:=hf.fine.num;have e1:(keyR g.r).2=keyErr g.r:=keyR_two g.r;rw[e1]at HKY;generalize (keyR g.r).1=KS at HKY;generalize keyErr g.r=KE at HKY HR;clear hR hgb e1 hall hown hpa hm;obtain⟨Aa,ca,rfl,-⟩:=id HALL.out;obtain⟨Ao,co,rfl,no,mo,-⟩:=id HOWN.out;obtain⟨A5,c5,hva,n5,m5,-⟩:=id HPA.out;obtain⟨gv,gr,gn,gvb,gbags⟩:=g;obtain⟨Ar,cr,hv,nr,mr,-⟩:=id hg.row;obtain⟨Ab,cb,hvb,nb,mb,-⟩:=id hg.sl;simp only at hv hvb nr nb hnum;subst hv hvb;unfold maxLen at mo m5 mr mb;unfold Gm.agg lookCells;unfold lookCells at HBG;rw[hva]at HBG HPA⊢;clear hva hg hf hz;simp only at HKY HTF HBG HR⊢;have hB:=below_trans (below_alloc w (.cells #[.int .i64 p.kind,.int .i64 p.mode,.int .i64 p.low,.int .i64 p.high,.int .i64 p.size,.int .i64 p.limit,p.vl,p.vr,p.vk,p.vq,.bool p.grouped,p.vg,.slice A5 p.aggs.length c5,.slice Aa (allT p).length ca,.slice Ao (ownT p).length co] 114)) (below_alloc _ (.cells #[.slice Ar gr.length cr,.int .i64 gn,.slice Ab gbags.length cb] 126));have K0:=new_first w 114 #[.int .i64 p.kind,.int .i64 p.mode,.int .i64 p.low,.int .i64 p.high,.int .i64 p.size,.int .i64 p.limit,p.vl,p.vr,p.vk,p.vq,.bool p.grouped,p.vg,.slice A5 p.aggs.length c5,.slice Aa (allT p).length ca,.slice Ao (ownT p).length co] (.cells #[.slice Ar gr.length cr,.int .i64 gn,.slice Ab gbags.length cb] 126);have K1:=new_second w 126 #[.slice Ar gr.length cr,.int .i64 gn,.slice Ab gbags.length cb] (.cells #[.int .i64 p.kind,.int .i64 p.mode,.int .i64 p.low,.int .i64 p.high,.int .i64 p.size,.int .i64 p.limit,p.vl,p.vr,p.vk,p.vq,.bool p.grouped,p.vg,.slice A5 p.aggs.length c5,.slice Aa (allT p).length ca,.slice Ao (ownT p).length co] 114);have HTF1:=Lib.hid (fun W (h:Below w.heap.size w W) (hl:gr.length=(ownT p).length)=>HTF.out W h hl);generalize hft:allB fitOne ((ownT p).zip gr)=FT at HTF1 HR;generalize hlo:(ownT p).length=lo at HTF1 HR HOWN HBG hB K0 K1 no⊢;generalize hla:(allT p).length=la at hB K0 K1 HBG HALL⊢;clear HTF hft hlo hla;go_enter Tryz.func111,Tryz.ntmps111
 go_wp2_with fail
 refine(HKY.out _ hB).mono ?_;rintro e w1 ⟨rfl,hb1⟩;have hbw:=below_trans hB hb1;have L0:=K0.below hb1;have L1:=K1.below hb1;have y0:=L1.cell 0 _ rfl;have y1:=L1.cell 1 _ rfl;have y2:=L1.cell 2 _ rfl;have y14:=L0.cell 14 _ rfl;have y12:=L0.cell 12 _ rfl;clear hB hb1 HKY K0 K1;by_cases hke:KE=0
 ·have q1:=bneF hke
  have HR1:=Lib.hid (HR.out.trans (by rw[beqT hke,Bool.true_and]));clear HR hke;by_cases hlen:gr.length=lo
  ·have q2:((gr.length:Int) !=(lo:Int))=false:=bneF (by omega)
   have HR2:=Lib.hid (HR1.out.trans (by rw[show(gr.length==lo)=true from by simp[hlen],Bool.true_and]));have HT:=Lib.hid (HTF1.out w1 hbw hlen);clear HR1 hlen HTF1;cases FT with
   |false=>
    have EE:Hid (R=false):=Lib.hid HR2.out
    go_wp2_with (go_at_call 77;refine HT.out.mono ?_;rintro e w2 ⟨rfl,hb2⟩)
    go_ret;exact⟨by rw[EE.out];rfl,below_trans hbw hb2⟩
   |true=>
    have HR3:=Lib.hid (HR2.out.trans (by rw[Bool.true_and]));clear HR2;by_cases hn1:gn<1
    ·have EE:Hid (R=false):=Lib.hid (HR3.out.trans (by rw[btw_no (.inl hn1)];rfl))
     go_wp2_with (go_at_call 77;refine HT.out.mono ?_;rintro e w2 ⟨rfl,hb2⟩;have z1:=(L1.below hb2).cell 1 _ rfl)
     go_ret;exact⟨by rw[EE.out];rfl,below_trans hbw hb2⟩
    ·by_cases hn2:1073741824<gn
     ·have EE:Hid (R=false):=Lib.hid (HR3.out.trans (by rw[btw_no (.inr hn2)];rfl))
      go_wp2_with (go_at_call 77;refine HT.out.mono ?_;rintro e w2 ⟨rfl,hb2⟩;have z1:=(L1.below hb2).cell 1 _ rfl)
      go_ret;exact⟨by rw[EE.out];rfl,below_trans hbw hb2⟩
     ·have HR4:=Lib.hid (HR3.out.trans (by rw[btw_yes (show 1≤gn by omega) (show gn≤1073741824 by omega),Bool.true_and]))
      clear HR3;by_cases hbl:gbags.length=p.aggs.length
      ·have HR5:Hid (R=allB (fun q=>bagB p q.1 gn q.2) (p.aggs.zip (gbags.map (·.2)))):=Lib.hid (HR4.out.trans (by rw[show(gbags.length==p.aggs.length)=true from by simp[hbl],Bool.true_and];rfl))
       have q3:((gbags.length:Int) !=(p.aggs.length:Int))=false:=bneF (by omega);have hbl':p.aggs.length≤gbags.length:=by omega
       have hgn:0≤gn∧gn≤1073741824:=by omega
       have HBL:=Lib.hid hbl;clear HR4 hbl
       go_wp2_with (go_at_call 77;refine HT.out.mono ?_;rintro e w2 ⟨rfl,hb2⟩;have z1:=(L1.below hb2).cell 1 _ rfl;have z2:=(L1.below hb2).cell 2 _ rfl;have z12:=(L0.below hb2).cell 12 _ rfl)
       have hbw2:=below_trans hbw hb2;have M0:=L0.below hb2;have M1:=L1.below hb2;clear L0 L1 hbw hb2 HT q1 q2 q3 y0 y1 y2 y12 y14 hn1 hn2
       go_loopw[7,8,58] (fun _ _ i wr=> ∃k:Nat,k≤p.aggs.length∧i= .int .i64 k∧Hid (∀x∈(p.aggs.zip (gbags.map (·.2))).take k,bagB p x.1 gn x.2=true)∧Below w2.heap.size w2 wr) (fun _ _ i _=>p.aggs.length-(intOf i).toNat)
       case atStart=>exact⟨0,by omega,rfl,by simp[Hid],Below.refl _ _⟩
       case round=>
        clear z1 z2 z12;obtain⟨k,hk,rfl,H,hbr⟩:=hrel;have hBw:=below_trans hbw2 hbr;by_cases hlt:k<p.aggs.length
        ·have hx:=List.getElem?_eq_getElem (l:=p.aggs) hlt
         generalize p.aggs[k]=x at hx;obtain⟨b5,o5,hA5,-,hc5⟩:=agg_at HPA.out rfl hx;obtain⟨d1,d2⟩:=hc5 _ hBw;have hlt2:k<gbags.length:=by omega
         have hq:=List.getElem?_eq_getElem (l:=gbags) hlt2;generalize gbags[k]=q at hq;obtain⟨bb,ob,hAb,-,hcb⟩:=cellv_at HG.out.sl rfl hq;have HZ:=Lib.hid (zip_at (m:=gbags.map (·.2)) hx (by rw[List.getElem?_map,hq];rfl));have hBw1:=hBw.alloc hBw.size (.cells #[.int .i64 x.1,.int .i64 x.2] 94);have hbw1:=hbr.alloc hbr.size (.cells #[.int .i64 x.1,.int .i64 x.2] 94);have HBA:=Lib.hid (fun W h=>HBG.out W h x q (List.mem_of_getElem? hx) (List.mem_of_getElem? hq) hgn);obtain⟨fn,col⟩:=x;obtain⟨bv,bl⟩:=q;simp only at d1 d2 hcb HZ HBA hBw1 hbw1;have KX:=Blk.new wr 94 #[.int .i64 fn,.int .i64 col];subst hA5 hAb;have HSS:=Lib.hid (fun w' (h:Below (wr.alloc (.cells #[.int .i64 fn,.int .i64 col] 94)).heap.size (wr.alloc (.cells #[.int .i64 fn,.int .i64 col] 94)) w')=>And.intro (((M0.below hbw1).below h).cell 0 _ rfl) (And.intro (((M0.below hbw1).below h).cell 1 _ rfl) (And.intro (((M0.below hbw1).below h).cell 2 _ rfl) (And.intro (((M0.below hbw1).below h).cell 3 _ rfl) (And.intro (((M0.below hbw1).below h).cell 4 _ rfl) (And.intro (((M0.below hbw1).below h).cell 5 _ rfl) (And.intro (((M0.below hbw1).below h).cell 6 _ rfl) (And.intro (((M0.below hbw1).below h).cell 7 _ rfl) (And.intro (((M0.below hbw1).below h).cell 8 _ rfl) (And.intro (((M0.below hbw1).below h).cell 9 _ rfl) (And.intro (((M0.below hbw1).below h).cell 10 _ rfl) (And.intro (((M0.below hbw1).below h).cell 11 _ rfl) (And.intro (((M0.below hbw1).below h).cell 12 _ rfl) (And.intro (((M0.below hbw1).below h).cell 13 _ rfl) (And.intro (((M0.below hbw1).below h).cell 14 _ rfl) (And.intro (((M1.below hbw1).below h).cell 1 _ rfl) (And.intro (((M1.below hbw1).below h).cell 2 _ rfl) (And.intro ((KX.below h).cell 0 _ rfl) (And.intro ((KX.below h).cell 1 _ rfl) (hcb w' (below_trans hBw1 h)))))))))))))))))))));have HALN:Hid (∀B,bagB p (fn,col) gn bl=B→(B=true→ ∀x∈(p.aggs.zip (gbags.map (·.2))).take (k+1),bagB p x.1 gn x.2=true)∧(B=false→R=false)):=Lib.hid fun B hB=>⟨fun h=>all_step (f:=fun q=>bagB p q.1 gn q.2) H.out HZ.out (by rw[←h];exact hB),fun h=>by rw[HR5.out];exact all_no (f:=fun q=>bagB p q.1 gn q.2) HZ.out (by rw[←h];exact hB)⟩;generalize bagB p (fn,col) gn bl=B at HBA HALN;have HAL:=Lib.hid (HALN.out B rfl);have k1':(k:Int)<(gbags.length:Int):=by omega
         have k0':(0:Int)≤(k:Int):=by omega
         clear H hx hq hcb hc5 HALN HZ KX hlt2
         go_wp2_with fail
         refine tr (S:=(fun w'=>w'.cell? ⟨w.heap.size,0,none⟩=some (.int .i64 p.kind)∧w'.cell? ⟨w.heap.size,1,none⟩=some (.int .i64 p.mode)∧w'.cell? ⟨w.heap.size,2,none⟩=some (.int .i64 p.low)∧w'.cell? ⟨w.heap.size,3,none⟩=some (.int .i64 p.high)∧w'.cell? ⟨w.heap.size,4,none⟩=some (.int .i64 p.size)∧w'.cell? ⟨w.heap.size,5,none⟩=some (.int .i64 p.limit)∧w'.cell? ⟨w.heap.size,6,none⟩=some (p.vl)∧w'.cell? ⟨w.heap.size,7,none⟩=some (p.vr)∧w'.cell? ⟨w.heap.size,8,none⟩=some (p.vk)∧w'.cell? ⟨w.heap.size,9,none⟩=some (p.vq)∧w'.cell? ⟨w.heap.size,10,none⟩=some (.bool p.grouped)∧w'.cell? ⟨w.heap.size,11,none⟩=some (p.vg)∧w'.cell? ⟨w.heap.size,12,none⟩=some (.slice (some ⟨b5,o5,none⟩) p.aggs.length c5)∧w'.cell? ⟨w.heap.size,13,none⟩=some (.slice Aa la ca)∧w'.cell? ⟨w.heap.size,14,none⟩=some (.slice Ao lo co)∧w'.cell? ⟨w.heap.size+1,1,none⟩=some (.int .i64 gn)∧w'.cell? ⟨w.heap.size+1,2,none⟩=some (.slice (some ⟨bb,ob,none⟩) gbags.length cb)∧w'.cell? ⟨wr.heap.size,0,none⟩=some (.int .i64 fn)∧w'.cell? ⟨wr.heap.size,1,none⟩=some (.int .i64 col)∧w'.cell? ⟨bb,ob+k,none⟩=some (bv))) (HSS.out _ (Below.refl _ (wr.alloc (.cells #[.int .i64 fn,.int .i64 col] 94))).drew) (fun hHeld=> ?_);refine tk 0 ?_;refine tk 1 ?_;refine tk 2 ?_;refine tk 3 ?_;refine tk 4 ?_;refine tk 5 ?_;refine tk 6 ?_;refine tk 7 ?_;refine tk 8 ?_;refine tc 9 ?_;intro K hK;go_simp;have HBA1:=HBA.out _ (below_trans hBw1 (Below.refl _ (wr.alloc (.cells #[.int .i64 fn,.int .i64 col] 94))).drew);refine Calls.mono (by with_reducible exact HBA1) ?_;rintro e w2 ⟨rfl,hb2⟩;have hbw2:=below_trans (Below.refl _ (wr.alloc (.cells #[.int .i64 fn,.int .i64 col] 94))).drew hb2;have Z2:=HSS.out _ hbw2
         go_wp2_with fail
         refine hK.out _ _ Z2 (fun hHeld9=> ?_);clear hK K;refine tk 10 ?_;refine td ?_;cases B with
         |false=>
          have EE:Hid (R=false):=Lib.hid (HAL.out.2 rfl);go_wp2;go_ret;exact⟨by rw[EE.out];rfl,below_trans hBw1 hbw2⟩
         |true=>
          have HN:=Lib.hid (HAL.out.1 rfl);go_wp2;go_roundw
          case rel=>exact⟨k+1,by omega,by go_num,HN.out,below_trans hbw1 hbw2⟩
          case measure=>simp[intOf];omega
        ·obtain rfl:k=p.aggs.length:=by omega
         have EE:Hid (R=true):=Lib.hid (by rw[HR5.out];exact all_yes (by
          have hzl:(p.aggs.zip (gbags.map (·.2))).length=p.aggs.length:=by have:=HBL.out;rw[List.length_zip,List.length_map];omega
          rw[hzl];exact H.out))
         go_wp2;go_ret;exact⟨by rw[EE.out];rfl,hBw⟩
      ·have EE:Hid (R=false):=Lib.hid (HR4.out.trans (by rw[show(gbags.length==p.aggs.length)=false from by simp[hbl]];rfl))
       have q3:((gbags.length:Int) !=(p.aggs.length:Int))=true:=bneT (by omega)
       go_wp2_with (go_at_call 77;refine HT.out.mono ?_;rintro e w2 ⟨rfl,hb2⟩;have z1:=(L1.below hb2).cell 1 _ rfl;have z2:=(L1.below hb2).cell 2 _ rfl;have z12:=(L0.below hb2).cell 12 _ rfl)
       go_ret;exact⟨by rw[EE.out];rfl,below_trans hbw hb2⟩
  ·have q2:((gr.length:Int) !=(lo:Int))=true:=bneT (by omega)
   have EE:Hid (R=false):=Lib.hid (HR1.out.trans (by rw[show(gr.length==lo)=false from by simp[hlen]];rfl));go_wp2;go_ret;exact⟨by rw[EE.out];rfl,hbw⟩
 ·have q1:=bneT hke
  have EE:Hid (R=false):=Lib.hid (HR.out.trans (by rw[beqF hke];rfl));clear HR hke;go_wp2;go_ret;exact⟨by rw[EE.out];rfl,hbw⟩
end Go.Proofs.YtjhbeecmdgglgaaGreatDoor
