/-Groups: Check. -/
import Derived.Test.YtjhbeecmdgglgaaGreatDoorGrpV17
import Derived.Test.YtjhbeecmdgglgaaGreatDoorGrpV10
set_option linter.unusedSimpArgs false
set_option linter.unusedVariables false
namespace Go.Proofs.YtjhbeecmdgglgaaGreatDoor
open Go.RowKit
def okGat (p:Pl) (G:List Gp) (k:Nat):Bool:=match G[k]? with
 |none=>true
 |some g=>groupB p g&&(if k=0 then true else match G[k-1]? with
  |none=>true
  |some h=>decide (rowsF h.r g.r<0))
theorem okG_zero {p:Pl}{G:List Gp}{g:Gp}(h:G[0]?=some g):okGat p G 0=groupB p g:=by simp[okGat,h]
theorem okG_succ {p:Pl}{G:List Gp}{k:Nat}{g d:Gp}(h:G[k+1]?=some g)(hd:G[k]?=some d):okGat p G (k+1)=(groupB p g&&decide (rowsF d.r g.r<0)):=by simp[okGat,h,hd]
theorem okG_all (p:Pl)(G:List Gp):(G.all (groupB p)&&risesG G)=allB (okGat p G) (List.range G.length):=by
 unfold allB risesG;rw[Bool.eq_iff_iff,Bool.and_eq_true,List.all_eq_true,List.all_eq_true,List.all_eq_true];constructor
 ·rintro⟨h1,h2⟩ k hk
  have hk:=List.mem_range.1 hk;have e:=List.getElem?_eq_getElem hk;have g1:=h1 _ (List.getElem_mem hk);cases k with
  |zero=>rw[okG_zero e];exact g1
  |succ j=>
   have e2:=List.getElem?_eq_getElem (l:=G) (i:=j) (by omega);rw[okG_succ e e2,g1];have:=h2 j (List.mem_range.2 (by omega));rw[e2,e]at this;simpa using this
 ·intro h
  refine⟨fun g hg=> ?_,fun k hk=> ?_⟩
  ·obtain⟨k,hk,rfl⟩:=List.mem_iff_getElem.1 hg
   have h1:=h k (List.mem_range.2 hk);have e:=List.getElem?_eq_getElem hk;cases k with
   |zero=>rw[okG_zero e]at h1;exact h1
   |succ j=>
    rw[okG_succ e (List.getElem?_eq_getElem (l:=G) (i:=j) (by omega)),Bool.and_eq_true]at h1;exact h1.1
  ·have hk:=List.mem_range.1 hk
   have e:=List.getElem?_eq_getElem hk;rcases Nat.lt_or_ge (k+1) G.length with h2|h2
   ·have e2:=List.getElem?_eq_getElem h2
    have h1:=h (k+1) (List.mem_range.2 h2);rw[okG_succ e2 e,Bool.and_eq_true]at h1;rw[e,e2];exact h1.2
   ·rw[e,List.getElem?_eq_none h2]
set_option maxHeartbeats 16000000 in
set_option maxRecDepth 10000 in
theorem gcheck_any (p:Pl)(v:Value)(G:List Gm)(w:World)(h:p.ok w)(hf:p.fit)(hG:Gms w v G)(hGf: ∀x∈G,x.fit)(hm:Mx w):
 Calls Tryz.prog 75 #[.agg #[.int .i64 p.kind,.int .i64 p.mode,.int .i64 p.low,.int .i64 p.high,.int .i64 p.size,.int .i64 p.limit,p.vl,p.vr,p.vk,p.vq,.bool p.grouped,p.vg,p.va],v] w fun e w'=>e= .returned (.int .i64 (checkG p (gps G)))∧Below w.heap.size w w':=by
 have HGS:=Lib.hid hG;have HCK:=Lib.hid (fun W (hb:Below w.heap.size w W)=>check_any p W (h.below hb) hf);have HLK:=Lib.hid (fun W (hb:Below w.heap.size w W) (hz:checkP p=0)=>looks_any p W (h.below hb) hz);have HBG:=Lib.hid (fun W (hb:Below w.heap.size w W) (hz:checkP p=0) va vo (h1:Sl W va (allT p).length (intCells (allT p))) (h2:Sl W vo (ownT p).length (intCells (ownT p))) (x:Gm) (hx:x∈G)=>gfine_any p va vo x W h1 h2 (h.below hb).a ((hG.each x hx).below hb) (hGf x hx) (hm.below hb) hz);have HRO:=Lib.hid (fun W (hb:Below w.heap.size w W) (x y:Gm) (hx:x∈G) (hy:y∈G)=>rows_any y.v x.v y.r x.r W ((hG.each y hy).row.below hb) ((hG.each x hx).row.below hb));unfold lookCells at HLK HBG;unfold Gm.agg at HBG;obtain⟨A0,c0,h0,-⟩:=h.l;obtain⟨A1,c1,h1,-⟩:=h.r;obtain⟨A2,c2,h2,-⟩:=h.k;obtain⟨A3,c3,h3,-⟩:=h.q;obtain⟨A4,c4,h4,-⟩:=h.g;obtain⟨A5,c5,h5,-⟩:=h.a;obtain⟨R,hR⟩: ∃R:Int,R=checkG p (gps G):=⟨_,rfl⟩;rw[←hR];unfold checkG at hR;rw[okG_all,gps_len]at hR;have HR:=Lib.hid hR;rw[h0,h1,h2,h3,h4,h5]at HCK HLK HBG⊢;clear hR h hf hG hGf hm h0 h1 h2 h3 h4 h5;obtain⟨Av,cv,rfl,nv,mv,-⟩:=id HGS.out.sl;unfold maxLen at mv;have hB:=below_alloc w (.cells #[.int .i64 p.kind,.int .i64 p.mode,.int .i64 p.low,.int .i64 p.high,.int .i64 p.size,.int .i64 p.limit,.slice A0 p.left.length c0,.slice A1 p.right.length c1,.slice A2 p.lkeys.length c2,.slice A3 p.rkeys.length c3,.bool p.grouped,.slice A4 p.group.length c4,.slice A5 p.aggs.length c5] 25);have K0:=Blk.new w 25 #[.int .i64 p.kind,.int .i64 p.mode,.int .i64 p.low,.int .i64 p.high,.int .i64 p.size,.int .i64 p.limit,.slice A0 p.left.length c0,.slice A1 p.right.length c1,.slice A2 p.lkeys.length c2,.slice A3 p.rkeys.length c3,.bool p.grouped,.slice A4 p.group.length c4,.slice A5 p.aggs.length c5];go_enter Tryz.func75,Tryz.ntmps75
 go_wp2_with fail
 refine Calls.mono (by with_reducible exact HCK.out _ hB) ?_;rintro e w1 ⟨rfl,hb1⟩;have hbw1:=below_trans hB hb1;have K1:=K0.below hb1;clear K0 hb1 HCK hB;by_cases hz:checkP p=0
 ·have HZ:=Lib.hid hz
  have q0:=bneF hz;have HR1:=Lib.hid (HR.out.trans (if_neg (fun h=>h hz)));clear hz HR;have y10:=K1.cell 10 _ rfl;cases hgd:p.grouped with
  |false=>
   have EE:Hid (R=1):=Lib.hid (HR1.out.trans (if_pos hgd));rw[hgd]at y10;clear HR1 hgd;go_wp2;go_ret;exact⟨by rw[EE.out];rfl,hbw1⟩
  |true=>
   have HR2:=Lib.hid (HR1.out.trans (if_neg (by rw[hgd];simp)));rw[hgd]at y10 HLK HBG;have HGD:=Lib.hid hgd;clear HR1 hgd;by_cases hlen:4096<G.length
   ·have EE:Hid (R=2):=Lib.hid (HR2.out.trans (if_pos hlen))
    have q1:(4096:Int)<(G.length:Int):=by omega
    clear HR2 hlen;go_wp2;go_ret;exact⟨by rw[EE.out];rfl,hbw1⟩
   ·have HR3:=Lib.hid (HR2.out.trans (if_neg hlen))
    have q1: ¬(4096:Int)<(G.length:Int):=by omega
    have HLEN:=Lib.hid hlen;have k0:=K1.cell 0 _ rfl;have k1:=K1.cell 1 _ rfl;have k2:=K1.cell 2 _ rfl;have k3:=K1.cell 3 _ rfl;have k4:=K1.cell 4 _ rfl;have k5:=K1.cell 5 _ rfl;have k6:=K1.cell 6 _ rfl;have k7:=K1.cell 7 _ rfl;have k8:=K1.cell 8 _ rfl;have k9:=K1.cell 9 _ rfl;have k11:=K1.cell 11 _ rfl;have k12:=K1.cell 12 _ rfl;clear HR2 hlen
    go_wp2_with fail
    refine Calls.mono (by with_reducible exact HLK.out _ hbw1 HZ.out) ?_;rintro e w2 ⟨va,vo,rfl,hsa,hso,hb2⟩;have hbw2:=below_trans hbw1 hb2;have HBB:=Lib.hid (fun W (hb:Below w2.heap.size w2 W) x hx=>HBG.out W (below_trans hbw2 hb) HZ.out va vo (hsa.below hb) (hso.below hb) x hx);obtain⟨Ba,na,ca,rfl⟩: ∃A n c,va= .slice A n c:=by obtain⟨A,c,e,-⟩:=hsa;exact⟨A,_,c,e⟩
    obtain⟨Bo,no,co,rfl⟩: ∃A n c,vo= .slice A n c:=by obtain⟨A,c,e,-⟩:=hso;exact⟨A,_,c,e⟩
    have hB3:=below_trans hbw2 (below_alloc w2 (.cells #[.int .i64 p.kind,.int .i64 p.mode,.int .i64 p.low,.int .i64 p.high,.int .i64 p.size,.int .i64 p.limit,.slice A0 p.left.length c0,.slice A1 p.right.length c1,.slice A2 p.lkeys.length c2,.slice A3 p.rkeys.length c3,.bool true,.slice A4 p.group.length c4,.slice A5 p.aggs.length c5,.slice Ba na ca,.slice Bo no co] 114));have KL:=Blk.new w2 114 #[.int .i64 p.kind,.int .i64 p.mode,.int .i64 p.low,.int .i64 p.high,.int .i64 p.size,.int .i64 p.limit,.slice A0 p.left.length c0,.slice A1 p.right.length c1,.slice A2 p.lkeys.length c2,.slice A3 p.rkeys.length c3,.bool true,.slice A4 p.group.length c4,.slice A5 p.aggs.length c5,.slice Ba na ca,.slice Bo no co];clear k0 k1 k2 k3 k4 k5 k6 k7 k8 k9 k11 k12 HLK HBG hsa hso hb2 hbw1 y10 q0 K1
    go_wp2_with fail
    go_loopw[7,23] (fun _ i wr=> ∃(k:Nat) (I:Int),i= .int .i64 I∧I=(k:Int)∧k≤G.length∧Hid (∀x∈(List.range G.length).take k,okGat p (gps G) x=true)∧Below (w2.alloc (.cells #[.int .i64 p.kind,.int .i64 p.mode,.int .i64 p.low,.int .i64 p.high,.int .i64 p.size,.int .i64 p.limit,.slice A0 p.left.length c0,.slice A1 p.right.length c1,.slice A2 p.lkeys.length c2,.slice A3 p.rkeys.length c3,.bool true,.slice A4 p.group.length c4,.slice A5 p.aggs.length c5,.slice Ba na ca,.slice Bo no co] 114)).heap.size (w2.alloc (.cells #[.int .i64 p.kind,.int .i64 p.mode,.int .i64 p.low,.int .i64 p.high,.int .i64 p.size,.int .i64 p.limit,.slice A0 p.left.length c0,.slice A1 p.right.length c1,.slice A2 p.lkeys.length c2,.slice A3 p.rkeys.length c3,.bool true,.slice A4 p.group.length c4,.slice A5 p.aggs.length c5,.slice Ba na ca,.slice Bo no co] 114)) wr) (fun _ i _=>G.length-(intOf i).toNat)
    case atStart=>exact⟨0,0,rfl,rfl,by omega,by simp[Hid],Below.refl _ _⟩
    case round=>
     obtain⟨k,I,rfl,hI,hk,H,hbr⟩:=hrel;have hBr:=below_trans hB3 hbr;have HI:=Lib.hid hI;have I0:(0:Int)≤I:=by omega
     by_cases hlt:I<(G.length:Int)
     ·have hlt':k<G.length:=by omega
      have hIN:I.toNat=k:=by omega
      have hx:=List.getElem?_eq_getElem (l:=G) hlt';generalize G[k]=x at hx;obtain⟨bb,ob,hAb,-,hcb⟩:=gm_at HGS.out.sl rfl hx;have hxm:=List.mem_of_getElem? hx;have HBA:=Lib.hid (fun W (h:Below wr.heap.size wr W)=>HBB.out W (below_trans (below_trans (below_alloc w2 (.cells #[.int .i64 p.kind,.int .i64 p.mode,.int .i64 p.low,.int .i64 p.high,.int .i64 p.size,.int .i64 p.limit,.slice A0 p.left.length c0,.slice A1 p.right.length c1,.slice A2 p.lkeys.length c2,.slice A3 p.rkeys.length c3,.bool true,.slice A4 p.group.length c4,.slice A5 p.aggs.length c5,.slice Ba na ca,.slice Bo no co] 114)) hbr) h) x hxm);have HSS:=Lib.hid (fun w' (h:Below wr.heap.size wr w')=>And.intro (((KL.below hbr).below h).cell 0 _ rfl) (And.intro (((KL.below hbr).below h).cell 1 _ rfl) (And.intro (((KL.below hbr).below h).cell 2 _ rfl) (And.intro (((KL.below hbr).below h).cell 3 _ rfl) (And.intro (((KL.below hbr).below h).cell 4 _ rfl) (And.intro (((KL.below hbr).below h).cell 5 _ rfl) (And.intro (((KL.below hbr).below h).cell 6 _ rfl) (And.intro (((KL.below hbr).below h).cell 7 _ rfl) (And.intro (((KL.below hbr).below h).cell 8 _ rfl) (And.intro (((KL.below hbr).below h).cell 9 _ rfl) (And.intro (((KL.below hbr).below h).cell 10 _ rfl) (And.intro (((KL.below hbr).below h).cell 11 _ rfl) (And.intro (((KL.below hbr).below h).cell 12 _ rfl) (And.intro (((KL.below hbr).below h).cell 13 _ rfl) (And.intro (((KL.below hbr).below h).cell 14 _ rfl) (And.intro ((hcb w' (below_trans hBr h)).1) (And.intro ((hcb w' (below_trans hBr h)).2.1) ((hcb w' (below_trans hBr h)).2.2))))))))))))))))));subst hAb;have HGK:=Lib.hid (gps_at hx);have HST:=Lib.hid (fun(h:okGat p (gps G) k=true)=>all_step (f:=okGat p (gps G)) H.out (range_at (n:=G.length) hlt') h);have HNO:=Lib.hid (fun(h:okGat p (gps G) k=false)=>HR3.out.trans (if_neg (by rw[all_no (f:=okGat p (gps G)) (range_at (n:=G.length) hlt') h];simp)));have HOK0:Hid (k=0→okGat p (gps G) k=groupB p x.gp):=Lib.hid (fun h=>by subst h;exact okG_zero HGK.out);have HNB:Hid (groupB p x.gp=false→okGat p (gps G) k=false):=Lib.hid (fun h=>by unfold okGat;rw[HGK.out];show(groupB p x.gp&&_)=false;rw[h];rfl);have HOKS:Hid (∀q y,k=q+1→G[q]?=some y→okGat p (gps G) k=(groupB p x.gp&&decide (rowsF y.r x.r<0))):=Lib.hid (fun q y h hy=>by subst h;exact okG_succ HGK.out (gps_at hy));have hIw:IntKind.i64.wrap (I-1)=I-1:=by rw[IntKind.wrap_i64];omega
      generalize groupB p x.gp=BG at HBA HOK0 HOKS HNB;clear H hx HGK hI hlt';cases BG with
      |false=>
       have EE:Hid (R=1):=Lib.hid (HNO.out (HNB.out rfl))
       go_wp2_with fail
       refine tr (S:=(fun w'=>w'.cell? ⟨w2.heap.size,0,none⟩=some (.int .i64 p.kind)∧w'.cell? ⟨w2.heap.size,1,none⟩=some (.int .i64 p.mode)∧w'.cell? ⟨w2.heap.size,2,none⟩=some (.int .i64 p.low)∧w'.cell? ⟨w2.heap.size,3,none⟩=some (.int .i64 p.high)∧w'.cell? ⟨w2.heap.size,4,none⟩=some (.int .i64 p.size)∧w'.cell? ⟨w2.heap.size,5,none⟩=some (.int .i64 p.limit)∧w'.cell? ⟨w2.heap.size,6,none⟩=some (.slice A0 p.left.length c0)∧w'.cell? ⟨w2.heap.size,7,none⟩=some (.slice A1 p.right.length c1)∧w'.cell? ⟨w2.heap.size,8,none⟩=some (.slice A2 p.lkeys.length c2)∧w'.cell? ⟨w2.heap.size,9,none⟩=some (.slice A3 p.rkeys.length c3)∧w'.cell? ⟨w2.heap.size,10,none⟩=some (.bool true)∧w'.cell? ⟨w2.heap.size,11,none⟩=some (.slice A4 p.group.length c4)∧w'.cell? ⟨w2.heap.size,12,none⟩=some (.slice A5 p.aggs.length c5)∧w'.cell? ⟨w2.heap.size,13,none⟩=some (.slice Ba na ca)∧w'.cell? ⟨w2.heap.size,14,none⟩=some (.slice Bo no co)∧w'.cell? ⟨bb,ob+k*3,none⟩=some (x.v)∧w'.cell? ⟨bb,ob+k*3+1,none⟩=some (.int .i64 x.n)∧w'.cell? ⟨bb,ob+k*3+2,none⟩=some (x.vb))) (HSS.out _ (Below.refl _ wr).drew) (fun hHeld=> ?_);refine tk 0 ?_;refine tk 1 ?_;refine tk 2 ?_;refine tk 3 ?_;refine tk 4 ?_;refine tc 5 ?_;intro K hK;go_simp;refine Calls.mono (by with_reducible exact HBA.out _ (Below.refl _ wr).drew) ?_;rintro e w4 ⟨rfl,hb4⟩;have hbw4:=below_trans (Below.refl _ wr).drew hb4;have Z4:=HSS.out _ hbw4
       go_wp2_with fail
       refine hK.out _ _ Z4 (fun hHeld5=> ?_);clear hK K;refine tk 6 ?_;refine tk 7 ?_;refine tn 8 ?_;refine tn 9 ?_;refine tn 10 ?_;refine tn 11 ?_;refine tn 12 ?_;refine tn 13 ?_;refine tn 14 ?_;refine tn 15 ?_;refine tn 16 ?_;refine tn 17 ?_;refine tn 18 ?_;refine tn 19 ?_;refine tn 20 ?_;refine tn 21 ?_;refine tn 22 ?_;refine tn 23 ?_;refine tn 24 ?_;refine tk 25 ?_;refine td ?_;go_wp2;go_ret;exact⟨by rw[EE.out];rfl,below_trans hBr hbw4⟩
      |true=>
       rcases Nat.eq_zero_or_pos k with hk0|hk0
       ·have hI0:decide ((0:Int)<I)=false:=decide_eq_false (by have:=HI.out;omega)
        have HN:=Lib.hid (HST.out (HOK0.out hk0));clear HOK0 HOKS HNO HST HNB hk0
        go_wp2_with fail
        refine tr (S:=(fun w'=>w'.cell? ⟨w2.heap.size,0,none⟩=some (.int .i64 p.kind)∧w'.cell? ⟨w2.heap.size,1,none⟩=some (.int .i64 p.mode)∧w'.cell? ⟨w2.heap.size,2,none⟩=some (.int .i64 p.low)∧w'.cell? ⟨w2.heap.size,3,none⟩=some (.int .i64 p.high)∧w'.cell? ⟨w2.heap.size,4,none⟩=some (.int .i64 p.size)∧w'.cell? ⟨w2.heap.size,5,none⟩=some (.int .i64 p.limit)∧w'.cell? ⟨w2.heap.size,6,none⟩=some (.slice A0 p.left.length c0)∧w'.cell? ⟨w2.heap.size,7,none⟩=some (.slice A1 p.right.length c1)∧w'.cell? ⟨w2.heap.size,8,none⟩=some (.slice A2 p.lkeys.length c2)∧w'.cell? ⟨w2.heap.size,9,none⟩=some (.slice A3 p.rkeys.length c3)∧w'.cell? ⟨w2.heap.size,10,none⟩=some (.bool true)∧w'.cell? ⟨w2.heap.size,11,none⟩=some (.slice A4 p.group.length c4)∧w'.cell? ⟨w2.heap.size,12,none⟩=some (.slice A5 p.aggs.length c5)∧w'.cell? ⟨w2.heap.size,13,none⟩=some (.slice Ba na ca)∧w'.cell? ⟨w2.heap.size,14,none⟩=some (.slice Bo no co)∧w'.cell? ⟨bb,ob+k*3,none⟩=some (x.v)∧w'.cell? ⟨bb,ob+k*3+1,none⟩=some (.int .i64 x.n)∧w'.cell? ⟨bb,ob+k*3+2,none⟩=some (x.vb))) (HSS.out _ (Below.refl _ wr).drew) (fun hHeld=> ?_);refine tk 0 ?_;refine tk 1 ?_;refine tk 2 ?_;refine tk 3 ?_;refine tk 4 ?_;refine tc 5 ?_;intro K hK;go_simp;refine Calls.mono (by with_reducible exact HBA.out _ (Below.refl _ wr).drew) ?_;rintro e w4 ⟨rfl,hb4⟩;have hbw4:=below_trans (Below.refl _ wr).drew hb4;have Z4:=HSS.out _ hbw4
        go_wp2_with fail
        refine hK.out _ _ Z4 (fun hHeld5=> ?_);clear hK K;refine tk 6 ?_;refine tk 7 ?_;refine tk 8 ?_;refine tk 9 ?_;refine tk 10 ?_;refine tn 11 ?_;refine tn 12 ?_;refine tn 13 ?_;refine tn 14 ?_;refine tn 15 ?_;refine tn 16 ?_;refine tn 17 ?_;refine tn 18 ?_;refine tn 19 ?_;refine tn 20 ?_;refine tn 21 ?_;refine tn 22 ?_;refine tn 23 ?_;refine tk 24 ?_;refine tk 25 ?_;refine td ?_;go_wp2;go_roundw
        case rel=>exact⟨k+1,I+1,by go_num,by have:=HI.out;omega,by omega,HN.out,below_trans hbr hbw4⟩
        case measure=>have:=HI.out;simp[intOf];omega
       ·obtain⟨q,hq⟩: ∃q,k=q+1:=⟨k-1,by omega⟩
        have hI0:decide ((0:Int)<I)=true:=decide_eq_true (by have:=HI.out;omega);have hI1:(0:Int)≤I-1:=by have:=HI.out;omega
        have hI1':(1:Int)≤I:=by have:=HI.out;omega
        have hI2:I-1<(G.length:Int):=by omega
        have hI3:(I-1).toNat=q:=by have:=HI.out;omega
        have hyl:q<G.length:=by omega
        have hy:=List.getElem?_eq_getElem (l:=G) hyl;generalize G[q]=y at hy;obtain⟨b2,o2,hA2,-,hcy⟩:=gm_at HGS.out.sl rfl hy;injection hA2 with hA2;injection hA2 with e1 e2;subst e1 e2;have HYS:=Lib.hid (fun w' (h:Below wr.heap.size wr w')=>let z:=HSS.out w' h;let u:=hcy w' (below_trans hBr h);And.intro (z.1) (And.intro (z.2.1) (And.intro (z.2.2.1) (And.intro (z.2.2.2.1) (And.intro (z.2.2.2.2.1) (And.intro (z.2.2.2.2.2.1) (And.intro (z.2.2.2.2.2.2.1) (And.intro (z.2.2.2.2.2.2.2.1) (And.intro (z.2.2.2.2.2.2.2.2.1) (And.intro (z.2.2.2.2.2.2.2.2.2.1) (And.intro (z.2.2.2.2.2.2.2.2.2.2.1) (And.intro (z.2.2.2.2.2.2.2.2.2.2.2.1) (And.intro (z.2.2.2.2.2.2.2.2.2.2.2.2.1) (And.intro (z.2.2.2.2.2.2.2.2.2.2.2.2.2.1) (And.intro (z.2.2.2.2.2.2.2.2.2.2.2.2.2.2.1) (And.intro (z.2.2.2.2.2.2.2.2.2.2.2.2.2.2.2.1) (And.intro (z.2.2.2.2.2.2.2.2.2.2.2.2.2.2.2.2.1) (And.intro (z.2.2.2.2.2.2.2.2.2.2.2.2.2.2.2.2.2) (u.1)))))))))))))))))));have HRW:=Lib.hid (fun W (h:Below wr.heap.size wr W)=>HRO.out W (below_trans hBr h) x y hxm (List.mem_of_getElem? hy));have HOK2:=Lib.hid (HOKS.out q y hq hy);generalize rowsF y.r x.r=RF at HRW HOK2;clear HOK0 HOKS HNB hk0 hyl hy hcy HSS hq;by_cases hrf:RF<0
        ·have HN:=Lib.hid (HST.out (HOK2.out.trans (by rw[decide_eq_true hrf];rfl)))
         have q6:decide (0≤RF)=false:=decide_eq_false (by omega);clear HOK2 HST HNO hrf
         go_wp2_with fail
         refine tr (S:=(fun w'=>w'.cell? ⟨w2.heap.size,0,none⟩=some (.int .i64 p.kind)∧w'.cell? ⟨w2.heap.size,1,none⟩=some (.int .i64 p.mode)∧w'.cell? ⟨w2.heap.size,2,none⟩=some (.int .i64 p.low)∧w'.cell? ⟨w2.heap.size,3,none⟩=some (.int .i64 p.high)∧w'.cell? ⟨w2.heap.size,4,none⟩=some (.int .i64 p.size)∧w'.cell? ⟨w2.heap.size,5,none⟩=some (.int .i64 p.limit)∧w'.cell? ⟨w2.heap.size,6,none⟩=some (.slice A0 p.left.length c0)∧w'.cell? ⟨w2.heap.size,7,none⟩=some (.slice A1 p.right.length c1)∧w'.cell? ⟨w2.heap.size,8,none⟩=some (.slice A2 p.lkeys.length c2)∧w'.cell? ⟨w2.heap.size,9,none⟩=some (.slice A3 p.rkeys.length c3)∧w'.cell? ⟨w2.heap.size,10,none⟩=some (.bool true)∧w'.cell? ⟨w2.heap.size,11,none⟩=some (.slice A4 p.group.length c4)∧w'.cell? ⟨w2.heap.size,12,none⟩=some (.slice A5 p.aggs.length c5)∧w'.cell? ⟨w2.heap.size,13,none⟩=some (.slice Ba na ca)∧w'.cell? ⟨w2.heap.size,14,none⟩=some (.slice Bo no co)∧w'.cell? ⟨bb,ob+k*3,none⟩=some (x.v)∧w'.cell? ⟨bb,ob+k*3+1,none⟩=some (.int .i64 x.n)∧w'.cell? ⟨bb,ob+k*3+2,none⟩=some (x.vb)∧w'.cell? ⟨bb,ob+q*3,none⟩=some y.v)) (HYS.out _ (Below.refl _ wr).drew) (fun hHeld=> ?_);refine tk 0 ?_;refine tk 1 ?_;refine tk 2 ?_;refine tk 3 ?_;refine tk 4 ?_;refine tc 5 ?_;intro K hK;go_simp;refine Calls.mono (by with_reducible exact HBA.out _ (Below.refl _ wr).drew) ?_;rintro e w4 ⟨rfl,hb4⟩;have hbw4:=below_trans (Below.refl _ wr).drew hb4;have Z4:=HYS.out _ hbw4
         go_wp2_with fail
         refine hK.out _ _ Z4 (fun hHeld5=> ?_);clear hK K;refine tk 6 ?_;refine tk 7 ?_;refine tk 8 ?_;refine tk 9 ?_;refine tk 10 ?_;refine tk 11 ?_;refine tk 12 ?_;refine tk 13 ?_;refine tk 14 ?_;refine tk 15 ?_;refine tk 16 ?_;refine tk 17 ?_;refine tk 18 ?_;refine tk 19 ?_;refine tk 20 ?_;refine tk 21 ?_;refine tc 22 ?_;intro K hK;go_simp;refine Calls.mono (by with_reducible exact HRW.out _ hbw4) ?_;rintro e w5 ⟨rfl,hb5⟩;have hbw5:=below_trans hbw4 hb5;have Z5:=HYS.out _ hbw5
         go_wp2_with fail
         refine hK.out _ _ Z5 (fun hHeld22=> ?_);clear hK K;refine tk 23 ?_;refine tk 24 ?_;refine tk 25 ?_;refine td ?_;go_wp2;go_roundw
         case rel=>exact⟨k+1,I+1,by go_num,by have:=HI.out;omega,by omega,HN.out,below_trans hbr hbw5⟩
         case measure=>have:=HI.out;simp[intOf];omega
        ·have EE:Hid (R=1):=Lib.hid (HNO.out (HOK2.out.trans (by rw[decide_eq_false hrf];rfl)))
         have q6:decide (0≤RF)=true:=decide_eq_true (by omega);clear HOK2 HST HNO hrf
         go_wp2_with fail
         refine tr (S:=(fun w'=>w'.cell? ⟨w2.heap.size,0,none⟩=some (.int .i64 p.kind)∧w'.cell? ⟨w2.heap.size,1,none⟩=some (.int .i64 p.mode)∧w'.cell? ⟨w2.heap.size,2,none⟩=some (.int .i64 p.low)∧w'.cell? ⟨w2.heap.size,3,none⟩=some (.int .i64 p.high)∧w'.cell? ⟨w2.heap.size,4,none⟩=some (.int .i64 p.size)∧w'.cell? ⟨w2.heap.size,5,none⟩=some (.int .i64 p.limit)∧w'.cell? ⟨w2.heap.size,6,none⟩=some (.slice A0 p.left.length c0)∧w'.cell? ⟨w2.heap.size,7,none⟩=some (.slice A1 p.right.length c1)∧w'.cell? ⟨w2.heap.size,8,none⟩=some (.slice A2 p.lkeys.length c2)∧w'.cell? ⟨w2.heap.size,9,none⟩=some (.slice A3 p.rkeys.length c3)∧w'.cell? ⟨w2.heap.size,10,none⟩=some (.bool true)∧w'.cell? ⟨w2.heap.size,11,none⟩=some (.slice A4 p.group.length c4)∧w'.cell? ⟨w2.heap.size,12,none⟩=some (.slice A5 p.aggs.length c5)∧w'.cell? ⟨w2.heap.size,13,none⟩=some (.slice Ba na ca)∧w'.cell? ⟨w2.heap.size,14,none⟩=some (.slice Bo no co)∧w'.cell? ⟨bb,ob+k*3,none⟩=some (x.v)∧w'.cell? ⟨bb,ob+k*3+1,none⟩=some (.int .i64 x.n)∧w'.cell? ⟨bb,ob+k*3+2,none⟩=some (x.vb)∧w'.cell? ⟨bb,ob+q*3,none⟩=some y.v)) (HYS.out _ (Below.refl _ wr).drew) (fun hHeld=> ?_);refine tk 0 ?_;refine tk 1 ?_;refine tk 2 ?_;refine tk 3 ?_;refine tk 4 ?_;refine tc 5 ?_;intro K hK;go_simp;refine Calls.mono (by with_reducible exact HBA.out _ (Below.refl _ wr).drew) ?_;rintro e w4 ⟨rfl,hb4⟩;have hbw4:=below_trans (Below.refl _ wr).drew hb4;have Z4:=HYS.out _ hbw4
         go_wp2_with fail
         refine hK.out _ _ Z4 (fun hHeld5=> ?_);clear hK K;refine tk 6 ?_;refine tk 7 ?_;refine tk 8 ?_;refine tk 9 ?_;refine tk 10 ?_;refine tk 11 ?_;refine tk 12 ?_;refine tk 13 ?_;refine tk 14 ?_;refine tk 15 ?_;refine tk 16 ?_;refine tk 17 ?_;refine tk 18 ?_;refine tk 19 ?_;refine tk 20 ?_;refine tk 21 ?_;refine tc 22 ?_;intro K hK;go_simp;refine Calls.mono (by with_reducible exact HRW.out _ hbw4) ?_;rintro e w5 ⟨rfl,hb5⟩;have hbw5:=below_trans hbw4 hb5;have Z5:=HYS.out _ hbw5
         go_wp2_with fail
         refine hK.out _ _ Z5 (fun hHeld22=> ?_);clear hK K;refine tk 23 ?_;refine tk 24 ?_;refine tk 25 ?_;refine td ?_;go_wp2;go_ret;exact⟨by rw[EE.out];rfl,below_trans hBr hbw5⟩
     ·obtain rfl:k=G.length:=by omega
      have EE:Hid (R=0):=Lib.hid (HR3.out.trans (if_pos (all_yes (by rw[List.length_range];exact H.out))));go_wp2;go_ret;exact⟨by rw[EE.out];rfl,hBr⟩
 ·have q0:=bneT hz
  have EE:Hid (R=checkP p):=Lib.hid (HR.out.trans (if_pos hz));clear hz HR;go_wp2;go_ret;exact⟨by rw[EE.out];rfl,hbw1⟩
end Go.Proofs.YtjhbeecmdgglgaaGreatDoor
