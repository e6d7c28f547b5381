/-Groups: the reference's tally. (Printed by gengrp28.py.) -/
import Derived.Test.YtblhidmkalleoaaGreatDoorGrpT20
import Derived.Test.YtblhidmkalleoaaGreatDoorGrpT10
set_option linter.unusedSimpArgs false
set_option linter.unusedVariables false
namespace Go.Proofs.YtblhidmkalleoaaGreatDoor
open Go.RowKit
theorem own_shiftT {w:World}{base g m cap i c1 c2:Nat}{xs:List Value}(h:w.ownsRow base 135 4 (.slice (some ⟨g,0,none⟩) (m+1) cap) (m+1) xs)(hi:i<m)(h1: ∀v∈xs,v.oneCell'=true):
 ∃w',(∀ty,(Builtin.copy_ #[107,107] ty #[.slice (some ⟨g,(i+1)*4,none⟩) (m-i) c1,.slice (some ⟨g,i*4,none⟩) (m+1-i) c2]).run Tryz.prog w= .ok (goInt (m-i:Nat)) w')∧
  w'.ownsRow base 135 4 (.slice (some ⟨g,0,none⟩) (m+1) cap) (m+1) (xs.take ((i+1)*4)++(xs.drop (i*4)).take ((m-i)*4))∧w.grownBy w' (some g):=by
 have hx:=h.1;rcases h.2 with⟨h',-⟩|⟨g',cap',cur,h',hb,hg,hn,hc,hsz,ht⟩
 ·cases h'
 ·injection h' with e1 e2 e3
  injection e1 with e1;injection e1 with e1;subst e1 e3;have hlen:((xs.drop (i*4)).take ((m-i)*4)).length=(m-i)*4:=by rw[List.length_take,List.length_drop,hx];omega
  have hmin:Nat.min (m+1-i) (m-i)=m-i:=by show min _ _=_;omega
  have hcur:(m+1)*4≤cur.size:=by rw[hsz];exact Nat.mul_le_mul_right _ hn
  have hrun:=fun ty=>run_copy_wide (P:=Tryz.prog) w 107 107 ty 135 g ((i+1)*4) (m-i) c1 ⟨g,i*4,none⟩ (m+1-i) c2 4 cur 135 ((xs.drop (i*4)).take ((m-i)*4)) Tryz.underlying107 tlSize hg
   (by rw[hlen,hmin]) (fun j v hj=>by
    rw[List.getElem?_take]at hj;split at hj
    ·rw[List.getElem?_drop]at hj
     have:=h.cellAt (i*4+j) (by have:=(List.getElem?_eq_some_iff.1 hj).1;omega);rw[hj]at this;unfold Addr.add;split
     ·rename_i h0;subst h0;simpa using this
     ·exact this
    ·cases hj) (by rw[hlen];omega) (fun v hv=>h1 v (List.mem_of_mem_drop (List.mem_of_mem_take hv)))
  simp only[hmin]at hrun;refine⟨_,hrun,⟨?_,.inr ⟨g,cap,_,rfl,hb,setRow_heap w g cur _ 135 _ hg,hn,hc,?_,?_⟩⟩,⟨rfl,rfl,rfl,by simp[World.setRow],fun k hk hne=>setRow_other w g k _ (fun e=>hne (by rw[e]))⟩⟩
  ·rw[List.length_append,hlen,List.length_take,hx];omega
  ·simp only[List.size_toArray,List.length_append,List.length_take,List.length_drop,Array.length_toList,hlen];omega
  ·have e1:cur.toList.take ((i+1)*4)=xs.take ((i+1)*4):=by rw[←ht,List.take_take,Nat.min_eq_left (by omega)]
   rw[e1];have e4:(xs.take ((i+1)*4)++(xs.drop (i*4)).take ((m-i)*4)).length=(m+1)*4:=by rw[List.length_append,hlen,List.length_take,hx];omega
   exact List.take_left' e4
theorem tl_lay (a b:List Tl)(x c:Tl):((((tlCells (a++x::b)).set (a.length*4) (.int .i64 c.v.k)).set (a.length*4+1) (.int .i64 c.v.n)).set (a.length*4+2) (.string c.v.s)).set (a.length*4+3) (.int .i64 c.n)=tlCells (a++c::b):=by
 induction a with
 |nil=>simp[tlCells,Tl.cells]
 |cons y a ih=>
  have e1:(y::a).length*4=a.length*4+1+1+1+1:=by simp;omega
  rw[e1];unfold tlCells at ih⊢;simp only[List.cons_append,List.flatMap_cons];rw[←ih];simp[Tl.cells]
theorem tl_split {l:List Tl}{i:Nat}(hi:i<l.length)(z:Tl):(l++[z]).take (i+1)=l.take i++[l[i]]∧((l++[z]).drop i).take (l.length-i)=l.drop i:=by
 constructor
 ·rw[List.take_append_of_le_length (by omega),List.take_add_one,List.getElem?_eq_getElem hi];rfl
 ·rw[List.drop_append_of_le_length (by omega),List.take_append_of_le_length (by rw[List.length_drop];omega),List.take_of_length_le (by rw[List.length_drop];omega)]
theorem run_eql_val (x y:Val)(W:World):(binOp .eql 112 (.agg #[.int .i64 x.k,.int .i64 x.n,.string x.s]) (.agg #[.int .i64 y.k,.int .i64 y.n,.string y.s])).run Tryz.prog W= .ok (.bool (veq x y)) W:=by
 rw[run_eql_struct,run_eq_val];rfl
theorem pos_of {l:List Tl}{v:Val}{i:Nat}(hU:UpT l)(hv:GoodR [v])(hi:i≤l.length)(hlow: ∀j y,j<i→l[j]?=some y→cmpV y.v v<0)(hat: ∀y,l[i]?=some y→0≤cmpV y.v v):PosT l v i:=
 ⟨hi,hlow,fun j y hj hy=>by
  rcases Int.lt_or_le (cmpV y.v v) 0 with h|h
  ·exfalso
   have hil:i<l.length:=Nat.lt_of_le_of_lt hj (List.getElem?_eq_some_iff.1 hy).1;have hx:=List.getElem?_eq_getElem hil;have h1:=up_lessT hU hv hx hy hj h;have h2:=hat _ hx;omega
  ·exact h⟩
set_option maxHeartbeats 16000000 in
set_option maxRecDepth 10000 in
theorem rtally_any (u:Value)(l:List Tl)(v:Val)(n:Int)(base:Nat)(w:World)(h:OwnT w base u l)(hbase:base≤w.heap.size)(hl:l.length≤1073741824)(hU:UpT l)(hv:GoodR [v])(hN: ∀x∈l,-1099511627776≤x.n∧x.n≤1099511627776)(hn:n=1∨n= -1):
 Calls Tryz.prog 148 #[u,.agg #[.int .i64 v.k,.int .i64 v.n,.string v.s],.int .i64 n] w fun e w'=> ∃u',e= .returned (.tuple #[u',.bool (tallyG l v n).2])∧(∃l',OwnT w' base u' l'∧((tallyG l v n).2=true→l'=(tallyG l v n).1))∧w.grownBy w' u.ownBlock∧(∀k,u'.ownBlock=some k→u.ownBlock=some k∨w.heap.size≤k):=by
 have HO:=Lib.hid h;have HUP:=Lib.hid hU;have HGV:=Lib.hid hv;have HNN:=Lib.hid hN;have HTP:=Lib.hid (fun i (hp:PosT l v i)=>tally_pos (n:=n) hp);obtain⟨TG,hTG⟩: ∃y,tallyG l v n=y:=⟨_,rfl⟩;rw[hTG];simp only[hTG]at HTP;have hB:=below_alloc w (.cells #[.int .i64 v.k,.int .i64 v.n,.string v.s] 112);have HK0:=Lib.hid (Blk.new w 112 #[.int .i64 v.k,.int .i64 v.n,.string v.s]);obtain⟨A0,c0,e0,hc1,hc2,-⟩:=Sl.of_own h.own;subst e0;unfold maxLen at hc2;clear h hU hv hN hTG;go_enter Tryz.func148,Tryz.ntmps148
 go_wp2_with fail
 go_loopw[8] (fun iv wr=> ∃i:Nat,i≤l.length∧iv= .int .i64 i∧Hid (∀j y,j<i→l[j]?=some y→cmpV y.v v<0)∧Below (w.alloc (.cells #[.int .i64 v.k,.int .i64 v.n,.string v.s] 112)).heap.size (w.alloc (.cells #[.int .i64 v.k,.int .i64 v.n,.string v.s] 112)) wr) (fun iv _=>l.length-(intOf iv).toNat)
 case atStart=>exact⟨0,by omega,rfl,Lib.hid (fun j y h=>absurd h (by omega)),Below.refl _ _⟩
 case round=>
  rename World=>w1
  obtain⟨i,hil,rfl,HLOW,hb1⟩:=hrel;have hBw:=below_trans hB hb1;have HO1:=Lib.hid (HO.out.below hBw);have HK1:=Lib.hid (HK0.out.below hb1);have hg1:=grown_of_below hBw (Value.slice A0 l.length c0).ownBlock;have i0:(0:Int)≤(i:Int):=by omega
  have hy0:Below w1.heap.size w1 w1.drew:=(Below.refl _ w1).drew;by_cases hlt:i<l.length
  ·have i1:(i:Int)<(l.length:Int):=by omega
   have i1b:decide ((i:Int)<(l.length:Int))=true:=decide_eq_true i1;have hx:=List.getElem?_eq_getElem (l:=l) hlt;generalize l[i]=y at hx;obtain⟨bb,ob,hA0,-,hcb⟩:=tl_at (Sl.of_own HO1.out.own) rfl hx;obtain⟨g',cap',hform,hgb,hgl⟩:=HO1.out.own.form (by omega);injection hform with e1 e2 e3;rw[hA0]at e1;injection e1 with e1;injection e1 with e1 e4;subst e1 e4 hA0 e3;simp only[Nat.zero_add]at hcb;have HX:=Lib.hid hx;have HYG:=Lib.hid (HUP.out.good y (List.mem_of_getElem? hx));have HYN:=Lib.hid (HNN.out y (List.mem_of_getElem? hx));have HCB:=Lib.hid hcb;have HCMP:=Lib.hid (fun W=>rcompare_val y.v v W);have HEQL:=Lib.hid (fun W=>run_eql_val y.v v W);have HVQ:=Lib.hid (veq_iff y.v v);have HCZ:=Lib.hid (cmpV_zero HYG.out HGV.out);obtain⟨⟨yk,yn,ys⟩,yc⟩:=y;simp only at HCB HCMP HEQL HYN;obtain⟨CP,hCP⟩: ∃y,cmpV ⟨yk,yn,ys⟩ v=y:=⟨_,rfl⟩;have HCPE:=Lib.hid hCP;rw[hCP]at HCMP;have HSS:=Lib.hid (fun w' (h:Below w1.heap.size w1 w')=>And.intro ((HK1.out.below h).cell 0 _ rfl) (And.intro ((HK1.out.below h).cell 1 _ rfl) (And.intro ((HK1.out.below h).cell 2 _ rfl) (And.intro ((HCB.out w' h).1) (And.intro ((HCB.out w' h).2.1) ((HCB.out w' h).2.2.1))))));clear hx hcb hCP
   go_upto_region 2 with fail
   by_cases hcp:CP<0
   ·have q1:decide (CP<0)=true:=decide_eq_true hcp
    have HLN:Hid (∀j y,j<i+1→l[j]?=some y→cmpV y.v v<0):=Lib.hid (fun j y hj hy=>by
     rcases Nat.lt_or_ge j i with h|h
     ·exact HLOW.out j y h hy
     ·have:j=i:=by omega
      subst this;rw[HX.out]at hy;injection hy with hy;rw[←hy,HCPE.out];exact hcp)
    clear hcp;refine tr (S:=(fun w'=>w'.cell? ⟨w.heap.size,0,none⟩=some (.int .i64 v.k)∧w'.cell? ⟨w.heap.size,1,none⟩=some (.int .i64 v.n)∧w'.cell? ⟨w.heap.size,2,none⟩=some (.string v.s)∧w'.cell? ⟨bb,i*4,none⟩=some (.int .i64 yk)∧w'.cell? ⟨bb,i*4+1,none⟩=some (.int .i64 yn)∧w'.cell? ⟨bb,i*4+2,none⟩=some (.string ys))) (HSS.out _ hy0) (fun hHeld=> ?_);refine tk 0 ?_;refine tk 1 ?_;refine tk 2 ?_;refine tk 3 ?_;refine tk 4 ?_;refine tk 5 ?_;refine tk 6 ?_;refine tk 7 ?_;refine tk 8 ?_;refine tk 9 ?_;refine tk 10 ?_;refine tc 11 ?_;intro K hK;go_simp;refine(HCMP.out _).mono ?_;rintro e w2 ⟨rfl,hb2⟩;have hyw2:=below_trans hy0 hb2;clear hb2
    go_wp2_with fail
    refine hK.out _ _ (HSS.out _ hyw2) (fun hHeld11=> ?_);clear hK K;refine tk 12 ?_;refine tk 13 ?_;refine td ?_;have hbn:=below_trans hb1 hyw2;clear HSS;go_wp2;go_roundw
    case rel=>exact⟨i+1,by omega,by go_num,HLN,hbn⟩
    case measure=>simp[intOf];omega
   ·have q1:decide (CP<0)=false:=decide_eq_false hcp
    have HPOS:=Lib.hid (pos_of HUP.out HGV.out hil HLOW.out (fun z hz=>by rw[HX.out]at hz;injection hz with hz;rw[←hz,HCPE.out];omega))
    have HIS:Hid (isT l v i=decide (CP=0)):=Lib.hid (by
     unfold isT;rw[HX.out,←HCPE.out];rfl)
    have HTT:=Lib.hid (HTP.out i HPOS.out);have HGD:Hid (l.getD i ⟨v,0⟩=⟨⟨yk,yn,ys⟩,yc⟩):=Lib.hid (by simp[List.getD,HX.out]);rw[HGD.out,HIS.out]at HTT;clear hcp;refine tr (S:=(fun w'=>w'.cell? ⟨w.heap.size,0,none⟩=some (.int .i64 v.k)∧w'.cell? ⟨w.heap.size,1,none⟩=some (.int .i64 v.n)∧w'.cell? ⟨w.heap.size,2,none⟩=some (.string v.s)∧w'.cell? ⟨bb,i*4,none⟩=some (.int .i64 yk)∧w'.cell? ⟨bb,i*4+1,none⟩=some (.int .i64 yn)∧w'.cell? ⟨bb,i*4+2,none⟩=some (.string ys))) (HSS.out _ hy0) (fun hHeld=> ?_);refine tk 0 ?_;refine tk 1 ?_;refine tk 2 ?_;refine tk 3 ?_;refine tk 4 ?_;refine tk 5 ?_;refine tk 6 ?_;refine tk 7 ?_;refine tk 8 ?_;refine tk 9 ?_;refine tk 10 ?_;refine tc 11 ?_;intro K hK;go_simp;refine(HCMP.out _).mono ?_;rintro e w2 ⟨rfl,hb2⟩;have hyw2:=below_trans hy0 hb2;clear hb2
    go_wp2_with fail
    refine hK.out _ _ (HSS.out _ hyw2) (fun hHeld11=> ?_);clear hK K;refine tk 12 ?_;refine tk 13 ?_;refine td ?_;have HO2:=Lib.hid (HO1.out.below hyw2);have HK2:=Lib.hid (HK1.out.below hyw2);have hbw2:=below_trans hBw hyw2;have hg2:=grown_of_below hbw2 (Value.slice (some ⟨bb,0,none⟩) l.length c0).ownBlock;have HSX:=Lib.hid (fun w' (h:Below w2.heap.size w2 w')=>And.intro ((HK2.out.below h).cell 0 _ rfl) (And.intro ((HK2.out.below h).cell 1 _ rfl) (And.intro ((HK2.out.below h).cell 2 _ rfl) (And.intro ((HCB.out w' (below_trans hyw2 h)).1) (And.intro ((HCB.out w' (below_trans hyw2 h)).2.1) ((HCB.out w' (below_trans hyw2 h)).2.2.1))))));have hz0:Below w2.heap.size w2 w2.drew:=(Below.refl _ w2).drew;clear HSS hy0;by_cases hcz:CP=0
    ·have HTE:=Lib.hid (HTT.out.trans (if_pos (decide_eq_true hcz)))
     have heq: ∀W,(binOp .eql 112 (.agg #[.int .i64 yk,.int .i64 yn,.string ys]) (.agg #[.int .i64 v.k,.int .i64 v.n,.string v.s])).run Tryz.prog W= .ok (.bool true) W:=fun W=>by
      rw[HEQL.out W,HVQ.out.2 (HCZ.out.1 (HCPE.out.trans hcz))]
     clear hcz HTT
     go_upto_region 4 with fail
     refine tr (S:=(fun w'=>w'.cell? ⟨w.heap.size,0,none⟩=some (.int .i64 v.k)∧w'.cell? ⟨w.heap.size,1,none⟩=some (.int .i64 v.n)∧w'.cell? ⟨w.heap.size,2,none⟩=some (.string v.s)∧w'.cell? ⟨bb,i*4,none⟩=some (.int .i64 yk)∧w'.cell? ⟨bb,i*4+1,none⟩=some (.int .i64 yn)∧w'.cell? ⟨bb,i*4+2,none⟩=some (.string ys))) (HSX.out _ hz0) (fun hHeld=> ?_);refine tk 0 ?_;refine tk 1 ?_;refine tk 2 ?_;refine tk 3 ?_;refine tk 4 ?_;refine tk 5 ?_;refine tk 6 ?_;refine tk 7 ?_;refine tk 8 ?_;refine tk 9 ?_;refine tk 10 ?_;refine tk 11 ?_;refine tk 12 ?_;refine tk 13 ?_;refine td ?_;clear HSX heq;have hzw:Below w.heap.size w w2.drew:=hbw2.drew;have HO3:=Lib.hid (HO2.out.below hz0);have hg3:=grown_of_below hzw (Value.slice (some ⟨bb,0,none⟩) l.length c0).ownBlock;have HCB3:=Lib.hid (HCB.out _ (below_trans hyw2 hz0));generalize w2.drew=w3 at hzw HO3 hg3 HCB3⊢;have hyn:=HYN.out;have hw1:IntKind.i64.wrap (yc+n)=yc+n:=by rw[IntKind.wrap_i64];rcases hn with hn|hn<;>omega
     obtain⟨z0,z1,z2,z3⟩:=HCB3.out;by_cases hz:yc+n=0
     ·have q2:=beqT hz
      have ET:Hid (TG=(l.take i++l.drop (i+1),true)):=Lib.hid (by rw[HTE.out,if_pos hz];rfl);clear hz HTE hyn;have i2:(i:Int)+1≤(l.length:Int):=by omega
      have i3:(i:Int)≤(c0:Int):=by omega
      have i4:(i:Int)≤(i:Int)+1:=by omega
      have hw:IntKind.i64.wrap ((i:Int)+1)=(i:Int)+1:=by rw[IntKind.wrap_i64];omega
      have hw0:(0:Int)≤(i:Int)+1:=by omega
      have hwn:((i:Int)+1).toNat=i+1:=by omega
      have HP:=Lib.hid (show w3.drew.ownsRow base 135 4 (.slice (some ⟨bb,0,none⟩) i c0) i (tlCells (l.take i))from by
       have:=own_prefix HO3.out.own (k:=i) (by omega);rwa[tl_take]at this)
      have HLT:Hid ((l.take i++l.drop (i+1)).length=i+(l.length-(i+1))):=Lib.hid (by rw[List.length_append,List.length_take,List.length_drop];omega);have HLD:=Lib.hid (show(tlCells (l.drop (i+1))).length=(l.length-(i+1))*4 from by rw[tlCells_len,List.length_drop]);have HM1:Hid (i+(l.length-(i+1))≤maxLen):=Lib.hid (by unfold maxLen;omega);have HM2:Hid ((i+(l.length-(i+1)))*40≤140737488355328):=Lib.hid (by omega);have HBS:Hid (base≤w3.drew.heap.size):=Lib.hid (Nat.le_trans hbase hzw.size);have HWS:Hid (w.heap.size≤w3.drew.heap.size):=Lib.hid hzw.size;by_cases hcap:c0=i+1
      ·subst hcap
       have HDN:Hid (l.drop (i+1)=[]):=Lib.hid (List.drop_of_length_le (by omega));have hlen0:l.length-(i+1)=0:=by omega
       have HD:=Lib.hid (fun n c (h:n≤c) (hc:c≤maxLen)=>sl_none (w:=w3.drew) (A:=⟨bb,0,none⟩) h hc)
       go_upto_region 13 with fail
       refine tr (S:=(fun _=>True)) trivial (fun hHeld=> ?_);refine tk 0 ?_;refine tk 1 ?_;refine tk 2 ?_;refine tk 3 ?_;refine tk 4 ?_;refine tk 5 ?_;refine tk 6 ?_;refine tc 7 ?_;intro K hK;refine step_app (by rfl) (.tmp 89) (.tmp 93) 107 (by rfl) base 135 4 40 Tryz.underlying107 tlI _ i (tlCells (l.take i)) (by rfl) HP.out _ 0 [] (by rfl) (HD.out _ _ (by omega) (by unfold maxLen;omega)) (by rfl) (by simp) (by unfold maxLen;omega) (by omega) HBS.out ?_;intro v4 w4 hown4 hg4 hat4;refine hK.out _ _ trivial (fun hHeld7=> ?_);clear hK K;refine tk 8 ?_;refine td ?_;have HN:Hid (OwnT w4 base v4 (l.take i++l.drop (i+1))):=Lib.hid ⟨by rw[HLT.out,tlCells_app,HDN.out];simpa[tlCells,hlen0]using hown4⟩;have HGR:=Lib.hid (grown_trans hg3 (drew_grown hg4))
       have HFR:Hid (∀k,v4.ownBlock=some k→some bb=some k∨w.heap.size≤k):=Lib.hid (fun k hk=>by
        rcases hat4 with h|h
        ·exact .inl (h.symm.trans hk)
        ·rw[h]at hk
         injection hk with hk;have:=HWS.out;exact .inr (by omega))
       clear hown4 hg4 hat4;go_wp2
       go_ret2
       exact⟨_,by rw[ET.out];rfl,⟨_,HN.out,fun _=>by rw[ET.out]⟩,HGR.out,HFR.out⟩
      ·have HD:=Lib.hid (show Sl w3.drew (.slice (some ⟨bb,(i+1)*4,none⟩) (l.length-(i+1)) (c0-(i+1))) (l.length-(i+1)) (tlCells (l.drop (i+1)))from by
        have:=(Sl.of_own HO3.out.own).drop (size:=4) (tlCells_len l) (k:=i+1) (by omega);rw[if_neg hcap,tl_drop]at this;have h2:Sl w3 (.slice (some ⟨bb,(i+1)*4,none⟩) (l.length-(i+1)) (c0-(i+1))) (l.length-(i+1)) (tlCells (l.drop (i+1))):=by simpa[Addr.add]using this
        exact h2.drew)
       go_upto_region 13 with fail
       refine tr (S:=(fun _=>True)) trivial (fun hHeld=> ?_);refine tk 0 ?_;refine tk 1 ?_;refine tk 2 ?_;refine tk 3 ?_;refine tk 4 ?_;refine tk 5 ?_;refine tk 6 ?_;refine tc 7 ?_;intro K hK;refine step_app (by rfl) (.tmp 89) (.tmp 93) 107 (by rfl) base 135 4 40 Tryz.underlying107 tlI _ i (tlCells (l.take i)) (by rfl) HP.out _ (l.length-(i+1)) (tlCells (l.drop (i+1))) (by rfl) HD.out HLD.out (tlCells_one _) HM1.out HM2.out HBS.out ?_;intro v4 w4 hown4 hg4 hat4;refine hK.out _ _ trivial (fun hHeld7=> ?_);clear hK K;refine tk 8 ?_;refine td ?_;have HN:Hid (OwnT w4 base v4 (l.take i++l.drop (i+1))):=Lib.hid ⟨by rw[HLT.out,tlCells_app];exact hown4⟩;have HGR:=Lib.hid (grown_trans hg3 (drew_grown hg4))
       have HFR:Hid (∀k,v4.ownBlock=some k→some bb=some k∨w.heap.size≤k):=Lib.hid (fun k hk=>by
        rcases hat4 with h|h
        ·exact .inl (h.symm.trans hk)
        ·rw[h]at hk
         injection hk with hk;have:=HWS.out;exact .inr (by omega))
       clear hown4 hg4 hat4;go_wp2
       go_ret2
       exact⟨_,by rw[ET.out];rfl,⟨_,HN.out,fun _=>by rw[ET.out]⟩,HGR.out,HFR.out⟩
     ·have q2:=beqF hz
      have ET:Hid (TG=(l.take i++(⟨⟨yk,yn,ys⟩,yc+n⟩::l.drop (i+1)),true)):=Lib.hid (by rw[HTE.out,if_neg hz];rfl);have f3:=HO3.out.own.frozenAt (i*4+3);obtain⟨s1,s2⟩:=HO3.out.own.stored (i*4+3) (.int .i64 (yc+n));rw[tl_set l i ⟨⟨yk,yn,ys⟩,yc⟩ (yc+n) HX.out]at s1;have hlen:(l.take i++((⟨⟨yk,yn,ys⟩,yc+n⟩:Tl)::l.drop (i+1))).length=l.length:=by rw[List.length_append,List.length_cons,List.length_take,List.length_drop];omega
      have HS1:Hid (OwnT (w3.setCell ⟨bb,i*4+3,none⟩ (.int .i64 (yc+n))) base (.slice (some ⟨bb,0,none⟩) l.length c0) (l.take i++(⟨⟨yk,yn,ys⟩,yc+n⟩::l.drop (i+1)))):=Lib.hid ⟨by rw[hlen];exact s1⟩;have HS2:=Lib.hid (grown_trans hg3 s2);clear hz HTE hyn s1 s2 hlen;go_wp2
      go_ret2
      exact⟨_,by rw[ET.out];rfl,⟨_,HS1.out,fun _=>by rw[ET.out]⟩,HS2.out,fun k hk=> .inl hk⟩
    ·have HTE:=Lib.hid (HTT.out.trans (if_neg (by simp[hcz])))
     have heq: ∀W,(binOp .eql 112 (.agg #[.int .i64 yk,.int .i64 yn,.string ys]) (.agg #[.int .i64 v.k,.int .i64 v.n,.string v.s])).run Tryz.prog W= .ok (.bool false) W:=fun W=>by
      rw[HEQL.out W];cases hq:veq ⟨yk,yn,ys⟩ v
      ·rfl
      ·exact absurd (HCPE.out.symm.trans (HCZ.out.2 (HVQ.out.1 hq))) hcz
     clear hcz HTT
     go_upto_region 4 with fail
     refine tr (S:=(fun w'=>w'.cell? ⟨w.heap.size,0,none⟩=some (.int .i64 v.k)∧w'.cell? ⟨w.heap.size,1,none⟩=some (.int .i64 v.n)∧w'.cell? ⟨w.heap.size,2,none⟩=some (.string v.s)∧w'.cell? ⟨bb,i*4,none⟩=some (.int .i64 yk)∧w'.cell? ⟨bb,i*4+1,none⟩=some (.int .i64 yn)∧w'.cell? ⟨bb,i*4+2,none⟩=some (.string ys))) (HSX.out _ hz0) (fun hHeld=> ?_);refine tk 0 ?_;refine tk 1 ?_;refine tk 2 ?_;refine tk 3 ?_;refine tk 4 ?_;refine tk 5 ?_;refine tk 6 ?_;refine tk 7 ?_;refine tk 8 ?_;refine tk 9 ?_;refine tk 10 ?_;refine tk 11 ?_;refine tk 12 ?_;refine tk 13 ?_;refine td ?_;clear HSX heq;have hzw:Below w.heap.size w w2.drew:=hbw2.drew;have HO3:=Lib.hid (HO2.out.below hz0);have HK3:=Lib.hid (HK2.out.below hz0);have hg3:=grown_of_below hzw (Value.slice (some ⟨bb,0,none⟩) l.length c0).ownBlock;generalize w2.drew=w3 at hzw HO3 HK3 hg3⊢;by_cases hnn:n<0
     ·have q3:decide (n<0)=true:=decide_eq_true hnn
      have ET:Hid (TG.2=false):=Lib.hid (by rw[HTE.out];exact decide_eq_false (by omega));clear hnn HTE;go_wp2
      go_ret2
      exact⟨_,by rw[ET.out];rfl,⟨_,HO3.out,fun h=>by rw[ET.out]at h;cases h⟩,hg3,fun k hk=> .inl hk⟩
     ·have q3:decide (n<0)=false:=decide_eq_false hnn
      have hn1:n=1:=by omega
      have ET:Hid (TG=(l.take i++⟨v,1⟩::l.drop i,true)):=Lib.hid (by rw[HTE.out,hn1];rfl);subst hn1;have HA1:=Lib.hid (HO3.out.below (below_alloc w3 (.cells #[.int .i64 0,.int .i64 0,.string ⟨#[]⟩,.int .i64 0] 135)));have HBX:=Lib.hid (hzw.alloc hzw.size (.cells #[.int .i64 0,.int .i64 0,.string ⟨#[]⟩,.int .i64 0] 135));have HZ1:=Lib.hid (show Sl (w3.alloc (.cells #[.int .i64 0,.int .i64 0,.string ⟨#[]⟩,.int .i64 0] 135)) (.slice (some ⟨w3.heap.size,0,none⟩) 1 1) 1 (Tl.cells ⟨⟨0,0,⟨#[]⟩⟩,0⟩)from Sl.block (Blk.new w3 135 #[.int .i64 0,.int .i64 0,.string ⟨#[]⟩,.int .i64 0]) 1 1 (Nat.le_refl _) (by decide));have HKX:=Lib.hid (HK3.out.below (below_alloc w3 (.cells #[.int .i64 0,.int .i64 0,.string ⟨#[]⟩,.int .i64 0] 135)));clear HTE hnn
      go_upto_region 10 with(at_builtin;refine wpList_app rfl (.tmp 61) (.tmp 63) 107 rfl base 135 4 40 Tryz.underlying107 tlI (.slice (some ⟨bb,0,none⟩) l.length c0) l.length _ rfl HA1.out.own _ 1 (Tl.cells ⟨⟨0,0,⟨#[]⟩⟩,0⟩) rfl HZ1.out rfl (by simp[Tl.cells,Value.oneCell']) (by unfold maxLen;omega) (by omega) (by have:=hbase;have:=HBX.out.size;simp at this⊢;omega) ?_)
      intro v4 w4 hown4 hg4 hat4;have HZ4:Hid (w4.ownsRow base 135 4 v4 (l.length+1) (tlCells (l++[⟨⟨0,0,⟨#[]⟩⟩,0⟩]))):=Lib.hid (by rw[tlCells_app];simpa[tlCells]using hown4);have HG4:=Lib.hid (grown_trans hg3 (grown_trans (grown_of_below (below_alloc w3 (.cells #[.int .i64 0,.int .i64 0,.string ⟨#[]⟩,.int .i64 0] 135)) _) hg4));have HK4:=Lib.hid (HKX.out.grown hg4 (fun e=>by have h1:=(HO.out.own.lt _ e).2;omega));obtain⟨g4,cap4,hform4,hg4b,hg4l⟩:=hown4.form (by omega);subst hform4
      have HROW:Hid (∀j,some g4=some j→(Value.slice (some ⟨bb,0,none⟩) l.length c0).ownBlock=some j∨w.heap.size≤j):=Lib.hid (by
       intro j hj;injection hj with hj;subst hj;rcases hat4 with h|h
       ·exact .inl h.symm
       ·injection h with h
        have h1:=hzw.size;have h':g4=w3.heap.size+1:=h;exact .inr (by omega))
      have hgw:g4≠w.heap.size:=fun e=>by
       rcases HROW.out g4 rfl with h|h
       ·have h1:=(HO.out.own.lt g4 h).2;omega
       ·rcases hat4 with h2|h2
        ·have h1:=(HO.out.own.lt g4 h2.symm).2;omega
        ·injection h2 with h2
         have h':g4=w3.heap.size+1:=h2;have:=HK3.out.lt;omega
      obtain⟨Ax4,cx4,hvv,hcap4,hcm4,-⟩:=Sl.of_own hown4;injection hvv with p1 p2 p3;subst p3;unfold maxLen at hcm4;clear hown4 hg4 hat4 p1;have hw:IntKind.i64.wrap ((i:Int)+1)=(i:Int)+1:=by rw[IntKind.wrap_i64];omega
      have hw1:((i:Int)+1).toNat=i+1:=by omega
      have i2:(0:Int)≤(i:Int)+1:=by omega
      have i5:(i:Int)+1≤(l.length:Int)+1:=by omega
      have i6:(i:Int)≤(l.length:Int)+1:=by omega
      have i7:(i:Int)<(l.length:Int)+1:=by omega
      have hcn: ¬cap4=i:=by omega
      go_upto_region 10 with fail
      go_cut[]from 65 to 72 (fun wx=> ∃X:Tl,Hid (wx.ownsRow base 135 4 (.slice (some ⟨g4,0,none⟩) (l.length+1) cap4) (l.length+1) (tlCells (l.take i++X::l.drop i)))∧Hid (w.grownBy wx (Value.slice (some ⟨bb,0,none⟩) l.length c0).ownBlock)∧Hid (Blk wx w.heap.size 112 #[.int .i64 v.k,.int .i64 v.n,.string v.s]))
      case first=>
       by_cases hi:i<l.length
       ·have hc2': ¬cap4=i+1:=by omega
        obtain⟨sA,sB⟩:=tl_split hi (⟨⟨0,0,⟨#[]⟩⟩,0⟩:Tl);obtain⟨w5,hrun,hown5,hg5⟩:=own_shiftT (c1:=cap4-(i+1)) (c2:=cap4-i) (own_drew HZ4.out) hi (tlCells_one _);rw[tl_take,tl_drop,tl_take,sA,sB,←tlCells_app,List.append_assoc,List.singleton_append]at hown5;have HRUN:=Lib.hid hrun;have HO5:=Lib.hid hown5;have HG5:=Lib.hid (grown_new HG4.out (drew_grown hg5) HROW.out);have HK5:=Lib.hid (HK4.out.drew.grown hg5 (fun e=>by injection e with e;exact hgw e));clear hrun hown5 hg5 sA sB;refine tr (S:=(fun _=>True)) trivial (fun hHeld=> ?_);refine tk 0 ?_;refine tk 1 ?_;refine tk 2 ?_;refine tk 3 ?_;refine tk 4 ?_;refine tk 5 ?_;refine tk 6 ?_;refine tc 7 ?_;intro K hK;refine step_copy_run (by rfl) (.tmp 68) (.tmp 71) 107 107 (by rfl) _ _ (by rfl) (by rfl) (HRUN.out _) ?_;refine hK.out _ _ trivial (fun hHeld7=> ?_);clear hK K;refine td ?_;go_wp2
        go_meet
        exact⟨_,HO5,HG5,HK5⟩
       ·have HIE:Hid (i=l.length):=Lib.hid (by omega)
        clear hi
        have HOE:Hid (w4.drew.ownsRow base 135 4 (.slice (some ⟨g4,0,none⟩) (l.length+1) cap4) (l.length+1) (tlCells (l.take i++⟨⟨0,0,⟨#[]⟩⟩,0⟩::l.drop i))):=Lib.hid (by
         rw[List.take_of_length_le (by have:=HIE.out;omega),List.drop_of_length_le (by have:=HIE.out;omega)];exact own_drew HZ4.out)
        by_cases hcp:cap4=i+1
        ·subst hcp
         refine tr (S:=(fun _=>True)) trivial (fun hHeld=> ?_);refine tk 0 ?_;refine tk 1 ?_;refine tk 2 ?_;refine tk 3 ?_;refine tk 4 ?_;refine tk 5 ?_;refine tk 6 ?_;refine tc 7 ?_;intro K hK;refine step_copy_run (by rfl) (.tmp 68) (.tmp 71) 107 107 (by rfl) _ _ (by rfl) (by rfl) (run_copy_zero _ _ _ _ _ _ _ _ _ _ _ Tryz.underlying107 (by rw[tlSize];rfl) (by show min _ _=_;have:=HIE.out;omega)) ?_;refine hK.out _ _ trivial (fun hHeld7=> ?_);clear hK K;refine td ?_;go_wp2
         go_meet
         exact⟨_,HOE,Lib.hid (grown_drew HG4.out),Lib.hid HK4.out.drew⟩
        ·refine tr (S:=(fun _=>True)) trivial (fun hHeld=> ?_)
         refine tk 0 ?_;refine tk 1 ?_;refine tk 2 ?_;refine tk 3 ?_;refine tk 4 ?_;refine tk 5 ?_;refine tk 6 ?_;refine tc 7 ?_;intro K hK;refine step_copy_run (by rfl) (.tmp 68) (.tmp 71) 107 107 (by rfl) _ _ (by rfl) (by rfl) (run_copy_zero _ _ _ _ _ _ _ _ _ _ _ Tryz.underlying107 (by rw[tlSize];rfl) (by show min _ _=_;have:=HIE.out;omega)) ?_;refine hK.out _ _ trivial (fun hHeld7=> ?_);clear hK K;refine td ?_;go_wp2
         go_meet
         exact⟨_,HOE,Lib.hid (grown_drew HG4.out),Lib.hid HK4.out.drew⟩
      case rest=>
       obtain⟨X,HO5,HG5,HK5⟩:=hcut;have hlt5:(l.take i).length=i:=by rw[List.length_take];omega
       have hlenX:(l.take i++X::l.drop i).length=l.length+1:=by rw[List.length_append,List.length_cons,List.length_take,List.length_drop];omega
       have hXi:(l.take i++X::l.drop i)[i]?=some X:=by rw[List.getElem?_append_right (by omega),hlt5,Nat.sub_self];rfl
       have hsx:=Sl.of_own HO5.out;rw[←hlenX]at hsx;obtain⟨b',off',hA',-,hcl⟩:=tl_at hsx rfl hXi;injection hA' with hA';injection hA' with e1 e2;subst e1 e2;obtain⟨d0,d1,d2,d3⟩:=hcl _ (Below.refl _ _);simp only[Nat.zero_add]at d0 d1 d2 d3;have f0:=HO5.out.frozenAt (i*4);have f1:=HO5.out.frozenAt (i*4+1);have f2:=HO5.out.frozenAt (i*4+2);have f3:=HO5.out.frozenAt (i*4+3);obtain⟨s0,g0⟩:=HO5.out.stored (i*4) (.int .i64 v.k);obtain⟨s1,g1⟩:=s0.stored (i*4+1) (.int .i64 v.n);obtain⟨s2,g2⟩:=s1.stored (i*4+2) (.string v.s);obtain⟨s3,g3'⟩:=s2.stored (i*4+3) (.int .i64 1);have e5:=tl_lay (l.take i) (l.drop i) X ⟨v,1⟩;rw[hlt5]at e5;rw[e5]at s3;have hlenN:(l.take i++(⟨v,1⟩:Tl)::l.drop i).length=l.length+1:=by rw[List.length_append,List.length_cons,List.length_take,List.length_drop];omega
       have HS3:Hid (OwnT ((((wc.setCell ⟨g4,i*4,none⟩ (.int .i64 v.k)).setCell ⟨g4,i*4+1,none⟩ (.int .i64 v.n)).setCell ⟨g4,i*4+2,none⟩ (.string v.s)).setCell ⟨g4,i*4+3,none⟩ (.int .i64 1)) base (.slice (some ⟨g4,0,none⟩) (l.length+1) cap4) (l.take i++⟨v,1⟩::l.drop i)):=Lib.hid ⟨by rw[hlenN];exact s3⟩;have HGZ:=Lib.hid (grown_new HG5.out (grown_trans (grown_trans (grown_trans g0 g1) g2) g3') HROW.out);have k0:=HK5.out.cell 0 _ rfl;have k1:=HK5.out.cell 1 _ rfl;have k2:=HK5.out.cell 2 _ rfl;clear s0 s1 s2 s3 g0 g1 g2 g3' e5 hsx hcl hlenX hXi hlt5 hlenN;go_wp2
       go_ret2
       exact⟨.slice (some ⟨g4,0,none⟩) (l.length+1) cap4,by rw[ET.out];rfl,⟨_,HS3.out,fun _=>by rw[ET.out]⟩,HGZ.out,fun k hk=>HROW.out k hk⟩
  ·have i1: ¬(i:Int)<(l.length:Int):=by omega
   have i1b:decide ((i:Int)<(l.length:Int))=false:=decide_eq_false i1;have HPOS:=Lib.hid (pos_of HUP.out HGV.out hil HLOW.out (fun z hz=>by rw[List.getElem?_eq_none (by omega)]at hz;cases hz));have HIS:Hid (isT l v i=false):=Lib.hid (by unfold isT;rw[List.getElem?_eq_none (by omega)]);have HTE:=Lib.hid ((HTP.out i HPOS.out).trans (if_neg (by rw[HIS.out];simp)))
   go_upto_region 2 with fail
   refine tr (S:=(fun _=>True)) trivial (fun hHeld=> ?_);refine tk 0 ?_;refine tk 1 ?_;refine tk 2 ?_;refine tk 3 ?_;refine tk 4 ?_;refine tn 5 ?_;refine tn 6 ?_;refine tn 7 ?_;refine tn 8 ?_;refine tn 9 ?_;refine tn 10 ?_;refine tn 11 ?_;refine tn 12 ?_;refine tk 13 ?_;refine td ?_
   go_upto_region 4 with fail
   refine tr (S:=(fun _=>True)) trivial (fun hHeld=> ?_);refine tk 0 ?_;refine tk 1 ?_;refine tk 2 ?_;refine tk 3 ?_;refine tk 4 ?_;refine tn 5 ?_;refine tn 6 ?_;refine tn 7 ?_;refine tn 8 ?_;refine tn 9 ?_;refine tn 10 ?_;refine tn 11 ?_;refine tk 12 ?_;refine tk 13 ?_;refine td ?_;have hzw:Below w.heap.size w w1.drew.drew:=hBw.drew.drew;have HO3:=Lib.hid (HO1.out.below hy0.drew);have HK3:=Lib.hid (HK1.out.below hy0.drew);have hg3:=grown_of_below hzw (Value.slice A0 l.length c0).ownBlock;generalize w1.drew.drew=w3 at hzw HO3 HK3 hg3⊢;by_cases hnn:n<0
   ·have q3:decide (n<0)=true:=decide_eq_true hnn
    have ET:Hid (TG.2=false):=Lib.hid (by rw[HTE.out];exact decide_eq_false (by omega));clear hnn HTE;go_wp2
    go_ret2
    exact⟨_,by rw[ET.out];rfl,⟨_,HO3.out,fun h=>by rw[ET.out]at h;cases h⟩,hg3,fun k hk=> .inl hk⟩
   ·have q3:decide (n<0)=false:=decide_eq_false hnn
    have hn1:n=1:=by omega
    have ET:Hid (TG=(l.take i++⟨v,1⟩::l.drop i,true)):=Lib.hid (by rw[HTE.out,hn1];rfl);subst hn1;have HA1:=Lib.hid (HO3.out.below (below_alloc w3 (.cells #[.int .i64 0,.int .i64 0,.string ⟨#[]⟩,.int .i64 0] 135)));have HBX:=Lib.hid (hzw.alloc hzw.size (.cells #[.int .i64 0,.int .i64 0,.string ⟨#[]⟩,.int .i64 0] 135));have HZ1:=Lib.hid (show Sl (w3.alloc (.cells #[.int .i64 0,.int .i64 0,.string ⟨#[]⟩,.int .i64 0] 135)) (.slice (some ⟨w3.heap.size,0,none⟩) 1 1) 1 (Tl.cells ⟨⟨0,0,⟨#[]⟩⟩,0⟩)from Sl.block (Blk.new w3 135 #[.int .i64 0,.int .i64 0,.string ⟨#[]⟩,.int .i64 0]) 1 1 (Nat.le_refl _) (by decide));have HKX:=Lib.hid (HK3.out.below (below_alloc w3 (.cells #[.int .i64 0,.int .i64 0,.string ⟨#[]⟩,.int .i64 0] 135)));clear HTE hnn
    go_upto_region 10 with(at_builtin;refine wpList_app rfl (.tmp 61) (.tmp 63) 107 rfl base 135 4 40 Tryz.underlying107 tlI (.slice A0 l.length c0) l.length _ rfl HA1.out.own _ 1 (Tl.cells ⟨⟨0,0,⟨#[]⟩⟩,0⟩) rfl HZ1.out rfl (by simp[Tl.cells,Value.oneCell']) (by unfold maxLen;omega) (by omega) (by have:=hbase;have:=HBX.out.size;simp at this⊢;omega) ?_)
    intro v4 w4 hown4 hg4 hat4;have HZ4:Hid (w4.ownsRow base 135 4 v4 (l.length+1) (tlCells (l++[⟨⟨0,0,⟨#[]⟩⟩,0⟩]))):=Lib.hid (by rw[tlCells_app];simpa[tlCells]using hown4);have HG4:=Lib.hid (grown_trans hg3 (grown_trans (grown_of_below (below_alloc w3 (.cells #[.int .i64 0,.int .i64 0,.string ⟨#[]⟩,.int .i64 0] 135)) _) hg4));have HK4:=Lib.hid (HKX.out.grown hg4 (fun e=>by have h1:=(HO.out.own.lt _ e).2;omega));obtain⟨g4,cap4,hform4,hg4b,hg4l⟩:=hown4.form (by omega);subst hform4
    have HROW:Hid (∀j,some g4=some j→(Value.slice A0 l.length c0).ownBlock=some j∨w.heap.size≤j):=Lib.hid (by
     intro j hj;injection hj with hj;subst hj;rcases hat4 with h|h
     ·exact .inl h.symm
     ·injection h with h
      have h1:=hzw.size;have h':g4=w3.heap.size+1:=h;exact .inr (by omega))
    have hgw:g4≠w.heap.size:=fun e=>by
     rcases HROW.out g4 rfl with h|h
     ·have h1:=(HO.out.own.lt g4 h).2;omega
     ·rcases hat4 with h2|h2
      ·have h1:=(HO.out.own.lt g4 h2.symm).2;omega
      ·injection h2 with h2
       have h':g4=w3.heap.size+1:=h2;have:=HK3.out.lt;omega
    obtain⟨Ax4,cx4,hvv,hcap4,hcm4,-⟩:=Sl.of_own hown4;injection hvv with p1 p2 p3;subst p3;unfold maxLen at hcm4;clear hown4 hg4 hat4 p1;have hw:IntKind.i64.wrap ((i:Int)+1)=(i:Int)+1:=by rw[IntKind.wrap_i64];omega
    have hw1:((i:Int)+1).toNat=i+1:=by omega
    have i2:(0:Int)≤(i:Int)+1:=by omega
    have i5:(i:Int)+1≤(l.length:Int)+1:=by omega
    have i6:(i:Int)≤(l.length:Int)+1:=by omega
    have i7:(i:Int)<(l.length:Int)+1:=by omega
    have hcn: ¬cap4=i:=by omega
    go_upto_region 10 with fail
    go_cut[]from 65 to 72 (fun wx=> ∃X:Tl,Hid (wx.ownsRow base 135 4 (.slice (some ⟨g4,0,none⟩) (l.length+1) cap4) (l.length+1) (tlCells (l.take i++X::l.drop i)))∧Hid (w.grownBy wx (Value.slice A0 l.length c0).ownBlock)∧Hid (Blk wx w.heap.size 112 #[.int .i64 v.k,.int .i64 v.n,.string v.s]))
    case first=>
     by_cases hi:i<l.length
     ·have hc2': ¬cap4=i+1:=by omega
      obtain⟨sA,sB⟩:=tl_split hi (⟨⟨0,0,⟨#[]⟩⟩,0⟩:Tl);obtain⟨w5,hrun,hown5,hg5⟩:=own_shiftT (c1:=cap4-(i+1)) (c2:=cap4-i) (own_drew HZ4.out) hi (tlCells_one _);rw[tl_take,tl_drop,tl_take,sA,sB,←tlCells_app,List.append_assoc,List.singleton_append]at hown5;have HRUN:=Lib.hid hrun;have HO5:=Lib.hid hown5;have HG5:=Lib.hid (grown_new HG4.out (drew_grown hg5) HROW.out);have HK5:=Lib.hid (HK4.out.drew.grown hg5 (fun e=>by injection e with e;exact hgw e));clear hrun hown5 hg5 sA sB;refine tr (S:=(fun _=>True)) trivial (fun hHeld=> ?_);refine tk 0 ?_;refine tk 1 ?_;refine tk 2 ?_;refine tk 3 ?_;refine tk 4 ?_;refine tk 5 ?_;refine tk 6 ?_;refine tc 7 ?_;intro K hK;refine step_copy_run (by rfl) (.tmp 68) (.tmp 71) 107 107 (by rfl) _ _ (by rfl) (by rfl) (HRUN.out _) ?_;refine hK.out _ _ trivial (fun hHeld7=> ?_);clear hK K;refine td ?_;go_wp2
      go_meet
      exact⟨_,HO5,HG5,HK5⟩
     ·have HIE:Hid (i=l.length):=Lib.hid (by omega)
      clear hi
      have HOE:Hid (w4.drew.ownsRow base 135 4 (.slice (some ⟨g4,0,none⟩) (l.length+1) cap4) (l.length+1) (tlCells (l.take i++⟨⟨0,0,⟨#[]⟩⟩,0⟩::l.drop i))):=Lib.hid (by
       rw[List.take_of_length_le (by have:=HIE.out;omega),List.drop_of_length_le (by have:=HIE.out;omega)];exact own_drew HZ4.out)
      by_cases hcp:cap4=i+1
      ·subst hcp
       refine tr (S:=(fun _=>True)) trivial (fun hHeld=> ?_);refine tk 0 ?_;refine tk 1 ?_;refine tk 2 ?_;refine tk 3 ?_;refine tk 4 ?_;refine tk 5 ?_;refine tk 6 ?_;refine tc 7 ?_;intro K hK;refine step_copy_run (by rfl) (.tmp 68) (.tmp 71) 107 107 (by rfl) _ _ (by rfl) (by rfl) (run_copy_zero _ _ _ _ _ _ _ _ _ _ _ Tryz.underlying107 (by rw[tlSize];rfl) (by show min _ _=_;have:=HIE.out;omega)) ?_;refine hK.out _ _ trivial (fun hHeld7=> ?_);clear hK K;refine td ?_;go_wp2
       go_meet
       exact⟨_,HOE,Lib.hid (grown_drew HG4.out),Lib.hid HK4.out.drew⟩
      ·refine tr (S:=(fun _=>True)) trivial (fun hHeld=> ?_)
       refine tk 0 ?_;refine tk 1 ?_;refine tk 2 ?_;refine tk 3 ?_;refine tk 4 ?_;refine tk 5 ?_;refine tk 6 ?_;refine tc 7 ?_;intro K hK;refine step_copy_run (by rfl) (.tmp 68) (.tmp 71) 107 107 (by rfl) _ _ (by rfl) (by rfl) (run_copy_zero _ _ _ _ _ _ _ _ _ _ _ Tryz.underlying107 (by rw[tlSize];rfl) (by show min _ _=_;have:=HIE.out;omega)) ?_;refine hK.out _ _ trivial (fun hHeld7=> ?_);clear hK K;refine td ?_;go_wp2
       go_meet
       exact⟨_,HOE,Lib.hid (grown_drew HG4.out),Lib.hid HK4.out.drew⟩
    case rest=>
     obtain⟨X,HO5,HG5,HK5⟩:=hcut;have hlt5:(l.take i).length=i:=by rw[List.length_take];omega
     have hlenX:(l.take i++X::l.drop i).length=l.length+1:=by rw[List.length_append,List.length_cons,List.length_take,List.length_drop];omega
     have hXi:(l.take i++X::l.drop i)[i]?=some X:=by rw[List.getElem?_append_right (by omega),hlt5,Nat.sub_self];rfl
     have hsx:=Sl.of_own HO5.out;rw[←hlenX]at hsx;obtain⟨b',off',hA',-,hcl⟩:=tl_at hsx rfl hXi;injection hA' with hA';injection hA' with e1 e2;subst e1 e2;obtain⟨d0,d1,d2,d3⟩:=hcl _ (Below.refl _ _);simp only[Nat.zero_add]at d0 d1 d2 d3;have f0:=HO5.out.frozenAt (i*4);have f1:=HO5.out.frozenAt (i*4+1);have f2:=HO5.out.frozenAt (i*4+2);have f3:=HO5.out.frozenAt (i*4+3);obtain⟨s0,g0⟩:=HO5.out.stored (i*4) (.int .i64 v.k);obtain⟨s1,g1⟩:=s0.stored (i*4+1) (.int .i64 v.n);obtain⟨s2,g2⟩:=s1.stored (i*4+2) (.string v.s);obtain⟨s3,g3'⟩:=s2.stored (i*4+3) (.int .i64 1);have e5:=tl_lay (l.take i) (l.drop i) X ⟨v,1⟩;rw[hlt5]at e5;rw[e5]at s3;have hlenN:(l.take i++(⟨v,1⟩:Tl)::l.drop i).length=l.length+1:=by rw[List.length_append,List.length_cons,List.length_take,List.length_drop];omega
     have HS3:Hid (OwnT ((((wc.setCell ⟨g4,i*4,none⟩ (.int .i64 v.k)).setCell ⟨g4,i*4+1,none⟩ (.int .i64 v.n)).setCell ⟨g4,i*4+2,none⟩ (.string v.s)).setCell ⟨g4,i*4+3,none⟩ (.int .i64 1)) base (.slice (some ⟨g4,0,none⟩) (l.length+1) cap4) (l.take i++⟨v,1⟩::l.drop i)):=Lib.hid ⟨by rw[hlenN];exact s3⟩;have HGZ:=Lib.hid (grown_new HG5.out (grown_trans (grown_trans (grown_trans g0 g1) g2) g3') HROW.out);have k0:=HK5.out.cell 0 _ rfl;have k1:=HK5.out.cell 1 _ rfl;have k2:=HK5.out.cell 2 _ rfl;clear s0 s1 s2 s3 g0 g1 g2 g3' e5 hsx hcl hlenX hXi hlt5 hlenN;go_wp2
     go_ret2
     exact⟨.slice (some ⟨g4,0,none⟩) (l.length+1) cap4,by rw[ET.out];rfl,⟨_,HS3.out,fun _=>by rw[ET.out]⟩,HGZ.out,fun k hk=>HROW.out k hk⟩
end Go.Proofs.YtblhidmkalleoaaGreatDoor
