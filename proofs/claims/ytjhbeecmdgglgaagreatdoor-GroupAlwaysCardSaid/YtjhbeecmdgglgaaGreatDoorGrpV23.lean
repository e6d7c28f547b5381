/-Groups: turn. (Printed by gengrp16.py.) -/
import Derived.Test.YtjhbeecmdgglgaaGreatDoorGrpV22
set_option linter.unusedSimpArgs false
set_option linter.unusedVariables false
namespace Go.Proofs.YtjhbeecmdgglgaaGreatDoor
open Go.RowKit Go.Maps
theorem zeroP (w:World):(zeroValue 123).run Tryz.prog w= .ok (.pointer none) w:=by kernel_rfl
theorem Tn.pre {w w2 w':World}{base M N N':Nat}{X X':List (Nat×Gm)}(h:Tn w2 base M X w' N' X')(hb:Below w.heap.size w w2)(hX:GMap w base M N X):Tn w base M X w' N' X':=
 ⟨h.map,(turned_below (F:=MBk M X) hb).trans h.turned,fun k hk hm=>h.old k (Nat.lt_of_lt_of_le hk hb.size) hm⟩
theorem look_has {w:World}{base M N b:Nat}{X X1 X2:List (Nat×Gm)}{x:Gm}{key:List Val}(h:GMap w base M N X)(hri:Rises (ax X))(hX:X=X1++(b,x)::X2)(hx:x.r=key)(hk:GoodR key)(h1: ∀p∈ax X1,rowsF p.1 key<0):(Instr.lookup 117 (.map (some M)) (.string (str (keyRow key))) false).run Tryz.prog w= .ok (.pointer (some ⟨b,0,none⟩)) w:=by
 obtain⟨n,-,hm⟩:=h.map;obtain⟨v,ps,hrun,hv⟩:=hm.lookup (t:=117) lawS Tryz.underlying117 (zeroP w) (zd:= .lit (.int .i64 0)) (zp:=[]) rfl (keyS hk);rw[mkD_at hri.good hk,hX,ax_mid,hx,look_mid h1 (rowsF_self hk)]at hv;rcases ptrE_inv hv with⟨e,-⟩|⟨b',e,rfl⟩
 ·omega
 ·obtain rfl:b=b':=by omega
  exact hrun
theorem look_not {w:World}{base M N:Nat}{X:List (Nat×Gm)}{key:List Val}(h:GMap w base M N X)(hri:Rises (ax X))(hk:GoodR key)(h1: ∀p∈ax X,rowsF p.1 key≠0):(Instr.lookup 117 (.map (some M)) (.string (str (keyRow key))) false).run Tryz.prog w= .ok (.pointer none) w:=by
 obtain⟨n,-,hm⟩:=h.map;obtain⟨v,ps,hrun,hv⟩:=hm.lookup (t:=117) lawS Tryz.underlying117 (zeroP w) (zd:= .lit (.int .i64 0)) (zp:=[]) rfl (keyS hk);rw[mkD_at hri.good hk,look_none h1]at hv;rcases ptrE_inv hv with⟨-,rfl⟩|⟨b',e,-⟩
 ·exact hrun
 ·omega
theorem ite_or {α:Type}{c:Prop}[Decidable c]{t a b:α}(h:t=if c then a else b):(c∧t=a)∨(¬c∧t=b):=by
 by_cases hc:c
 ·exact .inl ⟨hc,h.trans (if_pos hc)⟩
 ·exact .inr ⟨hc,h.trans (if_neg hc)⟩
theorem madeCells_addG (z:Array Value)(m:Nat):(madeCells z (z.size+m)).toList=z.toList++(madeCells z m).toList:=by
 apply List.ext_getElem?;intro i;rw[List.getElem?_append];simp only[madeCells,Array.toList_map,Array.toList_range,List.getElem?_map,Array.length_toList];by_cases h:i<z.size
 ·simp[h,show i<z.size+m from by omega,Nat.mod_eq_of_lt h]
 ·rw[if_neg h]
  by_cases h2:i<z.size+m
  ·simp[h2,show i-z.size<m from by omega,Nat.mod_eq_sub_mod (show z.size≤i by omega)]
  ·simp[h2,show ¬i-z.size<m from by omega]
theorem made_bags (n:Nat):(madeCells (.slice none 0 0:Value).cells (n*1)).toList=List.replicate n (.slice none 0 0):=by
 induction n with
 |zero=>simp[madeCells]
 |succ n ih=>
  have e:(n+1)*1=(Value.slice none 0 0).cells.size+n*1:=by show _=1+n*1;omega
  rw[e,madeCells_addG,ih];simp[List.replicate_succ,Value.cells]
theorem bags_make (n:Nat)(hn:n≤8): ∃zs:Array Value,zs.toList=List.replicate n (.slice none 0 0)∧zs.size=n∧ ∀w:World,(Instr.makeSlice 124 (.int .i64 (n:Int)) (.int .i64 (n:Int))).run Tryz.prog w= .ok (.slice (some ⟨w.heap.size,0,none⟩) n n) (w.alloc (.cells zs 155)):=by
 have h:(Tryz.prog.info? 155).map (fun i=>(i.zero,i.size,i.bytes))=some (some (.slice none 0 0),1,24):=by kernel_rfl
 obtain⟨i,hi,h1,h2,h3⟩:=info_parts h;refine⟨_,made_bags n,by rw[size_madeCells];omega,fun w=> ?_⟩;have:=run_make (P:=Tryz.prog) w 124 155 i _ Tryz.underlying124 hi h1 .i64 .i64 (n:Int) (n:Int) (by omega) (by omega) (by rw[h3];omega) (by omega);rw[h2]at this;simpa using this
theorem own_made {w:World}{base m n:Nat}{zs:Array Value}(hb:Blk w m 155 zs)(hm:base≤m)(hz:zs.toList=List.replicate n (.slice none 0 0))(hs:zs.size=n)(hn:n≤8):w.ownsRow base 155 1 (.slice (some ⟨m,0,none⟩) n n) n (List.replicate n (.slice none 0 0)):=
 ⟨by simp,.inr ⟨m,n,zs,rfl,hm,hb,Nat.le_refl _,by unfold maxLen;omega,by omega,by rw[Nat.mul_one,←hz,List.take_of_length_le (by rw[Array.length_toList];omega)]⟩⟩
theorem GpO.made {w:World}{base m n:Nat}{v:Value}{key:List Val}{zs:Array Value}(hr:w.ownsRow base 68 3 v key.length (rowCells key))(hb:Blk w m 155 zs)(hm:base≤m)(hz:zs.toList=List.replicate n (.slice none 0 0))(hs:zs.size=n)(hn:n≤8)(hv:v.ownBlock≠some m):
 GpO (w.alloc (.cells #[v,.int .i64 0,.slice (some ⟨m,0,none⟩) n n] 126)) base w.heap.size ⟨v,key,0,.slice (some ⟨m,0,none⟩) n n,List.replicate n (.slice none 0 0,[])⟩:=by
 have h1:=own_ge hr;have h2:=own_lt hr;have h3:=hb.lt;have hsz:(w.alloc (.cells #[v,.int .i64 0,.slice (some ⟨m,0,none⟩) n n] 126)).heap.size=w.heap.size+1:=World.size_alloc ..;have hq: ∀q∈List.replicate n ((.slice none 0 0,[]):Value×List Tl),q.1.ownBlock=none:=fun q hq=>by rw[List.eq_of_mem_replicate hq];rfl
 refine⟨Blk.new _ _ _,(Sl.of_own hr).below (below_alloc _ _),?_,fun q hq'=> ?_,fun k hk=> ?_,fun e=> ?_,fun e=> ?_,fun q hq' e=> ?_,fun k hk e=> ?_,fun k _ q hq' e=> ?_,fun k _ q hq' e=> ?_,?_⟩
 ·show(w.alloc _).ownsRow base 155 1 (.slice (some ⟨m,0,none⟩) n n) (List.replicate n ((.slice none 0 0,[]):Value×List Tl)).length ((List.replicate n ((.slice none 0 0,[]):Value×List Tl)).map (·.1))
  rw[List.length_replicate,List.map_replicate];exact(own_made hb hm hz hs hn).alloc _
 ·rw[List.eq_of_mem_replicate hq']
  exact⟨rfl,.inl ⟨rfl,rfl⟩⟩
 ·rw[hsz]
  rcases hk with rfl|hk|hk|⟨q,hq',hk⟩
  ·omega
  ·have:=h1 k hk;have:=h2 k hk;omega
  ·have:m=k:=by injection hk
   omega
  ·rw[hq q hq']at hk;cases hk
 ·have:=h2 _ e;omega
 ·have:m=w.heap.size:=by injection e
  omega
 ·rw[hq q hq']at e;cases e
 ·have:m=k:=by injection e
  exact hv (by rw[hk,this])
 ·rw[hq q hq']at e;cases e
 ·rw[hq q hq']at e;cases e
 ·exact List.pairwise_iff_getElem.2 fun i j hi hj _ k hk=>by rw[hq _ (List.getElem_mem hi)]at hk;cases hk
set_option maxHeartbeats 8000000 in
set_option maxRecDepth 100000 in
theorem turn_any (p:Pl)(k:Int)(vr:Value)(r:List Val)(M N:Nat)(X:List (Nat×Gm))(w0 w:World)(h:p.ok w0)(hz:checkP p=0)(hg:p.grouped=true)(hb0:Below w0.heap.size w0 w)(hX:GMap w w0.heap.size M N X)(hG:GoodGs p (gx X))(hN:N≤1000000)(hk:1≤k∧k≤4)(hc:TypedG p r)(hr:Sl w0 vr r.length (rowCells r))(hm:Mx w0):
 Calls Tryz.prog 79 #[.agg #[.int .i64 p.kind,.int .i64 p.mode,.int .i64 p.low,.int .i64 p.high,.int .i64 p.size,.int .i64 p.limit,p.vl,p.vr,p.vk,p.vq,.bool p.grouped,p.vg,p.va],.map (some M),.agg #[.int .i64 k,vr]] w fun e w'=>e= .returned (.int .i64 (turnG p (gx X) (k,r)).2)∧Turned (MBk M X) w w'∧((turnG p (gx X) (k,r)).2=0→ ∃X',Tn w w0.heap.size M X w' (N+1) X'∧gx X'=(turnG p (gx X) (k,r)).1):=by
 have HP:=Lib.hid h;have HR:=Lib.hid hr;obtain⟨k1,k2,k3⟩:=cells_good hz hg hc;obtain⟨f1,f2,f3⟩:=group_few hz hg
 have hgr: ∀c∈p.group,0≤c∧c<(r.length:Nat):=fun c hcm=>by
  have h1:=form_group (check_ok hz).2.2.2.2 c hcm;have h2:=hc.len;unfold allT at h2;omega
 have HCE:=Lib.hid (fun W (hb:Below w0.heap.size w0 W)=>cells_any p vr r W (h.g.below hb) (hr.below hb) hgr (by omega));have HKY:=Lib.hid (fun W v' (hb:Below w0.heap.size w0 W) (hs:Sl W v' (cellsG p r).length (rowCells (cellsG p r)))=>key_any v' (cellsG p r) W hs (fine_good k1) (hm.below hb));have hke:keyR (cellsG p r)=(str (keyRow (cellsG p r)),0):=if_neg (by rw[keyErr_goodG k1];simp);rw[hke]at HKY;have hri:Rises (ax X):=rises_gps (fun _=>0) (fun g hg'=>(hG.each g hg').row) hG.rise (ax_rows X);obtain⟨s1,s2,s3⟩:=place_split hG.rise (fun g hg'=>(hG.each g hg').row) k1;have hTH: ∀g,hasG (gx X) (cellsG p r)=true→(gx X)[placeG (gx X) (cellsG p r)]?=some g→turnG p (gx X) (k,r)=if 0<stepI k∧g.n=1073741824 then([],2)else turnP p r (stepI k) ((gx X).take (placeG (gx X) (cellsG p r))) g ((gx X).drop (placeG (gx X) (cellsG p r)+1)):=fun g h1 h2=>turn_has h1 h2
 have hTN:hasG (gx X) (cellsG p r)=false→turnG p (gx X) (k,r)=if stepI k<0 then([],9)else if(gx X).length=4096 then([],2)else turnP p r (stepI k) ((gx X).take (placeG (gx X) (cellsG p r))) ⟨cellsG p r,0,p.aggs.map fun _=>[]⟩ ((gx X).drop (placeG (gx X) (cellsG p r))):=fun h1=>turn_new h1
 have HLH:=Lib.hid (fun W N' b x X1 X2 (h:GMap W w0.heap.size M N' X) (e:X=X1++(b,x)::X2) (e2:x.r=cellsG p r) (h1: ∀q∈ax X1,rowsF q.1 (cellsG p r)<0)=>look_has h hri e e2 k1 h1);have HLN:=Lib.hid (fun W N' (h:GMap W w0.heap.size M N' X) (h1: ∀q∈ax X,rowsF q.1 (cellsG p r)≠0)=>look_not h hri k1 h1);have HKS:=Lib.hid (keyS k1);generalize str (keyRow (cellsG p r))=s at HKY HLH HLN HKS hke;obtain⟨zs,Q1,Q2,hmk⟩:=bags_make p.aggs.length (by omega);have HZL:=Lib.hid Q1;have HZS:=Lib.hid Q2;obtain⟨A0,c0,h0,n0,m0,-⟩:=id h.l;obtain⟨A1,c1,h1,n1,m1,-⟩:=id h.r;obtain⟨A2,c2,h2,n2,m2,-⟩:=id h.k;obtain⟨A3,c3,h3,n3,m3,-⟩:=id h.q;obtain⟨A4,c4,h4,n4,m4,-⟩:=id h.g;obtain⟨A5,c5,h5,n5,m5,-⟩:=id h.a;obtain⟨Ar,cr,rfl,nr,mr,-⟩:=id hr;unfold maxLen at m5 mr;rw[h0,h1,h2,h3,h4,h5]at HCE⊢;have HVA:Hid (p.va= .slice A5 p.aggs.length c5):=Lib.hid h5;have HW:Hid (Below w.heap.size w ((w.alloc (.cells #[.int .i64 p.kind,.int .i64 p.mode,.int .i64 p.low,.int .i64 p.high,.int .i64 p.size,.int .i64 p.limit,.slice A0 p.left.length c0,.slice A1 p.right.length c1,.slice A2 p.lkeys.length c2,.slice A3 p.rkeys.length c3,.bool p.grouped,.slice A4 p.group.length c4,.slice A5 p.aggs.length c5] 25)).alloc (.cells #[.int .i64 k,.slice Ar r.length cr] 48))):=Lib.hid (below_trans (below_alloc _ _) (below_alloc _ _));have HK0:=Lib.hid ((Blk.new w 25 #[.int .i64 p.kind,.int .i64 p.mode,.int .i64 p.low,.int .i64 p.high,.int .i64 p.size,.int .i64 p.limit,.slice A0 p.left.length c0,.slice A1 p.right.length c1,.slice A2 p.lkeys.length c2,.slice A3 p.rkeys.length c3,.bool p.grouped,.slice A4 p.group.length c4,.slice A5 p.aggs.length c5]).alloc (.cells #[.int .i64 k,.slice Ar r.length cr] 48));have HK1:=Lib.hid (new_second w 48 #[.int .i64 k,.slice Ar r.length cr] (.cells #[.int .i64 p.kind,.int .i64 p.mode,.int .i64 p.low,.int .i64 p.high,.int .i64 p.size,.int .i64 p.limit,.slice A0 p.left.length c0,.slice A1 p.right.length c1,.slice A2 p.lkeys.length c2,.slice A3 p.rkeys.length c3,.bool p.grouped,.slice A4 p.group.length c4,.slice A5 p.aggs.length c5] 25));have HX0:=Lib.hid hX;obtain⟨W2,hW2⟩: ∃V,((w.alloc (.cells #[.int .i64 p.kind,.int .i64 p.mode,.int .i64 p.low,.int .i64 p.high,.int .i64 p.size,.int .i64 p.limit,.slice A0 p.left.length c0,.slice A1 p.right.length c1,.slice A2 p.lkeys.length c2,.slice A3 p.rkeys.length c3,.bool p.grouped,.slice A4 p.group.length c4,.slice A5 p.aggs.length c5] 25)).alloc (.cells #[.int .i64 k,.slice Ar r.length cr] 48))=V:=⟨_,rfl⟩;rw[hW2]at HW HK0 HK1;have hB2:=HW.out;have hbw2:=below_trans hb0 hB2;have HX2:=Lib.hid (Tn.start (HX0.out.below hB2));have z0:=HK0.out.cell 0 _ rfl;have z1:=HK0.out.cell 1 _ rfl;have z2:=HK0.out.cell 2 _ rfl;have z3:=HK0.out.cell 3 _ rfl;have z4:=HK0.out.cell 4 _ rfl;have z5:=HK0.out.cell 5 _ rfl;have z6:=HK0.out.cell 6 _ rfl;have z7:=HK0.out.cell 7 _ rfl;have z8:=HK0.out.cell 8 _ rfl;have z9:=HK0.out.cell 9 _ rfl;have z10:=HK0.out.cell 10 _ rfl;have z11:=HK0.out.cell 11 _ rfl;have z12:=HK0.out.cell 12 _ rfl;have y0:=HK1.out.cell 0 _ rfl;have y1:=HK1.out.cell 1 _ rfl;have HSS:=Lib.hid (fun w' (h:Below W2.heap.size W2 w')=>(let K0:=HK0.out.below h;And.intro (K0.cell 0 _ rfl) (And.intro (K0.cell 1 _ rfl) (And.intro (K0.cell 2 _ rfl) (And.intro (K0.cell 3 _ rfl) (And.intro (K0.cell 4 _ rfl) (And.intro (K0.cell 5 _ rfl) (And.intro (K0.cell 6 _ rfl) (And.intro (K0.cell 7 _ rfl) (And.intro (K0.cell 8 _ rfl) (And.intro (K0.cell 9 _ rfl) (And.intro (K0.cell 10 _ rfl) (And.intro (K0.cell 11 _ rfl) (And.intro (K0.cell 12 _ rfl) ((HK1.out.below h).cell 1 _ rfl)))))))))))))));have HB02:Hid (Below w0.heap.size w0 W2):=Lib.hid hbw2;have HBOX:=Lib.hid (fun W (ht:Turned (MBk M X) W2 W)=>And.intro (blk_turned HK0.out ht (fun h=>by have:=(HX0.out.range h).2;omega)) (blk_turned HK1.out ht (fun h=>by have:=(HX0.out.range h).2;omega)))
 have HNB:Hid (∀(X':List (Nat×Gm)) (W:World) (N':Nat),Tn W2 w0.heap.size M X W N' X'→ ¬MBk M X' (w.heap.size+1)):=Lib.hid (fun X' W N' h hk=>by
  have h1:=HK1.out.lt;have:=(HX0.out.range (h.old _ h1 hk)).2;omega)
 have HBT:=Lib.hid (fun W (ht:Turned (MBk M X) W2 W)=>below_turned HB02.out ht (fun k hk=>(HX0.out.range hk).1));have HAG:=Lib.hid (aggs_at hz hc);have HCG:=Lib.hid hc.good;have HFA:=Lib.hid (form_aggs (check_ok hz).2.2.2.2);have HRL:Hid (r.length=(p.left++p.right).length):=Lib.hid hc.len;have HTN:=Lib.hid hTN;have HTH:=Lib.hid hTH;have HSP:=Lib.hid (And.intro s1 (And.intro s2 s3));have HRI:=Lib.hid hri;have HKG:=Lib.hid k1;have HGG:=Lib.hid hG;have HC:=Lib.hid hc;have HZZ:=Lib.hid hz;obtain⟨n,hn⟩: ∃n,stepI k=n:=⟨_,rfl⟩
 have hq:(k=1∧n=1)∨(k=2∧n= -1)∨(k=3∧n= -1)∨(k=4∧n=1):=by
  have:k=1∨k=2∨k=3∨k=4:=by omega
  rcases this with rfl|rfl|rfl|rfl<;>rw[←hn]<;>decide
 rw[hn]at HTN HTH;have HM:=Lib.hid hm;have HGR:=Lib.hid hg;clear h h0 h1 h2 h3 h4 h5 n0 n1 n2 n3 n4 m0 m1 m2 m3 m4 hX hri s1 s2 s3 k1 k2 k3 hTH hTN hG hc hz hke hgr hm hr hk hg hn Q1 Q2;obtain⟨TG,hTG⟩: ∃TG,turnG p (gx X) (k,r)=TG:=⟨_,rfl⟩;rw[hTG]at HTN HTH⊢;clear hTG;rcases hq with⟨rfl,hn1⟩|⟨rfl,hn1⟩|⟨rfl,hn1⟩|⟨rfl,hn1⟩<;>
 (have HNE:=Lib.hid hn1
  clear hn1;go_enter Tryz.func79,Tryz.ntmps79
  go_upto_region 1 with fail
  try rw[hW2]
  clear hW2
  go_wp2_with fail
  refine Calls.mono (by with_reducible exact HCE.out _ hbw2) ?_;rintro e w3 ⟨v3,rfl,hown3,hb3⟩;have hbw3:=below_trans hbw2 hb3;have HK3:=Lib.hid (fun W (hb:Below w3.heap.size w3 W)=>HKY.out W v3 (below_trans hbw3 hb) ((Sl.of_own hown3).below hb));have HX3:=Lib.hid (HX2.out.below hb3);clear hown3
  go_wp2_with fail
  refine Calls.mono (by with_reducible exact HK3.out _ (Below.refl _ w3)) ?_;rintro e w4 ⟨rfl,hb4⟩;have HB4:=Lib.hid (below_trans hbw3 hb4);have HX4:=Lib.hid (HX3.out.below hb4);have HB24:=Lib.hid (below_trans hb3 hb4);clear HX3 HK3 hb3 hbw3
  ((rcases Bool.eq_false_or_eq_true (hasG (gx X) (cellsG p r))with hh|hh
    case' inl=>
     obtain⟨g,hgi,hgk,hgh⟩:=HSP.out.2.1 hh;have hT:=HTH.out g hh hgi;have hn1:=HNE.out;obtain⟨b,x,hXS,hxg,e1,e2⟩:=splitX hgi;obtain⟨xv,xr,xn,xvb,xbags⟩:=x;have hl1:=HSP.out.1;rw[←e1]at hT hl1;rw[←e2,←hxg]at hT;rw[←hxg]at hgk;generalize X.take (placeG (gx X) (cellsG p r))=X1 at hXS e1 hT hl1;generalize X.drop (placeG (gx X) (cellsG p r)+1)=X2 at hXS e2 hT
     have hax: ∀q∈ax X1,rowsF q.1 (cellsG p r)<0:=fun q hq=>by
      obtain⟨g',hg',e⟩:=ax_gx hq;rw[←e];exact hl1 g' hg'
     have hrun:=HLH.out w4 N b _ X1 X2 HX4.out.map hXS hgk hax;have hO:=HX4.out.map.each _ (by rw[hXS];exact mem_at _ _ _);have d1:=hO.cell.cell 1 _ rfl;have hgood:=HGG.out.each g (List.mem_of_getElem? hgi);rw[←hxg]at hgood;have hn0:=hgood.num;have HBL:Hid (xbags.length=p.aggs.length):=Lib.hid (by have:=hgood.bl;unfold Gm.gp at this;rw[List.length_map]at this;exact this);have HBK:=Lib.hid hgood.bags;have HGX:Hid (xr=cellsG p r):=Lib.hid hgk;have HAX:=Lib.hid hax;unfold Gm.gp at HBK hT hn0;simp only at HBK hT hn0;have hTI:=ite_or hT;clear hT;rcases hTI with⟨hA,hT⟩|⟨hA,hT⟩
     ·first
       |(exfalso;omega)
       |(have hov:=beqT hA.2
         have HE:=Lib.hid hT;clear hn1 hT hA hXS e1 e2 hxg hgi hgk hgh hh hl1 hax hgood hO;go_wp2;go_ret;exact⟨ret_int (by rw[HE.out]),(HX4.out.pre HW.out HX0.out).turned,fun h0=>by rw[HE.out]at h0;exact absurd h0 (by decide)⟩)
     try (have hov:(xn==1073741824)=false:=beqF (fun e=>hA ⟨by omega,e⟩))
     have HE:=Lib.hid hT;have HT:Hid (Tn W2 w0.heap.size M X w4 (N+1) (X1++(b,⟨xv,xr,xn,xvb,xbags⟩)::X2)):=Lib.hid (by rw[←hXS];exact HX4.out.more (Nat.le_succ N));have HRX:=HRI;rw[hXS]at HRX;have HRS:=Lib.hid HRX.out;have HBW:=HB4;have hm0:0≤xn:=by omega
     have hm1:xn≤1073741824:=by omega
     clear hn1 hT hA hXS e1 e2 hxg hgi hgk hgh hh hl1 hax hgood hO HRX hn0
     go_upto_region 14 with fail
     clear hrun d1 HX4 HB4 HB24;generalize w4=w7 at HT HBW⊢
    case' inr=>
     have hT:=HTN.out hh;have hn1:=HNE.out;have hl1:=HSP.out.1;have hl2:=HSP.out.2.2 hh;generalize placeG (gx X) (cellsG p r)=i at hl1 hl2 hT
     have hax: ∀q∈ax X,rowsF q.1 (cellsG p r)≠0:=fun q hq=>by
      obtain⟨g',hg',e⟩:=ax_gx hq;rw[←e];rw[←List.take_append_drop i (gx X)]at hg';rcases List.mem_append.1 hg' with hg'|hg'
      ·have:=hl1 g' hg';omega
      ·have:=hl2 g' hg';omega
     have hrun:=HLN.out w4 N HX4.out.map hax;have hxl:(gx X).length=X.length:=by unfold gx;exact List.length_map ..
     have hlen: ∀ty,(Builtin.len_ #[117] ty #[.map (some M)]).run Tryz.prog w4= .ok (.int .i64 X.length) w4:=fun ty=>by
      obtain⟨m,-,hm⟩:=HX4.out.map.map;have:=hm.len (t:=117) (e:=123) Tryz.underlying117 ty;rw[mkD_size]at this;have e:(ax X).length=X.length:=by unfold ax;exact List.length_map ..
      rw[e]at this;exact this
     have hTI:=ite_or hT;clear hT;rcases hTI with⟨hA,hT⟩|⟨hA,hT⟩
     ·first
       |(exfalso;omega)
       |(have HE:=Lib.hid hT
         clear hn1 hT hA hh hl1 hl2 hax hxl hlen;go_wp2;go_ret;exact⟨ret_int (by rw[HE.out]),(HX4.out.pre HW.out HX0.out).turned,fun h0=>by rw[HE.out]at h0;exact absurd h0 (by decide)⟩)
     first
      |(exfalso;omega)
      |(have hTI:=ite_or hT;clear hT;rcases hTI with⟨hA2,hT⟩|⟨hA2,hT⟩
        ·have hov:((X.length:Int)==4096)=true:=beqT (by omega)
         have HE:=Lib.hid hT;clear hn1 hT hA hA2 hh hl1 hl2 hax hxl;go_wp2;go_ret;exact⟨ret_int (by rw[HE.out]),(HX4.out.pre HW.out HX0.out).turned,fun h0=>by rw[HE.out]at h0;exact absurd h0 (by decide)⟩
        have hov:((X.length:Int)==4096)=false:=beqF (by omega);have HE0:=Lib.hid hT;have HL1:=Lib.hid hl1;have HL2:=Lib.hid hl2;clear hn1 hT hA hA2 hh hl1 hl2 hax hxl
        go_upto_region 12 with fail
        go_cut[10]from 64 to 73 (fun gv wx=> ∃(b:Nat) (v6 vb6:Value) (bags6:List (Value×List Tl)),gv= .pointer (some ⟨b,0,none⟩)∧Hid (GpO wx w4.heap.size b ⟨v6,cellsG p r,0,vb6,bags6⟩)∧Hid (bags6=List.replicate p.aggs.length (.slice none 0 0,[]))∧Below w4.heap.size w4 wx)
        case first=>
         refine tr (S:=(fun w'=>w'.cell? ⟨w.heap.size,0,none⟩=some (.int .i64 p.kind)∧w'.cell? ⟨w.heap.size,1,none⟩=some (.int .i64 p.mode)∧w'.cell? ⟨w.heap.size,2,none⟩=some (.int .i64 p.low)∧w'.cell? ⟨w.heap.size,3,none⟩=some (.int .i64 p.high)∧w'.cell? ⟨w.heap.size,4,none⟩=some (.int .i64 p.size)∧w'.cell? ⟨w.heap.size,5,none⟩=some (.int .i64 p.limit)∧w'.cell? ⟨w.heap.size,6,none⟩=some (.slice A0 p.left.length c0)∧w'.cell? ⟨w.heap.size,7,none⟩=some (.slice A1 p.right.length c1)∧w'.cell? ⟨w.heap.size,8,none⟩=some (.slice A2 p.lkeys.length c2)∧w'.cell? ⟨w.heap.size,9,none⟩=some (.slice A3 p.rkeys.length c3)∧w'.cell? ⟨w.heap.size,10,none⟩=some (.bool p.grouped)∧w'.cell? ⟨w.heap.size,11,none⟩=some (.slice A4 p.group.length c4)∧w'.cell? ⟨w.heap.size,12,none⟩=some (.slice A5 p.aggs.length c5)∧w'.cell? ⟨w.heap.size+1,1,none⟩=some (.slice Ar r.length cr))) (HSS.out _ HB24.out.drew) (fun hHeld=> ?_);refine tk 0 ?_;refine tk 1 ?_;refine tk 2 ?_;refine tk 4 ?_;refine tk 5 ?_;refine tk 6 ?_;refine tc2 3 7 ?_ ?_<;>
         (intro K hK
          go_simp
          first
           |(have hb45:=(below_alloc w4 (.cells zs 155)).drew
             refine hK.out _ _ (HSS.out _ (below_trans HB24.out hb45)) (fun hHeld7=> ?_);clear hK K;refine tc 3 ?_;intro K hK;go_simp;refine Calls.mono (by with_reducible exact HCE.out _ (below_trans HB4.out hb45)) ?_;rintro e w5 ⟨v5,rfl,hown5,hb5⟩;have hb46:=below_trans hb45 hb5;obtain⟨B5,m5,d5,rfl⟩:=own_slice hown5
             go_wp2_with fail
             refine hK.out _ _ (HSS.out _ (below_trans HB24.out hb46)) (fun hHeld3=> ?_);clear hK K;refine tk 8 ?_;refine tc 9 ?_;intro K hK;go_simp;have hb47:=below_trans hb46 (below_alloc w5 (.cells #[.slice B5 m5 d5,.int .i64 0,.slice (some ⟨w4.heap.size,0,none⟩) p.aggs.length p.aggs.length] 126));refine hK.out _ _ (HSS.out _ (below_trans HB24.out hb47)) (fun hHeld9=> ?_);clear hK K;refine tk 10 ?_;refine td ?_;have hge5:=own_ge hown5;rw[World.size_drew,World.size_alloc]at hge5;have HF:=Lib.hid (GpO.made (own_le hown5 (show w4.heap.size≤(w4.alloc (.cells zs 155)).drew.heap.size+1 by rw[World.size_drew,World.size_alloc];omega)) ((Blk.new w4 155 zs).drew.below hb5) (Nat.le_refl w4.heap.size) HZL.out HZS.out (by omega) (fun e=>by have:=hge5 _ e;omega));go_wp2
             go_meet
             exact⟨_,_,_,_,rfl,HF,Lib.hid rfl,hb47⟩)
           |(refine Calls.mono (by with_reducible exact HCE.out _ HB4.out.drew) ?_
             rintro e w5 ⟨v5,rfl,hown5,hb5⟩;have hb45:=below_trans (Below.refl _ w4).drew hb5;obtain⟨B5,m5,d5,rfl⟩:=own_slice hown5
             go_wp2_with fail
             refine hK.out _ _ (HSS.out _ (below_trans HB24.out hb45)) (fun hHeld3=> ?_);clear hK K;refine tc 7 ?_;intro K hK;go_simp;have hb46:=below_trans hb45 (below_alloc w5 (.cells zs 155));refine hK.out _ _ (HSS.out _ (below_trans HB24.out hb46)) (fun hHeld7=> ?_);clear hK K;refine tk 8 ?_;refine tc 9 ?_;intro K hK;go_simp;have hb47:=below_trans hb46 (below_alloc (w5.alloc (.cells zs 155)) (.cells #[.slice B5 m5 d5,.int .i64 0,.slice (some ⟨w5.heap.size,0,none⟩) p.aggs.length p.aggs.length] 126));refine hK.out _ _ (HSS.out _ (below_trans HB24.out hb47)) (fun hHeld9=> ?_);clear hK K;refine tk 10 ?_;refine td ?_;have hlt5:=own_lt hown5;have hsz5:=hb45.size;have hsza:(w5.alloc (.cells zs 155)).heap.size=w5.heap.size+1:=World.size_alloc ..;have HF:=Lib.hid (GpO.made ((own_le hown5 (show w4.heap.size≤w4.drew.heap.size+1 by rw[World.size_drew];omega)).alloc (.cells zs 155)) (Blk.new w5 155 zs) hsz5 HZL.out HZS.out (by omega) (fun e=>by have:=hlt5 _ e;omega));rw[hsza]at HF;clear hsza;go_wp2
             go_meet
             exact⟨_,_,_,_,rfl,HF,Lib.hid rfl,hb47⟩))
        case' rest=>
         obtain⟨b,xv,xvb,xbags,rfl,HG6,HBG6,hb6⟩:=hcut;obtain⟨xr,hxr⟩: ∃y,cellsG p r=y:=⟨_,rfl⟩;obtain⟨xn,hxn⟩: ∃y:Int,0=y:=⟨0,rfl⟩
         have HPA:Hid (∀x':Gm,x'.r=cellsG p r→putA (ax X) (cellsG p r) ((b:Int)+1)=ax (X.take i++(b,x')::X.drop i)):=Lib.hid (fun x' e=>by
          have e1:ax X=ax (X.take i)++ax (X.drop i):=by rw[←ax_app,List.take_append_drop]
          have e2:gx (X.take i)=(gx X).take i:=List.map_take;have e3:gx (X.drop i)=(gx X).drop i:=List.map_drop;rw[ax_mid,e,e1]
          exact put_mid (fun q hq=>by
           obtain⟨g',hg',e⟩:=ax_gx hq;rw[←e];exact HL1.out g' (by rw[←e2];exact hg')) (fun q hq=>by
           obtain⟨g',hg',e⟩:=ax_gx hq;rw[←e];exact HL2.out g' (by rw[←e3];exact hg')))
         have HPT:Hid (∀x':Gm,x'.r=cellsG p r→(mkD (ax X)).put (kOf (cellsG p r)) (.lit (.int .i64 ((b:Int)+1)))=mkD (ax (X.take i++(b,x')::X.drop i))):=Lib.hid (fun x' e=>by rw[mkD_put HRI.out HKG.out,HPA.out x' e]);have HRS:Hid (Rises (ax (X.take i++(b,(⟨xv,xr,xn,xvb,xbags⟩:Gm))::X.drop i))):=Lib.hid (by rw[←HPA.out ⟨xv,xr,xn,xvb,xbags⟩ hxr.symm];exact rises_put HRI.out HKG.out)
         have HAX:Hid (∀q∈ax (X.take i),rowsF q.1 (cellsG p r)<0):=Lib.hid (fun q hq=>by
          obtain⟨g',hg',e⟩:=ax_gx hq;have e2:gx (X.take i)=(gx X).take i:=List.map_take;rw[←e];exact HL1.out g' (by rw[←e2];exact hg'))
         have hbm:xbags.map (·.2)=p.aggs.map fun _=>[]:=by rw[HBG6.out,List.map_replicate,List.map_const']
         have HE:Hid (TG=turnP p r n (gx (X.take i)) ⟨xr,xn,xbags.map (·.2)⟩ (gx (X.drop i))):=Lib.hid (by
          have e2:gx (X.take i)=(gx X).take i:=List.map_take;have e3:gx (X.drop i)=(gx X).drop i:=List.map_drop;rw[e2,e3,hbm,←hxr,←hxn];exact HE0.out)
         have HBL:Hid (xbags.length=p.aggs.length):=Lib.hid (by rw[HBG6.out,List.length_replicate]);have HBK:Hid (∀q∈p.aggs.zip (xbags.map (·.2)),BagOk p q.1 xn q.2):=Lib.hid (by rw[hbm,←hxn];exact(bags_none p).2);have HGX:Hid (xr=cellsG p r):=Lib.hid hxr.symm;have HG7:Hid (GpO wc w4.heap.size b ⟨xv,xr,xn,xvb,xbags⟩):=Lib.hid (by rw[←hxr,←hxn];exact HG6.out);have hm0:0≤xn:=by omega
         have hm1:xn≤1073741824:=by omega
         obtain⟨m,hm,hown⟩:=(HX4.out.below hb6).map.map;have HMM:Hid (m<maxLen):=Lib.hid (by unfold maxLen;omega);have HM1:Hid (m≤N):=Lib.hid hm;have HB6:=Lib.hid hb6;have HB7:=Lib.hid (below_trans HB4.out hb6);clear hrun hlen hov hbm hxr hxn hb6 hm HG6 HBG6
         go_upto_region 14 with(at_mapUpdate;refine wpList_mapUpdate_own _ rfl _ _ _ 117 rfl 9 123 lawS Tryz.underlying117 ptrE M m _ rfl hown HMM.out _ _ _ rfl rfl HKS.out _ [] (ptrE_at b) ?_;intro w7 hown7 hgrow7)
         have HT:Hid (Tn W2 w0.heap.size M X w7 (N+1) (X.take i++(b,⟨xv,xr,xn,xvb,xbags⟩)::X.drop i)):=Lib.hid (by
          have h1:Tn W2 w0.heap.size M X w4 N (X.take i++X.drop i):=by rw[List.take_append_drop];exact HX4.out
          exact h1.put HB6.out HG7.out ⟨m+1,by have:=HM1.out;omega,by rw[←HPT.out ⟨xv,xr,xn,xvb,xbags⟩ HGX.out];exact hown7⟩ hgrow7 HB4.out.size)
         have HBW:Hid (Below w0.heap.size w0 w7):=Lib.hid (HB7.out.grown hgrow7 HB7.out.size (fun j hj=>by cases hj;exact HX0.out.mb));generalize X.take i=X1 at HT HE HAX HRS;generalize X.drop i=X2 at HT HE HRS;clear hown hown7 hgrow7 HG7 HMM HM1 HB6 HB7 HPA HPT HE0 HL1 HL2 HX4 HB4 HB24))<;>
  (clear HTN HTH HSP HLH HLN HKY HCE HSS
   have hO:=HT.out.map.each _ (mem_at _ _ _);obtain⟨g,cap,e1,hgb,hgl⟩:=hO.sl.form (by have:=HBL.out;show 0<xbags.length;omega);simp only at e1;subst e1;have d1:=hO.cell.cell 1 _ rfl;have f1:=hO.cell.free 1;have hw1:IntKind.i64.wrap (xn+n)=xn+n:=by rw[IntKind.wrap_i64];have:=HNE.out;omega
   obtain⟨xm,hxm⟩: ∃y,xn+n=y:=⟨_,rfl⟩;have HXM:=Lib.hid hxm;have hT8:=HT.out.upd ((turned_set w7 ⟨b,1,none⟩ (.int .i64 (xn+n))).imp (fun k _ e=>Or.inl e)) (hO.setN (xn+n)) rfl (fun k hk=> .inl hk);have HT8:Hid (Tn W2 w0.heap.size M X (w7.setCell ⟨b,1,none⟩ (.int .i64 (xn+n))) (N+1) (X1++(b,⟨xv,xr,xm,.slice (some ⟨g,0,none⟩) xbags.length cap,xbags⟩)::X2)):=Lib.hid (by rw[←hxm];exact hT8);have z12:=(HBOX.out _ HT8.out.turned).1.cell 12 _ rfl;rw[HNE.out]at HT8 hw1 z12;have HGL:=Lib.hid hgl;clear hxm hT8 hO hgb hgl
   go_wp2_with fail
   go_loopw[11,12,13,88] (fun _ _ _ iv wr=> ∃(i:Nat) (xb:List (Value×List Tl)),i≤p.aggs.length∧iv= .int .i64 i∧Hid (Tn W2 w0.heap.size M X wr (N+1) (X1++(b,⟨xv,xr,xm,.slice (some ⟨g,0,none⟩) xbags.length cap,xb⟩)::X2))∧Hid (BagSt r n p.aggs (xbags.map (·.2)) (xb.map (·.2)) i)) (fun _ _ _ iv _=>p.aggs.length-(intOf iv).toNat)
   case atStart=>exact⟨0,xbags,by omega,rfl,HT8,Lib.hid (BagSt.start _ _ _ _)⟩
   case round=>
    clear z12 f1 d1;obtain⟨i,xb,hi,rfl,HTi,HBi⟩:=hrel;have HWR:=Lib.hid (HBT.out _ HTi.out.turned);by_cases hlt:i<p.aggs.length
    ·have ha:=List.getElem?_eq_getElem (l:=p.aggs) hlt
     generalize p.aggs[i]=a at ha;obtain⟨g5,o5,hA5,-,hc5⟩:=agg_at HP.out.a HVA.out ha;subst hA5;obtain⟨e0,e1⟩:=hc5 _ HWR.out;obtain⟨af,ac⟩:=a;simp only at e0 e1;have HHA:=Lib.hid ha;have i0:(0:Int)≤(i:Int):=by omega
     have i1:(i:Int)<(p.aggs.length:Int):=by omega
     have HLB:Hid (xb.length=xbags.length):=Lib.hid (by have:=HBi.out.len;rw[List.length_map,List.length_map]at this;exact this);by_cases h1:af=1
     ·have hb1:=beqT h1
      have HTj:=Lib.hid (HTi.out.below (below_alloc wr (.cells #[.int .i64 af,.int .i64 ac] 94)));have HBj:=Lib.hid (HBi.out.same HHA.out (by rw[List.length_map];have:=HLB.out;have:=HBL.out;omega) h1);clear h1 ha hc5
      go_wp2_with fail
      go_roundw
      case rel=>exact⟨i+1,xb,by omega,by go_num,HTj,HBj⟩
      case measure=>simp[intOf];omega
     ·have hb1:=beqF h1
      have hfa:=HFA.out (af,ac) (List.mem_of_getElem? HHA.out) h1;obtain⟨z,hz1,-⟩:=HAG.out (af,ac) (List.mem_of_getElem? HHA.out) h1;simp only at hfa hz1;obtain⟨m,rfl⟩: ∃m:Nat,ac=m:=⟨ac.toNat,by omega⟩;rw[Int.toNat_natCast]at hz1;have hml:m<r.length:=(List.getElem?_eq_some_iff.1 hz1).1;have m0:(0:Int)≤(m:Int):=by omega
      have m1:(m:Int)<(r.length:Int):=by omega
      have HZG:Hid (r.getD ((m:Int)).toNat nullG=z):=Lib.hid (by simp[List.getD,hz1]);have hzr:GoodR [z]:=good_at HCG.out (List.mem_of_getElem? hz1);obtain⟨gr,orr,hAr,-,hcr⟩:=val_at HR.out rfl hz1;subst hAr;obtain⟨zk,zn,zt⟩:=z;have hlb:i<xb.length:=by have:=HLB.out;have:=HBL.out;omega
      have hq:=List.getElem?_eq_getElem (l:=xb) hlb;generalize xb[i]=q at hq;obtain⟨qv,ql⟩:=q;have hqm:(xb.map (·.2))[i]?=some ql:=by rw[List.getElem?_map,hq];rfl
      have hq2:(xbags.map (·.2))[i]?=some ql:=by
       have h2:=congrArg (fun l=>l[0]?) HBi.out.rest;simp only[List.getElem?_drop,Nat.add_zero]at h2;rw[←h2];exact hqm
      have hbk:=HBK.out ((af,(m:Int)),ql) (List.mem_iff_getElem?.2 ⟨i,by rw[List.getElem?_zip_eq_some];exact⟨HHA.out,hq2⟩⟩);rcases hbk with⟨e,-⟩|⟨-,hgt,hsum⟩
      ·exact absurd e h1
      have hgt:GoodT ((allT p).getD ((m:Int)).toNat 0) ql:=hgt;have hsum:sumT ql=xn:=hsum;have hlen2:=sumT_len hgt.vals
      have hle2: ∀x∈ql,-1099511627776≤x.n∧x.n≤1099511627776:=fun x hx=>by
       have h2:=sumT_le hgt.vals hx;have h3:=(hgt.vals x hx).2.2;omega
      have hTd:=HTi.out.below (below_alloc wr (.cells #[.int .i64 af,.int .i64 m] 94)).drew;have hbd:=HBT.out _ hTd.turned;have hO:=hTd.map.each _ (mem_at _ _ _);have hqb:(qv,ql)∈xb:=List.mem_of_getElem? hq;have HSL:Hid (((wr.alloc (.cells #[.int .i64 af,.int .i64 m] 94)).drew).ownsRow w0.heap.size 155 1 (.slice (some ⟨g,0,none⟩) xbags.length cap) xbags.length (xb.map (·.1))):=Lib.hid (by have h2:=hO.sl;simp only at h2;rw[HLB.out]at h2;exact h2);obtain⟨TY,hTY⟩: ∃y,tallyG ql ⟨zk,zn,zt⟩ n=y:=⟨_,rfl⟩;have HADD:=Lib.hid (gadd_any qv ql ⟨zk,zn,zt⟩ n w0.heap.size _ ⟨hO.bag _ hqb⟩ hbd.size (by omega) hgt.up hzr hle2 (by have:=HNE.out;omega));rw[hTY,HNE.out]at HADD;have HTY:=Lib.hid hTY;clear hTY;obtain⟨tl,tok⟩:=TY
      have hF: ∀k,(qv.ownBlock=some k∨k=g)→GBk b (⟨xv,xr,xm,.slice (some ⟨g,0,none⟩) xbags.length cap,xb⟩:Gm) k:=fun k hk=>by
       rcases hk with hk|rfl
       ·exact .inr (.inr (.inr ⟨(qv,ql),hqb,hk⟩))
       ·exact .inr (.inr (.inl rfl))
      have HS6:=Lib.hid (fun V (ht:Turned (fun k=>qv.ownBlock=some k∨k=g) ((wr.alloc (.cells #[.int .i64 af,.int .i64 m] 94)).drew) V)=>And.intro
       ((blk_turned hO.cell ht (fun h=>by
         rcases h with h|h
         ·exact hO.bq _ hqb h
         ·exact hO.bvb (by rw[h];rfl))).cell 2 _ rfl)
       (And.intro ((blk_turned (HBOX.out _ hTd.turned).2 ht (fun h=>HNB.out _ _ _ hTd (.inr ⟨_,mem_at _ _ _,hF _ h⟩))).cell 1 _ rfl)
        (And.intro ((blk_turned (Blk.new wr 94 #[.int .i64 af,.int .i64 m]).drew ht (fun h=>by
         have:=((HTi.out.map.each _ (mem_at _ _ _)).range _ (hF _ h)).2;omega)).cell 1 _ rfl)
         (hcr V (below_turned hbd ht (fun k hk=>(hO.range k (hF k hk)).1))))))
      have HTD:=Lib.hid hTd;have HOO:=Lib.hid hO;have HFF:=Lib.hid hF;have HQB:=Lib.hid hqb;have HQ:=Lib.hid hq;have HQM:=Lib.hid hqm;have HH1:=Lib.hid h1;have i2:(i:Int)<(xbags.length:Int):=by have:=HBL.out;omega
      have HIL:Hid (i<xb.length):=Lib.hid hlb;clear hTd hO hF hqb hq hqm h1 hbd hq2 hgt hsum hlen2 hle2 hz1 hfa hcr hzr ha hc5
      go_upto_region 20 with fail
      refine tr (S:=(fun w'=>w'.cell? ⟨b,2,none⟩=some (.slice (some ⟨g,0,none⟩) xbags.length cap)∧w'.cell? ⟨w.heap.size+1,1,none⟩=some (.slice (some ⟨gr,orr,none⟩) r.length cr)∧w'.cell? ⟨wr.heap.size,1,none⟩=some (.int .i64 m)∧w'.cell? ⟨gr,orr+m*3,none⟩=some (.int .i64 zk)∧w'.cell? ⟨gr,orr+m*3+1,none⟩=some (.int .i64 zn)∧w'.cell? ⟨gr,orr+m*3+2,none⟩=some (.string zt))) (HS6.out _ (Turned.refl _ _)) (fun hHeld=> ?_);refine tk 0 ?_;refine tk 1 ?_;refine tk 2 ?_;refine tk 3 ?_;refine tk 4 ?_;refine tk 5 ?_;refine tk 6 ?_;refine tk 7 ?_;refine tk 8 ?_;refine tk 9 ?_;refine tk 10 ?_;refine tk 12 ?_;refine tk 13 ?_;refine tk 14 ?_;refine tk 15 ?_;refine tk 16 ?_;refine tk 17 ?_;refine tk 18 ?_;refine tc 11 ?_;intro K hK;have dq:=(HSL.out.cellAt i (by have:=HIL.out;have:=HLB.out;omega)).trans (show(xb.map (·.1))[i]?=some qv by rw[List.getElem?_map,HQ.out];rfl);go_simp;refine hK.out _ _ hHeld (fun hHeld11=> ?_);clear hK K dq;refine tc 19 ?_;intro K hK;go_simp;refine Calls.mono (by with_reducible exact HADD.out) ?_;rintro e w6 ⟨uq,rfl,ho6,hg6,hat6⟩;obtain⟨Aq,nq,cq,e6⟩:=own_slice ho6.own;subst e6;have ht6:=(turned_grown hg6).imp (G:=fun k=>qv.ownBlock=some k∨k=g) (fun k _ h=>Or.inl h)
      go_wp2_with fail
      refine hK.out _ _ (HS6.out _ ht6) (fun hHeld19=> ?_);clear hK K;refine tk 20 ?_;refine tk 21 ?_;refine tk 22 ?_;refine tk 23 ?_;refine tc 24 ?_;intro K hK;have hown6:=own_turned HSL.out (turned_grown hg6) (fun k hk e=>HOO.out.vbq k hk _ HQB.out e);have dq:=(hown6.cellAt i (by have:=HIL.out;have:=HLB.out;omega)).trans (show(xb.map (·.1))[i]?=some qv by rw[List.getElem?_map,HQ.out];rfl);have fq:=hown6.frozenAt i;have hset:=HOO.out.setBag (g:=g) (cap:=cap) (u:= .slice Aq nq cq) (l:=tl) (by show Value.slice _ _ _=Value.slice _ xb.length _;rw[HLB.out]) HQ.out hg6 ho6 hat6;have HSET:=Lib.hid hset;have HAT:=Lib.hid hat6;clear hset hown6 hat6 ho6 hg6;go_simp;refine hK.out _ _ (HS6.out _ HSET.out.2) (fun hHeld24=> ?_);clear hK K dq fq ht6;refine tk 25 ?_;refine td ?_
      have HTf:=Lib.hid (HTD.out.upd (HSET.out.2.imp (fun k _ h=>HFF.out k h)) HSET.out.1 rfl (fun k hk=>by
       rcases hk with hk|hk|hk|⟨q',hq',hk⟩
       ·exact .inl (.inl hk)
       ·exact .inl (.inr (.inl hk))
       ·exact .inl (.inr (.inr (.inl hk)))
       ·rcases List.mem_or_eq_of_mem_set hq' with hq'|rfl
        ·exact .inl (.inr (.inr (.inr ⟨q',hq',hk⟩)))
        ·rcases HAT.out k hk with hk|hk
         ·exact .inl (.inr (.inr (.inr ⟨_,HQB.out,hk⟩)))
         ·exact .inr hk))
      clear hHeld hHeld11 hHeld19 hHeld24;cases tok with
      |false=>
       have HE9:Hid (TG=([],9)):=Lib.hid (by
        have h2:=HBi.out.fail HHA.out HQM.out HH1.out (by simp only;rw[HZG.out,HTY.out]);rw[HE.out];unfold turnP;rw[if_neg (by rw[h2];simp)])
       go_wp2;go_ret;exact⟨ret_int (by rw[HE9.out]),(HTf.out.pre HW.out HX0.out).turned,fun h0=>by rw[HE9.out]at h0;exact absurd h0 (by decide)⟩
      |true=>
       have HBj:Hid (BagSt r n p.aggs (xbags.map (·.2)) ((xb.set i (.slice Aq nq cq,tl)).map (·.2)) (i+1)):=Lib.hid (by
        have h2:=HBi.out.done HHA.out HQM.out HH1.out (by simp only;rw[HZG.out,HTY.out]);simp only at h2;rw[HZG.out,HTY.out]at h2;rw[List.map_set];exact h2)
       go_wp2_with fail
       go_roundw
       case rel=>exact⟨i+1,xb.set i (.slice Aq nq cq,tl),by omega,by go_num,HTf,HBj⟩
       case measure=>simp[intOf];omega
    ·obtain rfl:i=p.aggs.length:=by omega
     have HLB:Hid (xb.length=xbags.length):=Lib.hid (by have:=HBi.out.len;rw[List.length_map,List.length_map]at this;exact this);have hen:=HBi.out.end_ (by rw[List.length_map];have:=HLB.out;have:=HBL.out;omega)
     have HE2:Hid (TG=(gx X1++((if xm=0 then[]else[⟨xr,xm,xb.map (·.2)⟩])++gx X2),0)):=Lib.hid (by
      rw[HE.out];unfold turnP;rw[if_pos hen.1,hen.2,←HXM.out])
     have hO:=HTi.out.map.each _ (mem_at _ _ _);have d1:=hO.cell.cell 1 _ rfl;clear hO hen;by_cases hz:xm=0
     ·have hb1:=beqT hz
      have HE3:Hid (TG=(gx X1++gx X2,0)):=Lib.hid (by rw[HE2.out,if_pos hz];rfl);obtain⟨m,hm,hown⟩:=HTi.out.map.map;have HM1:Hid (m≤N+1):=Lib.hid hm
      have HDE:Hid ((mkD (ax (X1++(b,(⟨xv,xr,xm,.slice (some ⟨g,0,none⟩) xbags.length cap,xb⟩:Gm))::X2))).del (kOf (cellsG p r))=mkD (ax (X1++X2))):=Lib.hid (by
       have h1:=HRS.out;rw[ax_mid]at h1;rw[ax_mid,mkD_del h1 HKG.out,ax_app];show mkD (delA (ax X1++(xr,(b:Int)+1)::ax X2) _)=_;rw[HGX.out,del_mid HAX.out (rowsF_self HKG.out)])
      clear hz hm
      go_wp2_with (at_delete;refine wpList_delete_own _ rfl _ _ 117 9 rfl 123 lawS Tryz.underlying117 ptrE M m _ rfl hown _ _ rfl HKS.out ?_;intro w9 hown9 hturn9)
      have HT9:=Lib.hid (HTi.out.drop ⟨m,HM1.out,by rw[←HDE.out];exact hown9⟩ hturn9);clear hown hown9 hturn9;go_wp2;go_ret;exact⟨ret_int (by rw[HE3.out]),(HT9.out.pre HW.out HX0.out).turned,fun _=>⟨_,HT9.out.pre HW.out HX0.out,by rw[HE3.out,gx_app]⟩⟩
     ·have hb1:=beqF hz
      have HE3:Hid (TG=(gx X1++⟨xr,xm,xb.map (·.2)⟩::gx X2,0)):=Lib.hid (by rw[HE2.out,if_neg hz];rfl);clear hz;go_wp2;go_ret;exact⟨ret_int (by rw[HE3.out]),(HTi.out.pre HW.out HX0.out).turned,fun _=>⟨_,HTi.out.pre HW.out HX0.out,by rw[HE3.out,gx_mid];rfl⟩⟩)))
end Go.Proofs.YtjhbeecmdgglgaaGreatDoor
