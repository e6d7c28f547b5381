/-Batches: Group. (Printed by genbat3.py.) -/
import Derived.Test.YtjhbeecmdgglgaaGreatDoorGrpX26
import Derived.Test.YtjhbeecmdgglgaaGreatDoorGrpX12
import Derived.Test.YtjhbeecmdgglgaaGreatDoorGrpX25
import Derived.Test.YtjhbeecmdgglgaaGreatDoorGrpX16
import Derived.Test.YtjhbeecmdgglgaaGreatDoorGrpX18
import Derived.Test.YtjhbeecmdgglgaaGreatDoorGrpX22
set_option linter.unusedSimpArgs false
set_option linter.unusedVariables false
namespace Go.Proofs.YtjhbeecmdgglgaaGreatDoor
open Go.RowKit Go.Maps
def groupE (p:Pl) (l:List Cnt):Int:=if checkP p≠0 then checkP p else if p.grouped=false then 1 else if chkV l≠0 then chkV l else rowsE (allT p) (rsV l)
def px (X:List Prt):PT:=X.map fun q=>(q.r,av q.l)
theorem px_put (X:List Prt)(k:List Val)(v:Value)(c:Cnt):px (putX X k v c)=putP (px X) k (c.r,c.n):=by
 induction X with
 |nil=>rfl
 |cons x t ih=>
  show px (if rowsF x.r k=0 then⟨x.r,v,x.l++[c]⟩::t else if rowsF x.r k<0 then x::putX t k v c else⟨k,v,[c]⟩::x::t)=(if rowsF x.r k=0 then(x.r,av x.l++[(c.r,c.n)])::px t else if rowsF x.r k<0 then(x.r,av x.l)::putP (px t) k (c.r,c.n)else(k,[(c.r,c.n)])::(x.r,av x.l)::px t);by_cases h1:rowsF x.r k=0
  ·rw[if_pos h1,if_pos h1]
   show(x.r,av (x.l++[c]))::px t=_;unfold av;rw[List.map_append];rfl
  ·rw[if_neg h1,if_neg h1]
   by_cases h2:rowsF x.r k<0
   ·rw[if_pos h2,if_pos h2,←ih];rfl
   ·rw[if_neg h2,if_neg h2];rfl
theorem parts_step {p:Pl}{l:List Cnt}{k:Nat}{x:Cnt}(h:l[k]?=some x):partsP p (av (l.take (k+1)))=putP (partsP p (av (l.take k))) (cellsG p x.r) (x.r,x.n):=by
 unfold partsP av;rw[List.take_add_one,h,List.map_append,List.foldl_append];rfl
theorem bfigure_any (fn col:Int)(v:Value)(l:List Cnt)(w:World)(hv:View w v l)(hne:1≤l.length)(hfn:1≤fn∧fn≤4)(hc:fn≠1→ ∀x∈l,0≤col∧col<x.r.length):
 Calls Tryz.prog 57 #[.agg #[.int .i64 fn,.int .i64 col],v] w fun e w'=>e= .returned (.agg #[.int .i64 (figF fn (colC col l)).k,.int .i64 (figF fn (colC col l)).n,.string (figF fn (colC col l)).s])∧Below w.heap.size w w':=by
 by_cases h1:fn=1
 ·subst h1;exact bfigure_one col v l w hv hne
 ·exact bfigure_more fn col v l w hv (by omega) (hc h1)
theorem figs_step {p:Pl}{l:List Cnt}{j:Nat}{a:Int×Int}(h:p.aggs[j]?=some a):(figsP p (av l)).take (j+1)=(figsP p (av l)).take j++[figF a.1 (colC a.2 l)]:=by
 unfold figsP;rw[List.take_add_one,List.getElem?_map,h];show _++[figF a.1 ((av l).map fun c=>(c.1.getD a.2.toNat nullG,c.2))]=_;unfold av colC;rw[List.map_map];rfl
theorem perm_of_keys {ks X:List Prt}(hk: ∀q∈ks,q∈X)(hs:Rises (axP X))(hp:(ks.map fun q=>keyRow q.r).Perm (X.map fun q=>keyRow q.r)):ks.Perm X:=by
 have hgood: ∀q∈X,GoodR q.r:=fun q hq=>hs.good (q.r,codeV q.v) (List.mem_map.2 ⟨q,hq,rfl⟩)
 have hpw:X.Pairwise fun a b=>rowsF a.r b.r<0:=by
  have:=hs.rise;unfold axP at this;rw[List.pairwise_map]at this;exact this
 have inj: ∀q∈X,∀q'∈X,keyRow q.r=keyRow q'.r→q=q':=by
  intro q hq q' hq' e
  have e2:rowsF q.r q'.r=0:=by
   have:=kOf_same (hgood q hq) (hgood q' hq');have h2:(kOf q.r).sameKey (kOf q'.r)=true:=by show(keyRow q.r==keyRow q'.r)=true;rw[e];simp
   rw[h2]at this;exact of_decide_eq_true this.symm
  have e3:rowsF q'.r q.r=0:=by rw[rowsF_flip (hgood q hq) (hgood q' hq'),e2];rfl
  obtain⟨i,hi,rfl⟩:=List.mem_iff_getElem.1 hq;obtain⟨j,hj,rfl⟩:=List.mem_iff_getElem.1 hq';rcases Nat.lt_trichotomy i j with h|h|h
  ·have:=List.pairwise_iff_getElem.1 hpw i j hi hj h;omega
  ·subst h;rfl
  ·have:=List.pairwise_iff_getElem.1 hpw j i hj hi h;omega
 have hg: ∃g:List UInt8→Prt,∀q∈X,g (keyRow q.r)=q:=by
  refine⟨fun s=>(X.find? fun q=>keyRow q.r==s).getD ⟨[],.slice none 0 0,[]⟩,fun q hq=> ?_⟩;show(X.find? fun q'=>keyRow q'.r==keyRow q.r).getD ⟨[],.slice none 0 0,[]⟩=q;cases hf:X.find? (fun q'=>keyRow q'.r==keyRow q.r)with
  |none=>have:=List.find?_eq_none.1 hf q hq;simp at this
  |some q'=>exact(inj q' (List.mem_of_find?_eq_some hf) q hq (by have:=List.find?_some hf;simpa using this))
 obtain⟨g,hg⟩:=hg
 have e1:ks=(ks.map fun q=>keyRow q.r).map g:=by
  rw[List.map_map];exact(List.map_id ks).symm.trans (List.map_congr_left fun q hq=>(hg q (hk q hq)).symm)
 have e2:X=(X.map fun q=>keyRow q.r).map g:=by
  rw[List.map_map];exact(List.map_id X).symm.trans (List.map_congr_left fun q hq=>(hg q hq).symm)
 rw[e1,e2];exact hp.map g
structure TypedL (p:Pl) (l:List Cnt):Prop where
 plan:checkP p=0
 grp:p.grouped=true
 view:GoodA (av l)
 typed: ∀x∈l,TypedG p x.r
theorem groupE_zero {p:Pl}{l:List Cnt}(hf:FineV l)(h:groupE p l=0):TypedL p l:=by
 unfold groupE at h;by_cases h1:checkP p=0
 ·rw[if_neg (fun e=>e h1)]at h
  by_cases h2:p.grouped=false
  ·rw[if_pos h2]at h;omega
  ·rw[if_neg h2]at h
   by_cases h3:chkV l=0
   ·rw[if_neg (fun e=>e h3)]at h
    have hv:=(chk_zero hf h3).a;refine⟨h1,by simpa using h2,hv,fun x hx=> ?_⟩;unfold rowsE at h;by_cases h4:longB (allT p).length (rsV l)=false
    ·rw[if_pos h4]at h;omega
    ·rw[if_neg h4]at h
     by_cases h5:typB (allT p) (rsV l)=false
     ·rw[if_pos h5]at h;omega
     ·have h4:longB (allT p).length (rsV l)=true:=by simpa using h4
      have h5:typB (allT p) (rsV l)=true:=by simpa using h5
      unfold longB at h4;unfold typB at h5;rw[List.all_eq_true]at h4 h5;have hm:x.r∈rsV l:=List.mem_map.2 ⟨x,hx,rfl⟩;exact⟨hv.rises.good (x.r,x.n) (List.mem_map.2 ⟨x,hx,rfl⟩),by simpa using h4 x.r hm,h5 x.r hm⟩
   ·rw[if_pos h3]at h;exact absurd h h3
 ·rw[if_pos h1]at h;exact absurd h h1
set_option maxHeartbeats 8000000 in
set_option maxRecDepth 10000 in
theorem bgroup_any (p:Pl)(v:Value)(l:List Cnt)(w:World)(h:p.ok w)(hf:p.fit)(hV:View w v l)(hfv:FineV l)(hm:Mx w):
 Calls Tryz.prog 15 #[.agg #[.int .i64 p.kind,.int .i64 p.mode,.int .i64 p.low,.int .i64 p.high,.int .i64 p.size,.int .i64 p.limit,p.vl,p.vr,p.vk,p.vq,.bool p.grouped,p.vg,p.va],v] w fun e w'=> ∃v' l',e= .returned (.tuple #[v',.int .i64 (groupE p l)])∧View w' v' l'∧av l'=(if groupE p l=0 then groupV p (av l)else[])∧Below w.heap.size w w':=by
 have HP:=Lib.hid h;have HV:=Lib.hid hV;have HFV:=Lib.hid hfv;have HM:=Lib.hid hm;have HCK:=Lib.hid (fun W (hb:Below w.heap.size w W)=>check_any p W (h.below hb) hf);have HCV:=Lib.hid (fun W (hb:Below w.heap.size w W)=>checkView_any v l W (hV.below hb) hfv (hm.below hb));have HRW:=Lib.hid (fun W (hb:Below w.heap.size w W) (hz:checkP p=0)=>brows_any p v l W (h.below hb) hz (hV.below hb));have HZ:=Lib.hid (groupE_zero (p:=p) hfv);have HEE:Hid (groupE p l=if checkP p≠0 then checkP p else if p.grouped=false then 1 else if chkV l≠0 then chkV l else rowsE (allT p) (rsV l)):=Lib.hid rfl;obtain⟨RR,hRR⟩: ∃y,(if groupE p l=0 then groupV p (av l)else[])=y:=⟨_,rfl⟩;rw[hRR];have HR:=Lib.hid hRR.symm;clear hRR;generalize groupE p l=E at HEE HR HZ⊢;obtain⟨A0,c0,h0,n0,m0,-⟩:=id h.l;obtain⟨A1,c1,h1,n1,m1,-⟩:=id h.r;obtain⟨A2,c2,h2,n2,m2,-⟩:=id h.k;obtain⟨A3,c3,h3,n3,m3,-⟩:=id h.q;obtain⟨A4,c4,h4,n4,m4,-⟩:=id h.g;obtain⟨A5,c5,h5,n5,m5,-⟩:=id h.a;obtain⟨Av,cv,rfl,nv,mv,-⟩:=id hV.sl;unfold maxLen at mv m4 m5;have HSG:=Lib.hid h.g;have HSA:=Lib.hid h.a;rw[h4]at HSG;rw[h5]at HSA;rw[h0,h1,h2,h3,h4,h5]at HCK HRW⊢;have HB:=Lib.hid (below_alloc w (.cells #[.int .i64 p.kind,.int .i64 p.mode,.int .i64 p.low,.int .i64 p.high,.int .i64 p.size,.int .i64 p.limit,.slice A0 p.left.length c0,.slice A1 p.right.length c1,.slice A2 p.lkeys.length c2,.slice A3 p.rkeys.length c3,.bool p.grouped,.slice A4 p.group.length c4,.slice A5 p.aggs.length c5] 25));have HK0:=Lib.hid (Blk.new w 25 #[.int .i64 p.kind,.int .i64 p.mode,.int .i64 p.low,.int .i64 p.high,.int .i64 p.size,.int .i64 p.limit,.slice A0 p.left.length c0,.slice A1 p.right.length c1,.slice A2 p.lkeys.length c2,.slice A3 p.rkeys.length c3,.bool p.grouped,.slice A4 p.group.length c4,.slice A5 p.aggs.length c5]);obtain⟨W1,hW1⟩: ∃V,w.alloc (.cells #[.int .i64 p.kind,.int .i64 p.mode,.int .i64 p.low,.int .i64 p.high,.int .i64 p.size,.int .i64 p.limit,.slice A0 p.left.length c0,.slice A1 p.right.length c1,.slice A2 p.lkeys.length c2,.slice A3 p.rkeys.length c3,.bool p.grouped,.slice A4 p.group.length c4,.slice A5 p.aggs.length c5] 25)=V:=⟨_,rfl⟩;rw[hW1]at HB HK0;have hb1:=HB.out;clear h h0 h1 h2 h3 h4 h5 n0 n1 n2 n3 n4 n5 m0 m1 m2 m3 hV hfv hm;obtain⟨E1,hE1⟩: ∃y,checkP p=y:=⟨_,rfl⟩;obtain⟨E2,hE2⟩: ∃y,chkV l=y:=⟨_,rfl⟩;obtain⟨E3,hE3⟩: ∃y,rowsE (allT p) (rsV l)=y:=⟨_,rfl⟩;rw[hE1]at HCK HEE HRW;rw[hE2]at HCV HEE;rw[hE3]at HRW HEE;clear hE1 hE2 hE3;have hyW:Below W1.heap.size W1 W1:=Below.refl _ _;obtain⟨z0,z1,z2,z3,z4,z5,z6,z7,z8,z9,z10,z11,z12⟩:=pl_cells (HK0.out.below (hyW));go_enter Tryz.func15,Tryz.ntmps15
 go_wp2_with fail
 refine Calls.mono (by with_reducible exact HCK.out _ hb1) ?_;rintro e w2 ⟨rfl,hb2⟩;have hbw2:=below_trans hb1 hb2;have hy2:=hb2;clear z0 z1 z2 z3 z4 z5 z6 z7 z8 z9 z10 z11 z12;by_cases hq1:E1=0
 case neg=>
  have q1:=bneT hq1;have HE:Hid (E=E1):=Lib.hid (by rw[HEE.out,if_pos hq1]);have HNZ:=Lib.hid hq1;clear hq1;go_wp2
  go_ret2
  exact⟨_,[],by rw[HE.out];rfl,⟨Sl.nil_ _,nofun⟩,by rw[HR.out,HE.out,if_neg (by exact HNZ.out)];rfl,hbw2⟩
 have q1:=bneF hq1;have HQ1:=Lib.hid hq1;clear hq1;obtain⟨z0,z1,z2,z3,z4,z5,z6,z7,z8,z9,z10,z11,z12⟩:=pl_cells (HK0.out.below (hy2));cases hgr:p.grouped with
 |false=>
  rw[hgr]at z10;have HE:Hid (E=1):=Lib.hid (by rw[HEE.out,if_neg (fun h=>h HQ1.out),if_pos hgr]);have HNZ:Hid (¬(1:Int)=0):=Lib.hid (by decide);go_wp2
  go_ret2
  exact⟨_,[],by rw[HE.out];rfl,⟨Sl.nil_ _,nofun⟩,by rw[HR.out,HE.out,if_neg (by exact HNZ.out)];rfl,hbw2⟩
 |true=>
 rw[hgr]at z10;have HGR:=Lib.hid hgr;clear hgr
 go_wp2_with fail
 refine Calls.mono (by with_reducible exact HCV.out _ hbw2) ?_;rintro e w3 ⟨rfl,hb3⟩;have hbw3:=below_trans hbw2 hb3;have hy3:=below_trans hy2 hb3;clear z0 z1 z2 z3 z4 z5 z6 z7 z8 z9 z10 z11 z12;by_cases hq2:E2=0
 case neg=>
  have q2:=bneT hq2;have HE:Hid (E=E2):=Lib.hid (by rw[HEE.out,if_neg (fun h=>h HQ1.out),if_neg (by rw[HGR.out];simp),if_pos hq2]);have HNZ:=Lib.hid hq2;clear hq2;go_wp2
  go_ret2
  exact⟨_,[],by rw[HE.out];rfl,⟨Sl.nil_ _,nofun⟩,by rw[HR.out,HE.out,if_neg (by exact HNZ.out)];rfl,hbw3⟩
 have q2:=bneF hq2;have HQ2:=Lib.hid hq2;clear hq2;obtain⟨z0,z1,z2,z3,z4,z5,z6,z7,z8,z9,z10,z11,z12⟩:=pl_cells (HK0.out.below (hy3))
 go_wp2_with fail
 refine Calls.mono (by with_reducible exact HRW.out _ hbw3 HQ1.out) ?_;rintro e w4 ⟨rfl,hb4⟩;have hbw4:=below_trans hbw3 hb4;have hy4:=below_trans hy3 hb4;clear z0 z1 z2 z3 z4 z5 z6 z7 z8 z9 z10 z11 z12;have HE:Hid (E=E3):=Lib.hid (by rw[HEE.out,if_neg (fun h=>h HQ1.out),if_neg (by rw[HGR.out];simp),if_neg (fun h=>h HQ2.out)]);by_cases hq3:E3=0
 case neg=>
  have q3:=bneT hq3;have HNZ:=Lib.hid hq3;clear hq3;go_wp2
  go_ret2
  exact⟨_,[],by rw[HE.out];rfl,⟨Sl.nil_ _,nofun⟩,by rw[HR.out,HE.out,if_neg (by exact HNZ.out)];rfl,hbw4⟩
 have q3:=bneF hq3;have HTY:=Lib.hid (HZ.out (HE.out.trans hq3));have HEV:Hid (RR=groupV p (av l)):=Lib.hid (by rw[HR.out,if_pos (HE.out.trans hq3)]);have HE0:Hid (E3=0):=Lib.hid hq3;clear hq3 HZ HEE HR HCK HCV HRW hbw2 hbw3 hy2 hy3 hb2 hb3 hb4;have hmm:= @run_makeMap Tryz.prog;have HPM:=Lib.hid (PMap.made w4 W1.heap.size hy4.size);have hy5:=hy4.alloc hy4.size (.map #[] 0);obtain⟨M,hM⟩: ∃y,w4.heap.size=y:=⟨_,rfl⟩;rw[hM]at HPM;obtain⟨w5,hw5⟩: ∃V,w4.alloc (.map #[] 0)=V:=⟨_,rfl⟩;rw[hw5]at HPM hy5
 go_upto_region 13 with fail
 clear hw5 hM hmm;have HLG:=Lib.hid HTY.out.view.few;have hlen:l.length≤4096:=by have:=HLG.out;unfold av at this;rwa[List.length_map]at this
 have HB1:=Lib.hid hb1;clear hb1 hbw4 hy4
 go_wp2_with fail
 go_loopw[11,12,14,15,16,49] (fun _ _ _ _ _ iv wr=> ∃(k:Nat) (X:List Prt),k≤l.length∧iv= .int .i64 k∧Hid (PMap wr W1.heap.size M k X)∧Hid (px X=partsP p (av (l.take k)))∧Hid (∀q∈X,∀c∈q.l,c∈l)∧Below W1.heap.size W1 wr) (fun _ _ _ _ _ iv _=>l.length-(intOf iv).toNat)
 case atStart=>exact⟨0,[],by omega,rfl,HPM,Lib.hid rfl,Lib.hid nofun,hy5⟩
 case round=>
  clear HPM hy5;rename World=>wr
  obtain⟨k,X,hk,rfl,HX,HPX,HMM,hyr⟩:=hrel;have hbr:=below_trans HB1.out hyr;by_cases hlt:k<l.length
  ·have hx:=List.getElem?_eq_getElem (l:=l) hlt
   generalize l[k]=x at hx;have hxm:=List.mem_of_getElem? hx;obtain⟨Ax,cx,ex,nx,mx,-⟩:=id (HV.out.rows x hxm);obtain⟨xv,xr,xn⟩:=x;simp only at ex nx;subst ex;obtain⟨x,hxe⟩: ∃x,x=(⟨.slice Ax xr.length cx,xr,xn⟩:Cnt):=⟨_,rfl⟩;have hxr:xr=x.r:=by rw[hxe]
   have hxn:xn=x.n:=by rw[hxe]
   have hxv:x.v= .slice Ax x.r.length cx:=by rw[hxe]
   rw[←hxe]at hx hxm;clear hxe;subst hxr hxn;obtain⟨bv,ov,hAv,-,hcb⟩:=cnt_at HV.out.sl rfl hx;subst hAv;obtain⟨d0,d1⟩:=hcb _ hbr;have HXM:=Lib.hid hxm;have hty:=HTY.out.typed x hxm;have HTX:=Lib.hid hty;obtain⟨cg1,cg2,-⟩:=cells_good HTY.out.plan HGR.out hty;have HCG:=Lib.hid cg1
   have hgc: ∀c∈p.group,0≤c∧c<(x.r.length:Nat):=fun c hc=>by
    have a1:=form_group (check_ok HTY.out.plan).2.2.2.2 c hc;have a2:=hty.len;unfold allT at a2;omega
   have HGC:=Lib.hid hgc;have HXR:=Lib.hid (HV.out.rows x hxm);rw[hxv]at d0 HXR;have HXV:=Lib.hid hxv;clear hxv;have HSTP:=Lib.hid (parts_step (p:=p) hx);have HKA:=Lib.hid (fun(W:World) v (hs:Sl W v (cellsG p x.r).length (rowCells (cellsG p x.r))) (hmx:Mx W)=>key_any v (cellsG p x.r) W hs (fine_good cg1) hmx);have hke:keyR (cellsG p x.r)=(str (keyRow (cellsG p x.r)),0):=if_neg (by rw[keyErr_goodG cg1];simp);rw[hke]at HKA;have k0:(0:Int)≤(k:Int):=by omega
   have k1:(k:Int)<(l.length:Int):=by omega
   have hyc:=hyr.alloc hyr.size (.cells #[.slice Ax x.r.length cx,.int .i64 x.n] 45);have HKC:=Lib.hid (Blk.new wr 45 #[.slice Ax x.r.length cx,.int .i64 x.n]);have HBC:=Lib.hid (below_alloc wr (.cells #[.slice Ax x.r.length cx,.int .i64 x.n] 45));obtain⟨wc,hwc⟩: ∃V,wr.alloc (.cells #[.slice Ax x.r.length cx,.int .i64 x.n] 45)=V:=⟨_,rfl⟩;rw[hwc]at hyc HKC HBC;have HYC:=Lib.hid hyc;have zg:=(HK0.out.below hyc).cell 11 _ rfl;have h8:=(group_few HTY.out.plan HGR.out).1;clear hx hcb hxm hty cg1 cg2 hgc hke
   go_upto_region 17 with fail
   clear hwc
   go_wp2_with fail
   go_loopw[12,14,56] (fun ov _ iv wr2=> ∃j:Nat,j≤p.group.length∧iv= .int .i64 j∧Hid (wr2.ownsRow wc.heap.size 68 3 ov j (rowCells (cellsL (p.group.take j) x.r)))∧Below wc.heap.size wc wr2) (fun _ _ iv _=>p.group.length-(intOf iv).toNat)
   case atStart=>exact⟨0,by omega,rfl,Lib.hid ⟨rfl,.inl ⟨rfl,rfl⟩⟩,Below.refl _ _⟩
   case round=>
    clear hbr hyr d0 d1 zg hyc;rename World=>wr2
    obtain⟨j,hj,rfl,HO,hb2⟩:=hrel;have hy2:=HYC.out.trans (hb2.mono HYC.out.size);have hbr:=below_trans HB1.out hy2;have HK2:=HKC.out.below hb2;have c0':=HK2.cell 0 _ rfl;have zg:=(HK0.out.below hy2).cell 11 _ rfl;by_cases hjl:j<p.group.length
    ·obtain⟨bg,og,hAg,-,hcg⟩:=int_at HSG.out rfl hjl
     subst hAg;have e1:=hcg _ hbr;have gk:p.group[j]?=some (p.group.getD j 0):=by simp[hjl]
     generalize p.group.getD j 0=c at e1 gk;have rx:=HGC.out c (List.mem_of_getElem? gk);obtain⟨m,rfl⟩: ∃m:Nat,c=m:=⟨c.toNat,by omega⟩;have hml:m<x.r.length:=by omega
     have hz:=List.getElem?_eq_getElem (l:=x.r) hml;generalize x.r[m]=z at hz;have hst:cellsL (p.group.take (j+1)) x.r=cellsL (p.group.take j) x.r++[x.r.getD ((m:Int)).toNat nullG]:=map_step (f:=fun c:Int=>x.r.getD c.toNat nullG) gk;have hmn:x.r.getD ((m:Int)).toNat nullG=z:=by simp[List.getD,hz]
     rw[hmn]at hst;have HST:=Lib.hid hst;obtain⟨bz,oz,hAz,-,hcz⟩:=val_at HXR.out rfl hz;subst hAz;obtain⟨g0,g1,g2⟩:=hcz _ hbr;obtain⟨zk,zn,zs⟩:=z;simp only at g0 g1 g2 HST;have HO1:=Lib.hid (HO.out.alloc (.cells #[.int .i64 zk,.int .i64 zn,.string zs] 68));have HV1:=Lib.hid (Sl.block (Blk.new wr2 68 #[.int .i64 zk,.int .i64 zn,.string zs]) 1 1 (Nat.le_refl _) (by decide));have HB2:=Lib.hid (hb2.alloc hb2.size (.cells #[.int .i64 zk,.int .i64 zn,.string zs] 68));have HGE:=Lib.hid (own_ge HO.out);have m0':(0:Int)≤(m:Int):=by omega
     have m1':(m:Int)<(x.r.length:Int):=by omega
     have j0':(0:Int)≤(j:Int):=by omega
     have j1':(j:Int)<(p.group.length:Int):=by omega
     clear hst hmn hz hcz hcg gk rx HK2
     go_wp2_with (at_builtin;refine wpList_app rfl (.tmp 60) (.tmp 66) 43 rfl wc.heap.size 68 3 32 Tryz.underlying43 valJ _ j _ rfl HO1.out _ 1 [.int .i64 zk,.int .i64 zn,.string zs] rfl HV1.out rfl (by simp[Value.oneCell']) ?_ ?_ ?_ ?_)
     ·unfold maxLen;omega
     ·omega
     ·have:=HB2.out.size;rw[World.size_alloc]at this;exact this
     ·intro v3 w3 hown3 hg3 hat3
      have hb3:=below_grown HB2.out hg3 (fun i hi=>HGE.out i hi)
      have H3:Hid (w3.ownsRow wc.heap.size 68 3 v3 (j+1) (rowCells (cellsL (p.group.take (j+1)) x.r))):=Lib.hid (by
       rw[HST.out,rcApp,rowCells_one1];exact hown3)
      clear hown3 hg3 hat3;go_wp2;go_roundw
      case rel=>exact⟨j+1,by omega,by go_num,H3,hb3⟩
      case measure=>simp[intOf];omega
    ·obtain rfl:j=p.group.length:=by omega
     rw[List.take_length]at HO;have hlg:(cellsG p x.r).length=p.group.length:=by unfold cellsG;exact List.length_map _
     have HKB:=Lib.hid (HKA.out wr2 _ (show Sl wr2 _ (cellsG p x.r).length (rowCells (cellsG p x.r))from by rw[hlg];exact Sl.of_own HO.out) (HM.out.below hbr));obtain⟨Bo,no,co,hov⟩:=own_slice HO.out;subst hov;clear HO hlg
     go_wp2_with fail
     refine Calls.mono (by with_reducible exact HKB.out) ?_;rintro e w6 ⟨rfl,hb6⟩;have hb26:=below_trans hb2 hb6;have hw6:=below_trans HBC.out hb26;have HX6:=Lib.hid (HX.out.below hw6);have hlook:=HX6.out.look HCG.out (by omega);have hfound:=HX6.out.found HCG.out;have HKS:=Lib.hid (keyS HCG.out);have HK6:=HKC.out.below hb26;have y0:=HK6.cell 0 _ rfl;have y1:=HK6.cell 1 _ rfl;have hy6:=hy2.trans (hb6.mono hy2.size);have hlk2: ∀W,Below w6.heap.size w6 W→PMap W W1.heap.size M k X:=fun W hb=>HX6.out.below hb;obtain⟨LP,hLP⟩: ∃y,lookP X (cellsG p x.r)=y:=⟨_,rfl⟩;rw[hLP]at hlook hfound;have HLP:=Lib.hid hLP;obtain⟨LV,LL⟩:=LP;simp only at hlook hfound;obtain⟨fo,fl,fM⟩:=hfound;obtain⟨A9,n9,c9,rfl⟩:=own_slice fo;generalize str (keyRow (cellsG p x.r))=ky at hlook HKS;have HFO:=Lib.hid (fo.alloc (.cells #[.slice Ax x.r.length cx,.int .i64 x.n] 45));have HCN:=Lib.hid (one_cnt w6 ⟨.slice Ax x.r.length cx,x.r,x.n⟩);have hbA:=below_alloc w6 (.cells #[.slice Ax x.r.length cx,.int .i64 x.n] 45);have HBA:=Lib.hid hbA;have HFL:=Lib.hid fl;have HY6:=Lib.hid hy6;clear hLP HKB hb6 HK6 fo hlk2 hbr hb2 hw6 c0' zg hbA
     go_wp2_with (first
      |(at_builtin;refine wpList_app rfl (.tmp 78) (.tmp 80) 27 rfl W1.heap.size 45 2 32 Tryz.underlying27 cntI _ LL.length _ rfl HFO.out _ 1 (Cnt.cells ⟨.slice Ax x.r.length cx,x.r,x.n⟩) rfl HCN.out rfl (by simp[Cnt.cells,Value.oneCell']) ?_ ?_ ?_ ?_)
      |go_in)
     ·unfold maxLen;have:=HFL.out;omega
     ·have:=HFL.out;omega
     ·have:=HY6.out.size;simp;omega
     ·intro v7 w7 hown7 hg7 hat7
      obtain⟨nm,hnm,hm6⟩:=(HX6.out.below HBA.out).map;have hm7:=map_turned hm6 (turned_grown hg7) (fun e=>fM e);have HN:Hid (nm<maxLen):=Lib.hid (by unfold maxLen;omega);have HO7:=Lib.hid hown7;have HG7:=Lib.hid hg7;have HT7:=Lib.hid hat7;have HSE:=Lib.hid (slcE_own hown7 (by unfold maxLen;have:=HFL.out;omega));clear hm6 hown7 hg7 hat7
      go_wp2_with (at_mapUpdate;refine wpList_mapUpdate_own _ rfl _ _ _ 88 rfl 9 27 lawS Tryz.underlying88 slcE M nm _ rfl hm7 HN.out _ _ _ rfl rfl HKS.out _ [] HSE.out ?_;intro w8 hown8 hg8)
      have HPUT:=Lib.hid (HX6.out.put (c:=x) (v':=v7) (w1:=w6.alloc (.cells #[.slice Ax x.r.length cx,.int .i64 x.n] 45)) (w2:=w7) (w3:=w8) HCG.out HBA.out
       (by rw[HLP.out,cntCells_app];have:=HO7.out;rw[show cntCells [x]=Cnt.cells ⟨.slice Ax x.r.length cx,x.r,x.n⟩from by simp[cntCells,Cnt.cells,HXV.out]];exact this)
       (by rw[HLP.out];exact HG7.out) (by rw[HLP.out];rcases HT7.out with e|e;exact .inl e;exact .inr (fun j hj=>by rw[e]at hj;injection hj with hj;rw[World.size_alloc];omega))
       (fun _ _ _=>⟨nm+1,by omega,by have:=hown8;rw[mkD_put HX6.out.rises HCG.out]at this;exact this⟩) hg8)
      have HMN:Hid (∀q∈putX X (cellsG p x.r) v7 x,∀c∈q.l,c∈l):=Lib.hid (fun q hq c hc=>by
       rcases putX_mem HX6.out.rises HCG.out hq with⟨-,e,-⟩|⟨hq,-⟩
       ·rw[e,HLP.out]at hc
        rcases List.mem_append.1 hc with hc|hc
        ·rcases lookP_mem HX6.out.rises HCG.out with⟨e1,-⟩|⟨q',hq',-,e3⟩
         ·rw[HLP.out]at e1
          have:LL=[]:=congrArg Prod.snd e1;rw[this]at hc;cases hc
         ·rw[HLP.out]at e3
          have:LL=q'.l:=congrArg Prod.snd e3;rw[this]at hc;exact HMM.out q' hq' c hc
        ·rw[List.mem_singleton.1 hc];exact HXM.out
       ·exact HMM.out q hq c hc)
      have HPN:Hid (px (putX X (cellsG p x.r) v7 x)=partsP p (av (l.take (k+1)))):=Lib.hid (by rw[px_put,HPX.out,HSTP.out]);have hy8:=below_turned (HY6.out) HPUT.out.2.1 (fun j hj=>(HX6.out.range hj).1);have HXN:=Lib.hid HPUT.out.1;clear hown8 hg8 hm7 hlook
      go_wp2_with fail
      go_roundw
      case rel=>exact⟨k+1,_,by omega,by go_num,HXN,HPN,HMN,hy8⟩
      case measure=>simp[intOf];omega
  ·obtain rfl:k=l.length:=by omega
   rw[List.take_length]at HPX;have HGA:=Lib.hid (fun c (hc:c∈av l)=>HTY.out.view.rises.good c hc)
   have HGC2:Hid (∀c∈av l,GoodR (cellsG p c.1)):=Lib.hid (fun c hc=>by
    obtain⟨x,hx,rfl⟩:=List.mem_map.1 hc;exact(cells_good HTY.out.plan HGR.out (HTY.out.typed x hx)).1)
   have HPG:=Lib.hid (parts_all HGC2.out);have HRI:=Lib.hid HX.out.rises;have HXA:=Lib.hid HX.out.each;have HXF:=Lib.hid HX.out.few;obtain⟨nX,hnX,hownX⟩:=HX.out.map;have HSZ:=Lib.hid (mkD_size (axP X))
   have HLX:Hid (X.length≤4096):=Lib.hid (by
    have h1:=HPG.out.few;rw[←HPX.out]at h1;unfold px av at h1;rw[List.length_map,List.length_map]at h1;omega)
   have hMl:M<wr.heap.size:=HX.out.lt;have HOX:=Lib.hid hownX;have hap:(axP X).length=X.length:=List.length_map _
   go_wp2_with (first
    |(at_range;refine wpList_range_own _ rfl _ 88 rfl 9 27 lawS Tryz.underlying88 slcE M nX (mkD (axP X)) rfl hownX ?_;intro w4 hrg4 hg4 hs4)
    |go_in)
   go_frame
   have hb4:Below wr.heap.size wr w4:=(Below.refl _ _).grown hg4 (Nat.le_refl _) (fun j hj=>by cases hj);have hs5:wr.heap.size+1≤w4.heap.size:=by omega
   clear hs4 hg4 hownX
   go_loopw[17,18,19,20,21,23] (fun ov _ _ _ _ _ wr4=> ∃(left:Lit→Bool) (cnt:Nat) (m:List Chn) (ks:List Prt),wr4.ranges Tryz.prog 9 slcE M wr.heap.size nX (mkD (axP X)) left cnt∧m.length+cnt≤4096∧Hid (OwnC wr4 (wr.heap.size+1) ov m)∧Hid (Collected (mkD (axP X)) left (ks.map fun q=>keyRow q.r))∧Hid (ac m=ks.map fun q=>((1:Int),headRow p (q.r,av q.l)))∧Hid (∀q∈ks,q∈X)∧Below wr.heap.size wr wr4∧wr.heap.size+1≤wr4.heap.size) (fun _ _ _ _ _ _ wr4=>wr4.rangeLeft M wr.heap.size)
   case atStart=>exact⟨_,_,[],[],hrg4,by rw[HSZ.out];have:=HLX.out;simp;omega,Lib.hid (OwnC.nil _ _),Lib.hid (Collected.start _),Lib.hid rfl,Lib.hid nofun,hb4,hs5⟩
   case round=>
    clear hrg4 hb4 hs5;rename World=>wr4
    obtain⟨left,cnt,m,ks,hrg,hmc,HOC,HCO,HAC,HKX,hb4,hs4⟩:=hrel;have hy9:=hyr.trans (hb4.mono hyr.size);have hb9:=below_trans HB1.out hy9
    go_wp2_with (first
     |(at_next;refine wpList_next_ranges _ rfl _ rfl 9 lawS slcE encStr (fun v:Value=>v) (fun key kl hk=>by obtain⟨x,hx,_⟩:=Maps.keyOf_str Tryz.underlying9 hk;exact⟨x,hx⟩) (fun v y hv=>⟨v,rfl⟩) M wr.heap.size nX _ _ _ rfl hrg ?_ ?_)
     |go_in)
    ·intro hc0 hl0
     have hperm:ks.Perm X:=by
      have h1:=HCO.out.perm HOX.out lawS Tryz.underlying9 hl0;rw[keys_of]at h1;refine perm_of_keys HKX.out HRI.out ?_;have e:(axP X).map (fun p=>keyRow p.1)=X.map fun q=>keyRow q.r:=by unfold axP;rw[List.map_map];rfl
      rw[e]at h1;exact h1
     have hrows:(ks.map fun q=>headRow p (q.r,av q.l)).Perm ((partsP p (av l)).map (headRow p)):=by
      have e:(px X).map (headRow p)=X.map fun q=>headRow p (q.r,av q.l):=by unfold px;rw[List.map_map];rfl
      rw[←HPX.out,e];exact hperm.map _
     obtain⟨g1,g2,g3⟩:=heads_view HTY.out.plan HGR.out HGA.out HGC2.out HLG.out hrows;obtain⟨HFC,HFS⟩:=ins_fold (m:=m) (rows:=ks.map fun q=>headRow p (q.r,av q.l)) (by rw[HAC.out,List.map_map];rfl) g1 g2;have hcf:=cfold_any _ _ [] m wr4 (View.nil wr4) ⟨nofun,nofun⟩ HOC.out.chs HFC (HM.out.below hb9);rw[HFS,g3]at hcf;have HCF:=Lib.hid hcf;obtain⟨Am,nm,cm,hvm⟩:=own_slice HOC.out.own;subst hvm;clear hcf HFS HFC g1 g2 g3 hrows hperm hc0 hl0 hrg
     go_wp2_with fail
     refine Calls.mono (by with_reducible exact HCF.out) ?_;rintro e w2 ⟨v2,l2,rfl,hV2,ha2,hb2⟩;have HV2:=Lib.hid hV2;have HA2:=Lib.hid ha2;have hb3:=below_trans hb9 hb2;obtain⟨Af,cf,rfl,-⟩:=id hV2.sl;clear hV2 ha2 hb2;go_wp2
     go_ret2
     exact⟨_,l2,by rw[HE.out,HE0.out];rfl,HV2.out,by rw[HA2.out,HEV.out],hb3⟩
    ·intro x c kl yd yp w5 cnt2 hkey hlk hv hat hrg5 hlt hg5 hs5 hen
     obtain⟨x',ex,rfl,_⟩:=Maps.keyOf_str Tryz.underlying9 hkey;obtain rfl:x=x':=encStr_inj ex;obtain⟨q0,hq0,hsk,hyd⟩:=entry_rowB hat;obtain rfl:=same_strB hsk;obtain⟨q,hq,rfl⟩:=List.mem_map.1 hq0;simp only at hyd hv hat;have HQ:=Lib.hid hq;have hcv:c=q.v:=slcE_inv (by rw[hv,hyd]) (slcE_own (HXA.out q hq) (by have:=HXF.out q hq;unfold maxLen;omega));subst hcv;obtain⟨qr,qv,ql⟩:=q;simp only at hyd hv hat hkey hlk hsk hrg5 hen HQ hq⊢;have hoq:=HXA.out _ hq;simp only at hoq;obtain⟨A9,n9,c9,rfl⟩:=own_slice hoq;have HG:=Lib.hid (show GoodR qr from HRI.out.good (qr,codeV (.slice A9 n9 c9)) hq0);have HCN:=Lib.hid (HCO.out.step hlk hat);have hb5:Below wr.heap.size wr w5:=hb4.grown hg5 hb4.size (fun j hj=>by cases hj;exact Nat.le_refl _);have HOC5:=Lib.hid (HOC.out.turned (turned_grown hg5) (fun j hj e=>by injection e with e;have:=(HOC.out.own.lt j hj).1;omega) (fun c hc j hj e=>by injection e with e;have:=(HOC.out.far c hc j hj).1;omega));have HRG5:=Lib.hid hrg5;have HLF:=Lib.hid hrg.left_eq;have hs6:wr.heap.size+1≤w5.heap.size:=by omega
     have hb95:=hb9.grown hg5 hb9.size (fun j hj=>by cases hj;exact hbr.size);have HVQ:=Lib.hid (show View w5 (.slice A9 n9 c9) ql from⟨(Sl.of_own hoq).below hb5,fun c hc=>(HV.out.rows c (HMM.out _ hq c hc)).below hb95⟩);have HPQ:Hid ((qr,av ql)∈partsP p (av l)):=Lib.hid (by rw[←HPX.out];exact List.mem_map.2 ⟨_,hq,rfl⟩)
     have HNE:Hid (1≤ql.length):=Lib.hid (by
      have:=HPG.out.ne _ HPQ.out;cases ql with
      |nil=>exact absurd rfl this
      |cons a t=>simp)
     have HFG:=Lib.hid (fun(W:World) (hb:Below w5.heap.size w5 W) (a:Int×Int) (ha:a∈p.aggs)=>bfigure_any a.1 a.2 (.slice A9 n9 c9) ql W (HVQ.out.below hb) HNE.out (kinds_agg (check_ok HTY.out.plan).1 HGR.out a ha) (fun h1 x hx=>by
      have a1:=form_aggs (check_ok HTY.out.plan).2.2.2.2 a ha h1;have a2:=(HTY.out.typed x (HMM.out _ hq x hx)).len;unfold allT at a2;omega))
     have HBK:=Lib.hid (back_good HG.out);have hsz:(str (keyRow qr)).size≤4611686018427387904:=by rw[str_size];have:=keyRow_short HG.out;omega
     rw[show encStr (keyRow qr)= .string (str (keyRow qr))from rfl]at hen⊢;generalize str (keyRow qr)=ky at hen HBK hsz;have HXM:=Lib.hid hq;have HB95:=Lib.hid hb95;have HB5:=Lib.hid hb5;have HY5:=Lib.hid (hyr.trans (hb5.mono hyr.size));clear hat hkey hlk hv hrg hrg5 hg5 hs5 ex hsk hq0 hq hyd hoq hb5 hb95 hb9 hy9 hb4
     go_wp2_with fail
     refine(back_own _ _ hsz).mono ?_;rw[HBK.out];rintro e w6 ⟨vb,rfl,ho6,hb6⟩;have HO6:=Lib.hid ho6;have zg:=(HK0.out.below (HY5.out.trans (hb6.mono HY5.out.size))).cell 12 _ rfl;have h4:=(group_few HTY.out.plan HGR.out).2.2;have h8:=(group_few HTY.out.plan HGR.out).1;have hql:=HG.out.few;obtain⟨Bb,nb,cb,hvb⟩:=own_slice ho6;subst hvb;simp only at HO6;clear ho6 hsz
     go_wp2_with fail
     go_loopw[20,23,98] (fun ov _ iv wr5=> ∃j:Nat,j≤p.aggs.length∧iv= .int .i64 j∧Hid (wr5.ownsRow w5.heap.size 68 3 ov (qr.length+j) (rowCells (qr++(figsP p (av ql)).take j)))∧Below w5.heap.size w5 wr5) (fun _ _ iv _=>p.aggs.length-(intOf iv).toNat)
     case atStart=>exact⟨0,by omega,rfl,Lib.hid (by rw[List.take_zero,List.append_nil];exact HO6.out),hb6⟩
     case round=>
      clear HO6 zg hb6;rename World=>wr5
      obtain⟨j,hj,rfl,HO,hb6⟩:=hrel;have hb96:=HB95.out.trans (hb6.mono HB95.out.size);by_cases hjl:j<p.aggs.length
      ·have ga:=List.getElem?_eq_getElem (l:=p.aggs) hjl
       generalize p.aggs[j]=a at ga;obtain⟨bg,og,hAg,-,hcg⟩:=agg_at HSA.out rfl ga;subst hAg;obtain⟨g0,g1⟩:=hcg _ hb96;have HST:=Lib.hid (figs_step (l:=ql) ga);have hb7:=hb6.alloc hb6.size (.cells #[.int .i64 a.1,.int .i64 a.2] 94);have HFX:=Lib.hid (HFG.out _ hb7 a (List.mem_of_getElem? ga));have j0':(0:Int)≤(j:Int):=by omega
       have j1':(j:Int)<(p.aggs.length:Int):=by omega
       have HO7:=HO.out.alloc (.cells #[.int .i64 a.1,.int .i64 a.2] 94);clear hcg ga;obtain⟨fv,hfv⟩: ∃y,figF a.1 (colC a.2 ql)=y:=⟨_,rfl⟩;rw[hfv]at HFX HST;clear hfv;obtain⟨fk,fn,fs⟩:=fv
       go_wp2_with fail
       refine Calls.mono (by with_reducible exact HFX.out) ?_;rintro e w7 ⟨rfl,hb7'⟩;have hb8:=below_trans hb7 hb7';have HO8:=Lib.hid ((own_below HO7 hb7').alloc (.cells #[.int .i64 fk,.int .i64 fn,.string fs] 68));have HV8:=Lib.hid (Sl.block (Blk.new w7 68 #[.int .i64 fk,.int .i64 fn,.string fs]) 1 1 (Nat.le_refl _) (by decide));have HB8:=Lib.hid (hb8.alloc hb8.size (.cells #[.int .i64 fk,.int .i64 fn,.string fs] 68));have HGE:=Lib.hid (own_ge HO8.out);have HB8':=Lib.hid hb8.size;clear hb7' hb8 hb7 HO7 g0 g1
       go_wp2_with (at_builtin;refine wpList_app rfl (.tmp 102) (.tmp 106) 43 rfl w5.heap.size 68 3 32 Tryz.underlying43 valJ _ (qr.length+j) _ rfl HO8.out _ 1 [.int .i64 fk,.int .i64 fn,.string fs] rfl HV8.out rfl (by simp[Value.oneCell']) ?_ ?_ ?_ ?_)
       ·unfold maxLen;omega
       ·omega
       ·have:=HB8'.out;rw[World.size_alloc];omega
       ·intro v3 w3 hown3 hg3 hat3
        have hb3:=below_grown HB8.out hg3 (fun i hi=>HGE.out i hi)
        have H3:Hid (w3.ownsRow w5.heap.size 68 3 v3 (qr.length+(j+1)) (rowCells (qr++(figsP p (av ql)).take (j+1)))):=Lib.hid (by
         rw[HST.out,←List.append_assoc,rcApp (qr++_) [_],rowCells_one1];exact hown3)
        clear hown3 hg3 hat3;go_wp2;go_roundw
        case rel=>exact⟨j+1,by omega,by go_num,H3,hb3⟩
        case measure=>simp[intOf];omega
      ·obtain rfl:j=p.aggs.length:=by omega
       have hfl:(figsP p (av ql)).length=p.aggs.length:=by unfold figsP;exact List.length_map _
       have HRO:Hid (wr5.ownsRow w5.heap.size 68 3 u20 (headRow p (qr,av ql)).length (rowCells (headRow p (qr,av ql)))):=Lib.hid (by
        have h1:=HO.out;rw[List.take_of_length_le (by omega),←hfl,←List.length_append]at h1;exact h1)
       obtain⟨HR,hHR⟩: ∃y,headRow p (qr,av ql)=y:=⟨_,rfl⟩;rw[hHR]at HRO;have HHR:=Lib.hid hHR;clear hHR HO hfl;obtain⟨Bh,nh,ch,hvh⟩:=own_slice HRO.out;subst hvh;have HSR:=Lib.hid ((Sl.of_own HRO.out).below (below_alloc wr5 (.cells #[.int .i64 1,.slice Bh nh ch] 48)));have HGE:=Lib.hid (own_ge HRO.out);have HLT:=Lib.hid (own_lt HRO.out);have HO3:=Lib.hid ((HOC5.out.below hb6).alloc (.cells #[.int .i64 1,.slice Bh nh ch] 48));have hb8:=HB5.out.trans (hb6.mono HB5.out.size);have HB8:=Lib.hid (hb8.alloc hb8.size (.cells #[.int .i64 1,.slice Bh nh ch] 48));have HRG8:=Lib.hid ((HRG5.out.kept (grown_of_below hb6 none) (by simp) (by simp)).alloc (.cells #[.int .i64 1,.slice Bh nh ch] 48));have HOG:=Lib.hid (own_ge HOC5.out.own);have HOL:=Lib.hid (own_lt HOC5.out.own);have HCH:=Lib.hid (one_chn wr5 ⟨.slice Bh nh ch,HR,1⟩);have hsz8:=hb6.size;have HS8:=Lib.hid hsz8;have HS6:=Lib.hid hs6
       go_wp2_with (at_builtin;refine wpList_app rfl (.tmp 109) (.tmp 112) 42 rfl (wr.heap.size+1) 48 2 32 Tryz.underlying42 chgI _ m.length _ rfl HO3.out.own _ 1 (Chn.cells ⟨.slice Bh nh ch,HR,1⟩) rfl HCH.out rfl (chn_one HSR.out) ?_ ?_ ?_ ?_)
       ·unfold maxLen;omega
       ·omega
       ·omega
       ·intro v9 w9 hown9 hg9 hat9
        have hb9:=HB8.out.grown hg9 HB8.out.size (fun i hi=>by have:=HOG.out i hi;omega);have H9:=Lib.hid (HO3.out.snoc (c:=⟨.slice Bh nh ch,HR,1⟩) hown9 hg9 (by simpa using hat9) HSR.out (fun i hi=>⟨by have h1:=HGE.out i hi;omega,by have:=HLT.out i hi;simp;omega,fun e=>by have h1:=HGE.out i hi;have h2:=HOL.out i e;omega⟩));have HRG9:=Lib.hid (HRG8.out.kept hg9 (fun e=>by have:=HOG.out _ e.symm;omega) (fun e=>by have:=HOG.out _ e.symm;omega));have HCN9:Hid (Collected (mkD (axP X)) (fun z=>left z&& !z.sameKey (.string (keyRow qr))) ((ks++[(⟨qr,.slice A9 n9 c9,ql⟩:Prt)]).map fun q=>keyRow q.r)):=Lib.hid (by rw[List.map_append];exact HCN.out)
        have HAC9:Hid (ac (m++[⟨.slice Bh nh ch,HR,1⟩])=(ks++[(⟨qr,.slice A9 n9 c9,ql⟩:Prt)]).map fun q=>((1:Int),headRow p (q.r,av q.l))):=Lib.hid (by
         have h1:=HAC.out;unfold ac at h1⊢;rw[List.map_append,List.map_append,h1,←HHR.out];rfl)
        have HKX9:Hid (∀q∈ks++[(⟨qr,.slice A9 n9 c9,ql⟩:Prt)],q∈X):=Lib.hid (fun q hq=>by
         rcases List.mem_append.1 hq with hq|hq
         ·exact HKX.out q hq
         ·rw[List.mem_singleton.1 hq];exact HXM.out)
        have hs9:wr.heap.size+1≤w9.heap.size:=by have h1:=hg9.size;rw[World.size_alloc]at h1;omega
        clear hown9 hg9 hat9;go_wp2;go_roundw
        case rel=>exact⟨_,cnt2,_,_,HRG9.out,by rw[List.length_append];simp;omega,H9,HCN9,HAC9,HKX9,hb9,hs9⟩
        case measure=>rw[HRG9.out.left_eq,HLF.out];exact hlt
end Go.Proofs.YtjhbeecmdgglgaaGreatDoor
