/-Two rows joined (the reference's Both). Batches, the reference's side: Nulls, put, pair. -/
import Derived.Test.YtjhbeecmdgglgaaGreatDoorGrpX17
import Derived.Test.YtjhbeecmdgglgaaGreatDoorGrpX33
import Derived.Test.YtjhbeecmdgglgaaGreatDoorGrpX37
import Derived.Test.YtjhbeecmdgglgaaGreatDoorGrpX35
import Derived.Test.YtjhbeecmdgglgaaGreatDoorGrpX9
import Derived.Test.YtjhbeecmdgglgaaGreatDoorGrpX21
set_option linter.unusedSimpArgs false
set_option linter.unusedVariables false
namespace Go.Proofs.YtjhbeecmdgglgaaGreatDoor
open Go.RowKit
set_option maxHeartbeats 1000000 in
set_option maxRecDepth 10000 in
theorem both_any (va vb:Value)(a b:List Val)(w:World)(ha:Sl w va a.length (rowCells a))(hb:Sl w vb b.length (rowCells b))(hla:a.length≤1000000)(hlb:b.length≤1000000):
 Calls Tryz.prog 20 #[va,vb] w fun e w'=> ∃v',e= .returned v'∧w'.ownsRow w.heap.size 68 3 v' (a++b).length (rowCells (a++b))∧Below w.heap.size w w':=by
 have HB:=Lib.hid hb;have HC:=Lib.hid (copy_own va a w ha (by omega));have HLB:=Lib.hid (rowCells_len b);obtain⟨A0,c0,rfl,-⟩:=ha;obtain⟨A1,c1,rfl,-⟩:=hb;go_enter Tryz.func20,Tryz.ntmps20
 go_wp2_with fail
 refine Calls.mono (by with_reducible exact HC.out) ?_;rintro e w1 ⟨v1,rfl,hown1,hb1⟩;have HO1:=Lib.hid hown1;have HS:=Lib.hid (HB.out.below hb1);have hs1:=hb1.size;clear hown1
 go_wp2_with (at_builtin;refine wpList_app rfl (.tmp 6) (.tmp 7) 43 rfl w.heap.size 68 3 32 Tryz.underlying43 valJ v1 a.length _ rfl HO1.out _ b.length (rowCells b) rfl HS.out HLB.out (rowCells_one b) (by unfold maxLen;omega) (by omega) hs1 ?_)
 intro v2 w2 hown2 hg2 hat2;have hb2:=hb1.grown hg2 hs1 (fun j hj=>own_ge HO1.out j hj);have HO2:Hid (w2.ownsRow w.heap.size 68 3 v2 (a++b).length (rowCells (a++b))):=Lib.hid (by rw[List.length_append,rcApp];exact hown2);clear hown2 hg2 hat2;go_wp2;go_ret;exact⟨_,rfl,HO2.out,hb2⟩
end Go.Proofs.YtjhbeecmdgglgaaGreatDoor
namespace Go.Proofs.YtjhbeecmdgglgaaGreatDoor
open Go.RowKit Go.Maps
open tm (fitsB)
set_option maxHeartbeats 1000000 in
set_option maxRecDepth 10000 in
theorem rnulls_any (n:Nat)(w:World)(hn:n≤4096):Calls Tryz.prog 50 #[.int .i64 n] w fun e w'=> ∃v',e= .returned v'∧w'.ownsRow w.heap.size 68 3 v' (nullsR n).length (rowCells (nullsR n))∧Below w.heap.size w w':=by
 obtain⟨zs,hzs,hmk⟩:=val_make n hn;have n0:(0:Int)≤(n:Int):=by omega
 have HO:Hid ((w.alloc (.cells zs 68)).ownsRow w.heap.size 68 3 (.slice (some ⟨w.heap.size,0,none⟩) n n) (nullsR n).length (rowCells (nullsR n))):=Lib.hid (by
  rw[nulls_len,hzs];have hl:(rowCells (nullsR n)).length=n*3:=by rw[rowCells_len,nulls_len]
  exact⟨hl,.inr ⟨w.heap.size,n,_,rfl,Nat.le_refl _,Blk.new w 68 (rowCells (nullsR n)).toArray,Nat.le_refl _,by unfold maxLen;omega,by rw[List.size_toArray];exact hl,by rw[List.toList_toArray,←hl];exact List.take_length⟩⟩)
 have HB:=Lib.hid (below_alloc w (.cells zs 68));clear hzs;go_enter Tryz.func50,Tryz.ntmps50
 go_wp2;go_ret;exact⟨_,rfl,HO.out,HB.out⟩
set_option maxHeartbeats 2000000 in
set_option maxRecDepth 10000 in
theorem rput_any (c base:Nat)(vr vl:Value)(r:List Val)(l:List Cnt)(rows:List (List Val))(w:World)(hK:Blk w c 27 #[vl])(hcb:c<base)(hbs:base≤w.heap.size)(hO:OwnV w base vl l)(hfb: ∀x∈l,∀k,x.v.ownBlock=some k→base≤k)(hA:VR rows (av l))(hrl:rows.length<4096)
 (hr:w.ownsRow base 68 3 vr r.length (rowCells r)) (hrv: ∀k,vr.ownBlock=some k→vl.ownBlock≠some k) (hg:GoodR r):
 Calls Tryz.prog 45 #[vr,.pointer (some ⟨c,0,none⟩)] w fun e w'=>e= .returned (.tuple #[])∧(∃vl',Blk w' c 27 #[vl']∧(∃l',OwnV w' base vl' l'∧(∀x∈l',∀k,x.v.ownBlock=some k→base≤k)∧VR (rows++[r]) (av l'))∧(vl'.ownBlock=vl.ownBlock∨ ∀k,vl'.ownBlock=some k→w.heap.size≤k))∧Turned (fun k=>k=c∨vl.ownBlock=some k) w w':=by
 obtain⟨Av,cv,rfl,hc1,hc2,-⟩:=Sl.of_own hO.own;have hlk:=hA.look r;have hll:l.length≤4096:=by have:=hA.len;unfold av at this;rw[List.length_map]at this;omega
 have HM:=Lib.hid (more_own_any (.slice Av l.length cv) vr l r 1 base w hO hbs hll (Sl.of_own hr) (fun _ k hk=>hrv k hk) hA.rises hg (by omega) (by omega));have HST:=Lib.hid (hA.step hrl hg);have HKC:=Lib.hid hK;have HCB:=Lib.hid hcb;have HOG:=Lib.hid (own_ge hO.own);have d0:=hK.cell 0 _ rfl;have HFB:=Lib.hid hfb;have HBS:=Lib.hid hbs;clear hK hcb hbs hO hA hr hrv hg hlk hfb;go_enter Tryz.func45,Tryz.ntmps45
 go_wp2_with fail
 refine Calls.mono (by with_reducible exact HM.out) ?_;rintro e w2 ⟨v2,l2,rfl,hO2,ha2,hg2,hv2,hf2⟩;obtain⟨A2,n2,c2,hv2e⟩: ∃A n c,v2= .slice A n c:=by obtain⟨A,c,e,-⟩:=Sl.of_own hO2.own;exact⟨A,_,c,e⟩
 subst hv2e;have hK2:=blk_turned HKC.out (turned_grown hg2) (fun e=>by have:=HOG.out _ e;have:=HCB.out;omega);have HK2:=Lib.hid hK2;have d2:=hK2.cell 0 _ rfl;have f2:=hK2.free 0;have HO2:=Lib.hid hO2;have HA2:=Lib.hid ha2;have HT2:=Lib.hid ((turned_grown hg2).imp (fun k _ e=>(.inr e:k=c∨(Value.slice Av l.length cv).ownBlock=some k)));have HV2:=Lib.hid hv2
 have HF2:=Lib.hid (show ∀x∈l2,∀k,x.v.ownBlock=some k→base≤k from fun x hx k hk=>by
  rcases hf2 x hx with⟨d,hd,e⟩|h
  ·exact HFB.out d hd k (e▸hk)
  ·exact Nat.le_trans HBS.out (h k hk))
 clear hO2 ha2 hg2 hv2 hK2 d0
 go_wp2_with fail
 go_end0
 refine⟨rfl,⟨_,HK2.out.set_ 0 _,⟨l2,⟨own_set HO2.out.own (fun k hk e=>by have h1:=own_ge HO2.out.own k hk;have h2:=HCB.out;have e:k=c:=e;omega) _,fun x hx=>sl_set (HO2.out.rows x hx) (fun _ k hk e=>by have h1:=HF2.out x hx k hk;have h2:=HCB.out;have e:k=c:=e;omega) _,fun x hx k hk=>by rw[World.size_setCell];exact HO2.out.far x hx k hk⟩,HF2.out,by rw[HA2.out];exact HST.out⟩,?_⟩,HT2.out.trans ((turned_set w2 ⟨c,0,none⟩ (.slice A2 n2 c2)).imp (fun k _ e=>(.inl e:k=c∨(Value.slice Av l.length cv).ownBlock=some k)))⟩;by_cases hne: ∃k,(Value.slice A2 n2 c2).ownBlock=some k
 ·obtain⟨k,hk⟩:=hne
  rcases HV2.out k hk with e|e
  ·exact .inl (hk.trans e.symm)
  ·exact .inr fun j hj=>by rw[hk]at hj;injection hj with hj;omega
 ·exact .inr fun k hk=>absurd ⟨k,hk⟩ hne
theorem bytes_ne {a b:ByteArray}(h:a≠b):(a.toList==b.toList)=false:=by
 rw[beq_eq_false_iff_ne];intro e;rw[ByteArray.toList_eq,ByteArray.toList_eq]at e;exact h (ByteArray.ext (Array.toList_inj.1 e))
set_option maxHeartbeats 4000000 in
set_option maxRecDepth 10000 in
theorem rpair_any (p:Pl)(t u:Int)(va vb:Value)(a b:List Val)(w:World)(h:p.ok w)(hz:checkP p=0)(hk:p.kind≠3)(ha:Sl w va a.length (rowCells a))(hb:Sl w vb b.length (rowCells b))(hfa:Fine a)(hfb:Fine b)(hra:rowE p 1 a=0)(hrb:rowE p 2 b=0)(ht:fitsB t=true)(hu:fitsB u=true)(hmp:MeetP p):
 Calls Tryz.prog 48 #[.agg #[.int .i64 p.kind,.int .i64 p.mode,.int .i64 p.low,.int .i64 p.high,.int .i64 p.size,.int .i64 p.limit,p.vl,p.vr,p.vk,p.vq,.bool p.grouped,p.vg,p.va],.agg #[.int .i64 t,va],.agg #[.int .i64 u,vb]] w fun e w'=>e= .returned (.bool ((keyFor p 1 a).2&&((keyFor p 2 b).2&&(decide ((keyFor p 1 a).1=(keyFor p 2 b).1)&&meetT p.kind p.low p.high p.size t u))))∧Below w.heap.size w w':=by
 have HKA:=Lib.hid (fun(W:World) (hW:Below w.heap.size w W)=>keyFor_any p 1 va a W (h.below hW) (ha.below hW) hfa (rowE_fine hz hra));have HKB:=Lib.hid (fun(W:World) (hW:Below w.heap.size w W)=>keyFor_any p 2 vb b W (h.below hW) (hb.below hW) hfb (rowE_fine hz hrb));have HME:=Lib.hid (fun(W:World) (hW:Below w.heap.size w W)=>rmeet_any p t u W (h.below hW) hmp hk ht hu);obtain⟨k1,hk1⟩: ∃y,keyFor p 1 a=y:=⟨_,rfl⟩;obtain⟨k2,hk2⟩: ∃y,keyFor p 2 b=y:=⟨_,rfl⟩;rw[hk1]at HKA⊢;rw[hk2]at HKB⊢;clear hk1 hk2;obtain⟨s1,q1⟩:=k1;obtain⟨s2,q2⟩:=k2;obtain⟨mt,hmt⟩: ∃y,meetT p.kind p.low p.high p.size t u=y:=⟨_,rfl⟩;rw[hmt]at HME⊢;clear hmt;obtain⟨A0,c0,h0,n0,m0,-⟩:=id h.l;obtain⟨A1,c1,h1,n1,m1,-⟩:=id h.r;obtain⟨A2,c2,h2,n2,m2,-⟩:=id h.k;obtain⟨A3,c3,h3,n3,m3,-⟩:=id h.q;obtain⟨A4,c4,h4,n4,m4,-⟩:=id h.g;obtain⟨A5,c5,h5,n5,m5,-⟩:=id h.a;obtain⟨Aa,ca,rfl,-⟩:=id ha;obtain⟨Ab,cb,rfl,-⟩:=id hb;rw[h0,h1,h2,h3,h4,h5]at HKA HKB HME⊢;have hb1:=below_alloc w (.cells #[.int .i64 p.kind,.int .i64 p.mode,.int .i64 p.low,.int .i64 p.high,.int .i64 p.size,.int .i64 p.limit,.slice A0 p.left.length c0,.slice A1 p.right.length c1,.slice A2 p.lkeys.length c2,.slice A3 p.rkeys.length c3,.bool p.grouped,.slice A4 p.group.length c4,.slice A5 p.aggs.length c5] 25);have hb2:=hb1.alloc hb1.size (.cells #[.int .i64 t,.slice Aa a.length ca] 53);have hb3:=hb2.alloc hb2.size (.cells #[.int .i64 u,.slice Ab b.length cb] 53);have hK1:=((Blk.new w 25 #[.int .i64 p.kind,.int .i64 p.mode,.int .i64 p.low,.int .i64 p.high,.int .i64 p.size,.int .i64 p.limit,.slice A0 p.left.length c0,.slice A1 p.right.length c1,.slice A2 p.lkeys.length c2,.slice A3 p.rkeys.length c3,.bool p.grouped,.slice A4 p.group.length c4,.slice A5 p.aggs.length c5]).alloc (.cells #[.int .i64 t,.slice Aa a.length ca] 53)).alloc (.cells #[.int .i64 u,.slice Ab b.length cb] 53);have hK2:=(new_second w 53 #[.int .i64 t,.slice Aa a.length ca] (.cells #[.int .i64 p.kind,.int .i64 p.mode,.int .i64 p.low,.int .i64 p.high,.int .i64 p.size,.int .i64 p.limit,.slice A0 p.left.length c0,.slice A1 p.right.length c1,.slice A2 p.lkeys.length c2,.slice A3 p.rkeys.length c3,.bool p.grouped,.slice A4 p.group.length c4,.slice A5 p.aggs.length c5] 25)).alloc (.cells #[.int .i64 u,.slice Ab b.length cb] 53);have hK3:=Blk.new ((w.alloc (.cells #[.int .i64 p.kind,.int .i64 p.mode,.int .i64 p.low,.int .i64 p.high,.int .i64 p.size,.int .i64 p.limit,.slice A0 p.left.length c0,.slice A1 p.right.length c1,.slice A2 p.lkeys.length c2,.slice A3 p.rkeys.length c3,.bool p.grouped,.slice A4 p.group.length c4,.slice A5 p.aggs.length c5] 25)).alloc (.cells #[.int .i64 t,.slice Aa a.length ca] 53)) 53 #[.int .i64 u,.slice Ab b.length cb];obtain⟨W3,hW3⟩: ∃V,((w.alloc (.cells #[.int .i64 p.kind,.int .i64 p.mode,.int .i64 p.low,.int .i64 p.high,.int .i64 p.size,.int .i64 p.limit,.slice A0 p.left.length c0,.slice A1 p.right.length c1,.slice A2 p.lkeys.length c2,.slice A3 p.rkeys.length c3,.bool p.grouped,.slice A4 p.group.length c4,.slice A5 p.aggs.length c5] 25)).alloc (.cells #[.int .i64 t,.slice Aa a.length ca] 53)).alloc (.cells #[.int .i64 u,.slice Ab b.length cb] 53)=V:=⟨_,rfl⟩;rw[hW3]at hb3 hK1 hK2 hK3;simp only[World.size_alloc]at hK2 hK3;have HB:=Lib.hid hb3;have HK1:=Lib.hid hK1;have HK2:=Lib.hid hK2;have HK3:=Lib.hid hK3;obtain⟨z0,z1,z2,z3,z4,z5,z6,z7,z8,z9,z10,z11,z12⟩:=pl_cells HK1.out;have y1:=HK2.out.cell 1 _ rfl;clear h h0 h1 h2 h3 h4 h5 n0 n1 n2 n3 n4 n5 m0 m1 m2 m3 m4 m5 ha hb hfa hfb hra hrb hmp hb1 hb2 hb3 hK1 hK2 hK3 hz hk ht hu;go_enter Tryz.func48,Tryz.ntmps48
 go_upto_region 1 with fail
 clear hW3
 go_wp2_with fail
 refine Calls.mono (by with_reducible exact HKA.out _ HB.out) ?_;rintro e w4 ⟨rfl,hb4⟩;have HB4:=Lib.hid (below_trans HB.out hb4);obtain⟨z0,z1,z2,z3,z4,z5,z6,z7,z8,z9,z10,z11,z12⟩:=pl_cells (HK1.out.below hb4);have y1:=(HK3.out.below hb4).cell 1 _ rfl
 go_wp2_with fail
 refine Calls.mono (by with_reducible exact HKB.out _ HB4.out) ?_;rintro e w5 ⟨rfl,hb5⟩;have HB5:=Lib.hid (below_trans HB4.out hb5);have hb35:=hb4.trans (hb5.mono hb4.size);obtain⟨z0,z1,z2,z3,z4,z5,z6,z7,z8,z9,z10,z11,z12⟩:=pl_cells (HK1.out.below hb35);have y2:=(HK2.out.below hb35).cell 0 _ rfl;have y3:=(HK3.out.below hb35).cell 0 _ rfl;cases q1 with
 |false=>
  go_wp2;go_ret;exact⟨rfl,HB5.out⟩
 |true=>
  cases q2 with
  |false=>
   go_wp2;go_ret;exact⟨rfl,HB5.out⟩
  |true=>
   have HMX:=Lib.hid (HME.out w5 HB5.out);by_cases hs:s1=s2
   ·subst hs
    have hse:(s1.toList==s1.toList)=true:=beq_self_eq_true _
    go_wp2_with fail
    refine Calls.mono (by with_reducible exact HMX.out) ?_;rintro e w6 ⟨rfl,hb6⟩;have HB6:=Lib.hid (below_trans HB5.out hb6);go_wp2;go_ret;exact⟨by simp,HB6.out⟩
   ·have hse:(s1.toList==s2.toList)=false:=bytes_ne hs
    have HSE:Hid (decide (s1=s2)=false):=Lib.hid (decide_eq_false hs);clear hs;go_wp2;go_ret;exact⟨by rw[HSE.out];rfl,HB5.out⟩
end Go.Proofs.YtjhbeecmdgglgaaGreatDoor
