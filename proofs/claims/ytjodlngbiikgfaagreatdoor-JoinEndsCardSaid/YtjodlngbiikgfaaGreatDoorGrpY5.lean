/-Joins: the law JoinEnds. (Printed by genjn23.py.) -/
import Derived.Test.YtjodlngbiikgfaaGreatDoorGrpK32
import Derived.Test.YtjodlngbiikgfaaGreatDoorGrpK8
import Derived.Test.YtjodlngbiikgfaaGreatDoorGrpY4
set_option linter.unusedSimpArgs false
set_option linter.unusedVariables false
namespace Go.Proofs.YtjodlngbiikgfaaGreatDoor
open Go.RowKit Go.Maps
def endS (p:Pl) (J:Jn):Nat→Jn
 |0=>J
 |1=>endJ p J 1
 |_=>endJ p (endJ p J 1) 2
theorem endS_good {p:Pl}{J:Jn}(h:GoodJ p J)(hF:FineJ J): ∀j,GoodJ p (endS p J j)∧FineJ (endS p J j)
 |0=>⟨h,hF⟩
 |1=>end_good h hF (.inl rfl)
 |j+2=>by
  have h1:=end_good h hF (side:=1) (.inl rfl);exact end_good h1.1 h1.2 (.inr rfl)
theorem endS_step {p:Pl}{J:Jn}(h:GoodJ p J)(hF:FineJ J){j:Nat}(hj:j<2):stepJ p (endS p J j) ⟨2,(j:Int)+1,maxT,[]⟩=(endS p J (j+1),[],0):=by
 have hc:j=0∨j=1:=by omega
 rcases hc with rfl|rfl
 ·exact step_max h (.inl rfl)
 ·exact step_max (end_good h hF (side:=1) (.inl rfl)).1 (.inr rfl)
theorem playS_err {p:Pl}{l:List Ev}(h:(playS p l).2.2.2≠0):(playS p l).2.2.2=2∨(playS p l).2.2.2=checkP p:=by
 unfold playS at h⊢;split
 ·exact .inr rfl
 ·split
  ·exact .inl rfl
  ·rename_i h1 h2
   rw[if_neg h1,if_neg h2]at h;exact absurd rfl h
theorem playS_good {p:Pl}{l:List Ev}(hf: ∀v∈l,Fine v.r)(h:(playS p l).2.2.2=0):GoodJ p (playS p l).1∧FineJ (playS p l).1:=by
 unfold playS at h⊢;split
 ·rename_i h1;rw[if_pos h1]at h;exact absurd h h1
 ·rename_i h1
  rw[if_neg h1]at h;split
  ·rename_i h2;rw[if_pos h2]at h;cases h
  ·exact play_goodJ l _ _ (start_goodJ (by simpa using h1)) (start_fineJ p) hf
set_option maxHeartbeats 16000000 in
set_option maxRecDepth 10000 in
theorem joinEnds_walk (p:Pl)(v:Value)(le:List Evv)(vr:Value)(r:List Val)(tm:Int)(w:World)(hp:p.ok w)(hf:p.fit)(he:Evs w v le)(hef: ∀e∈le,e.fit)(hr:Sl w vr r.length (rowCells r))(hrf:Fine r)(ht: -9223372036854775808≤tm∧tm≤9223372036854775807)(hm:Mx w):
 Calls Tryz.prog 8 #[.agg #[.int .i64 p.kind,.int .i64 p.mode,.int .i64 p.low,.int .i64 p.high,.int .i64 p.size,.int .i64 p.limit,p.vl,p.vr,p.vk,p.vq,.bool p.grouped,p.vg,p.va],v,vr,.int .i64 tm] w fun r w'=>r= .returned (.bool true)∧Below w.heap.size w w':=by
 obtain⟨A0,c0,h0,-⟩:=id hp.l;obtain⟨A1,c1,h1,-⟩:=id hp.r;obtain⟨A2,c2,h2,-⟩:=id hp.k;obtain⟨A3,c3,h3,-⟩:=id hp.q;obtain⟨A4,c4,h4,-⟩:=id hp.g;obtain⟨A5,c5,h5,-⟩:=id hp.a;obtain⟨Ar,cr,hvr,-⟩:=id hr;subst hvr;have hB1:=below_alloc w (.cells #[.int .i64 p.kind,.int .i64 p.mode,.int .i64 p.low,.int .i64 p.high,.int .i64 p.size,.int .i64 p.limit,.slice A0 p.left.length c0,.slice A1 p.right.length c1,.slice A2 p.lkeys.length c2,.slice A3 p.rkeys.length c3,.bool p.grouped,.slice A4 p.group.length c4,.slice A5 p.aggs.length c5] 25);have HKP:=Lib.hid (Blk.new w 25 #[.int .i64 p.kind,.int .i64 p.mode,.int .i64 p.low,.int .i64 p.high,.int .i64 p.size,.int .i64 p.limit,.slice A0 p.left.length c0,.slice A1 p.right.length c1,.slice A2 p.lkeys.length c2,.slice A3 p.rkeys.length c3,.bool p.grouped,.slice A4 p.group.length c4,.slice A5 p.aggs.length c5]);obtain⟨ST,hST⟩: ∃q,playS p (le.map Evv.ev)=q:=⟨_,rfl⟩;have herr:ST.2.2.2≠0→ST.2.2.2=2∨ST.2.2.2=checkP p:=fun h=>by rw[←hST];exact playS_err (by rw[hST];exact h)
 have hgood:ST.2.2.2=0→GoodJ p ST.1∧FineJ ST.1:=fun h=>by
  rw[←hST];refine playS_good (fun v hv=> ?_) (by rw[hST];exact h);obtain⟨e,he2,rfl⟩:=List.mem_map.1 hv;exact(hef e he2).row
 obtain⟨W1,hW1⟩: ∃V,w.alloc (.cells #[.int .i64 p.kind,.int .i64 p.mode,.int .i64 p.low,.int .i64 p.high,.int .i64 p.size,.int .i64 p.limit,.slice A0 p.left.length c0,.slice A1 p.right.length c1,.slice A2 p.lkeys.length c2,.slice A3 p.rkeys.length c3,.bool p.grouped,.slice A4 p.group.length c4,.slice A5 p.aggs.length c5] 25)=V:=⟨_,rfl⟩;rw[hW1]at hB1 HKP;have hpy:=play_any p v le W1 (hp.below hB1) hf (he.below hB1) hef (hm.below hB1);rw[h0,h1,h2,h3,h4,h5,hST]at hpy
 have HSP:Hid (∀(t:Jv) (x:Evv) V,Below W1.heap.size W1 V→t.ok V→t.fit→x.ok V→x.fit→Calls Tryz.prog 17 #[.agg #[.int .i64 p.kind,.int .i64 p.mode,.int .i64 p.low,.int .i64 p.high,.int .i64 p.size,.int .i64 p.limit,.slice A0 p.left.length c0,.slice A1 p.right.length c1,.slice A2 p.lkeys.length c2,.slice A3 p.rkeys.length c3,.bool p.grouped,.slice A4 p.group.length c4,.slice A5 p.aggs.length c5],.agg #[.int .i64 t.l.limit,t.l.vm,t.l.vr,.int .i64 t.r.limit,t.r.vm,t.r.vr,.int .i64 t.lm,.int .i64 t.rm,.int .i64 t.seq],.agg #[.int .i64 x.kind,.int .i64 x.side,.int .i64 x.t,x.v]] V fun r w'=> ∃(s':Jv) (vo:Value) (m:List Chn),r= .returned (.tuple #[s'.agg,vo,.int .i64 (stepJ p t.jn x.ev).2.2])∧s'.jn=(stepJ p t.jn x.ev).1∧ac m=(stepJ p t.jn x.ev).2.1∧OwnJ w' V.heap.size s'∧OwnC w' V.heap.size vo m∧Below V.heap.size V w'):=Lib.hid (fun t x V hV ht htf hx hxf=>by
  have h:=step_any p t x V (hp.below (below_trans hB1 hV)) hf ht htf hx hxf (hm.below (below_trans hB1 hV));rw[h0,h1,h2,h3,h4,h5]at h;exact h)
 have HALL:Hid (∀(b:Buf) V,Below W1.heap.size W1 V→b.ok V→b.fit→checkB b.bu=0→Calls Tryz.prog 27 #[.agg #[.int .i64 b.limit,b.vm,b.vr]] V fun e w'=> ∃v l,e= .returned (.tuple #[v,.int .i64 0])∧OwnE w' V.heap.size v l∧ens l=sortE b.bu.all∧Below V.heap.size V w'):=Lib.hid (fun b V hV hbo hbf hz=>by
  have h:=all_any b V hbo hbf (hm.below (below_trans hB1 hV));unfold Buf.agg at h;rw[hz,if_pos rfl]at h;exact h)
 have HCP:Hid (∀V,Below W1.heap.size W1 V→Calls Tryz.prog 11 #[.agg #[.int .i64 p.kind,.int .i64 p.mode,.int .i64 p.low,.int .i64 p.high,.int .i64 p.size,.int .i64 p.limit,.slice A0 p.left.length c0,.slice A1 p.right.length c1,.slice A2 p.lkeys.length c2,.slice A3 p.rkeys.length c3,.bool p.grouped,.slice A4 p.group.length c4,.slice A5 p.aggs.length c5]] V fun e w'=>e= .returned (.int .i64 (checkP p))∧Below V.heap.size V w'):=Lib.hid (fun V hV=>by
  have h:=checkPlan_any p V (hp.below (below_trans hB1 hV));rw[h0,h1,h2,h3,h4,h5]at h;exact h)
 have HRO:Hid (∀V,Below W1.heap.size W1 V→Sl V (.slice Ar r.length cr) r.length (rowCells r)):=Lib.hid (fun V hV=>hr.below (below_trans hB1 hV));have HRF:=Lib.hid hrf;have HTM:=Lib.hid ht;have HMB:Hid (∀V,Below W1.heap.size W1 V→Mx V∧Below w.heap.size w V):=Lib.hid (fun V hV=>⟨hm.below (below_trans hB1 hV),below_trans hB1 hV⟩);obtain⟨J,cs,ns,E⟩:=ST;simp only at hpy herr hgood;have HPY:=Lib.hid hpy;have HER:=Lib.hid herr;have HGD:=Lib.hid hgood;rw[h0,h1,h2,h3,h4,h5];have p0:=HKP.out.cellR 0 rfl;have p1:=HKP.out.cellR 1 rfl;have p2:=HKP.out.cellR 2 rfl;have p3:=HKP.out.cellR 3 rfl;have p4:=HKP.out.cellR 4 rfl;have p5:=HKP.out.cellR 5 rfl;have p6:=HKP.out.cellR 6 rfl;have p7:=HKP.out.cellR 7 rfl;have p8:=HKP.out.cellR 8 rfl;have p9:=HKP.out.cellR 9 rfl;have p10:=HKP.out.cellR 10 rfl;have p11:=HKP.out.cellR 11 rfl;have p12:=HKP.out.cellR 12 rfl;clear hp hf he hef hr hrf ht hm h0 h1 h2 h3 h4 h5 hB1 hpy hST herr hgood;go_enter Tryz.func8,Tryz.ntmps8
 go_upto_region 1 with fail
 try rw[hW1]
 clear hW1
 go_wp2_with fail
 refine Calls.mono (by with_reducible exact HPY.out) ?_;rintro rr x2 ⟨t,vo,m,nv,rfl,htj,hac,hpo,hb2⟩;obtain⟨G0,n0,k0,u0⟩:=own_slice hpo.jn.l.mem.own;obtain⟨G1,n1,k1,u1⟩:=own_slice hpo.jn.l.sl;obtain⟨G2,n2,k2,u2⟩:=own_slice hpo.jn.r.mem.own;obtain⟨G3,n3,k3,u3⟩:=own_slice hpo.jn.r.sl;have hta:t.agg= .agg #[.int .i64 t.l.limit,.slice G0 n0 k0,.slice G1 n1 k1,.int .i64 t.r.limit,.slice G2 n2 k2,.slice G3 n3 k3,.int .i64 t.lm,.int .i64 t.rm,.int .i64 t.seq]:=by unfold Jv.agg;rw[u0,u1,u2,u3]
 have HJT:Hid (jA t= #[.int .i64 t.l.limit,.slice G0 n0 k0,.slice G1 n1 k1,.int .i64 t.r.limit,.slice G2 n2 k2,.slice G3 n3 k3,.int .i64 t.lm,.int .i64 t.rm,.int .i64 t.seq]):=Lib.hid (by unfold jA;rw[u0,u1,u2,u3]);rw[hta];obtain⟨Av,cv,hvo,-⟩:=id (Sl.of_own hpo.out.own);obtain⟨Bv,bv,hnv,-⟩:=id (Sl.of_own hpo.nos);subst hvo hnv;have HTJ:=Lib.hid htj;have HX2:=Lib.hid hb2;have HOT:=Lib.hid hpo.jn;clear u0 u1 u2 u3 hta htj hac hpo hb2 HPY p0 p1 p2 p3 p4 p5 p6 p7 p8 p9 p10 p11 p12;have HX3:Hid (Below W1.heap.size W1 (x2.alloc (.cells #[.int .i64 t.l.limit,.slice G0 n0 k0,.slice G1 n1 k1,.int .i64 t.r.limit,.slice G2 n2 k2,.slice G3 n3 k3,.int .i64 t.lm,.int .i64 t.rm,.int .i64 t.seq] 31))):=Lib.hid (HX2.out.alloc HX2.out.size _);have HKS:=Lib.hid (Blk.new x2 31 #[.int .i64 t.l.limit,.slice G0 n0 k0,.slice G1 n1 k1,.int .i64 t.r.limit,.slice G2 n2 k2,.slice G3 n3 k3,.int .i64 t.lm,.int .i64 t.rm,.int .i64 t.seq]);have hx23:=below_alloc x2 (.cells #[.int .i64 t.l.limit,.slice G0 n0 k0,.slice G1 n1 k1,.int .i64 t.r.limit,.slice G2 n2 k2,.slice G3 n3 k3,.int .i64 t.lm,.int .i64 t.rm,.int .i64 t.seq] 31);have HSZ:Hid ((x2.alloc (.cells #[.int .i64 t.l.limit,.slice G0 n0 k0,.slice G1 n1 k1,.int .i64 t.r.limit,.slice G2 n2 k2,.slice G3 n3 k3,.int .i64 t.lm,.int .i64 t.rm,.int .i64 t.seq] 31)).heap.size=x2.heap.size+1):=Lib.hid (World.size_alloc _ _);have HS1:Hid (W1.heap.size≤x2.heap.size):=Lib.hid HX2.out.size;have HOT3:Hid (OwnJ (x2.alloc (.cells #[.int .i64 t.l.limit,.slice G0 n0 k0,.slice G1 n1 k1,.int .i64 t.r.limit,.slice G2 n2 k2,.slice G3 n3 k3,.int .i64 t.lm,.int .i64 t.rm,.int .i64 t.seq] 31)) W1.heap.size t):=Lib.hid ⟨HOT.out.l.below hx23,HOT.out.r.below hx23⟩;have HTF:Hid (∀k,x2.heap.size≤k→t.l.off k∧t.r.off k):=Lib.hid (fun k hk=>⟨HOT.out.l.off hk,HOT.out.r.off hk⟩);clear hx23
 go_upto_region 2 with fail
 obtain⟨S,hS⟩: ∃q,x2.heap.size=q:=⟨_,rfl⟩;obtain⟨W3,hW3⟩: ∃V,x2.alloc (.cells #[.int .i64 t.l.limit,.slice G0 n0 k0,.slice G1 n1 k1,.int .i64 t.r.limit,.slice G2 n2 k2,.slice G3 n3 k3,.int .i64 t.lm,.int .i64 t.rm,.int .i64 t.seq] 31)=V:=⟨_,rfl⟩;rw[hW3]at HX3 HKS HSZ HOT3;rw[hS]at HKS HSZ HS1 HTF
 try rw[hW3]
 try rw[hS]
 clear hW3 hS HOT HX2;by_cases hE:E=0
 case' neg=>
  have hEb:(E==0)=false:=by simpa using hE
  have hEb2:(E != 0)=true:=by simpa using hE
  have HER2:=Lib.hid (HER.out hE);clear hE
  go_upto_region 3 with fail
  go_loopw[12,13] (fun ev iv wr=>ev= .int .i64 E∧iv= .int .i64 1∧wr=W3) (fun _ _ _=>0)
  case atStart=>exact⟨rfl,rfl,rfl⟩
  case round=>
   rename World=>wr
   obtain⟨rfl,rfl,rfl⟩:=hrel
   go_wp2_with fail
   refine(joinBegun_any wr (HMB.out wr HX3.out).1).mono ?_;rintro rr x5 ⟨rfl,hb5⟩;have HX5:Hid (Below W1.heap.size W1 x5):=Lib.hid (below_trans HX3.out hb5);have HKP5:=Lib.hid (HKP.out.below HX5.out);clear hb5;have p0:=HKP5.out.cellR 0 rfl;have p1:=HKP5.out.cellR 1 rfl;have p2:=HKP5.out.cellR 2 rfl;have p3:=HKP5.out.cellR 3 rfl;have p4:=HKP5.out.cellR 4 rfl;have p5:=HKP5.out.cellR 5 rfl;have p6:=HKP5.out.cellR 6 rfl;have p7:=HKP5.out.cellR 7 rfl;have p8:=HKP5.out.cellR 8 rfl;have p9:=HKP5.out.cellR 9 rfl;have p10:=HKP5.out.cellR 10 rfl;have p11:=HKP5.out.cellR 11 rfl;have p12:=HKP5.out.cellR 12 rfl;by_cases hE2:E=2
   case' pos=>
    have he2:(E==2)=true:=by rw[hE2];rfl
    clear hE2;go_wp2;go_ret;exact⟨rfl,(HMB.out x5 HX5.out).2⟩
   have he2:(E==2)=false:=by simpa using hE2
   have hcp:checkP p=E:=(HER2.out.resolve_left hE2).symm;have HC5:=Lib.hid (HCP.out x5 HX5.out);rw[hcp]at HC5;clear hE2 hcp
   go_wp2_with fail
   refine Calls.mono (by with_reducible exact HC5.out) ?_;rintro rr x6 ⟨rfl,hb6⟩;have HF:=Lib.hid (HMB.out x6 (below_trans HX5.out hb6)).2;have heq:(E==E)=true:=by simp
   clear hb6;go_wp2;go_ret;exact⟨rfl,HF.out⟩
 subst hE;have HGJ:=Lib.hid (HGD.out rfl)
 go_upto_region 3 with fail
 go_loopw[12,13] (fun ev iv wr=> ∃(j:Nat) (u:Jv),j≤2∧iv= .int .i64 ((j:Int)+1)∧ev= .int .i64 0∧Hid (Blk wr S 31 (jA u))∧Hid (OwnJ wr W1.heap.size u)∧Hid (∀k,k=S→u.l.off k∧u.r.off k)∧Hid (u.jn=endS p J j)∧Hid (Below W1.heap.size W1 wr∧S+1≤wr.heap.size)) (fun _ iv _=>3-(intOf iv).toNat)
 case atStart=>exact⟨0,t,by omega,rfl,rfl,Lib.hid (by rw[HJT.out];exact HKS.out),HOT3,Lib.hid (fun k hk=>HTF.out k (by omega)),HTJ,Lib.hid ⟨HX3.out,Nat.le_of_eq HSZ.out.symm⟩⟩
 case round=>
  rename World=>wr
  obtain⟨j,u,hj,rfl,rfl,HKU,HOU,HOF,HUJ,HBW⟩:=hrel;clear HKS;obtain⟨F0,m0,j0,u0⟩:=own_slice HOU.out.l.mem.own;obtain⟨F1,m1,j1,u1⟩:=own_slice HOU.out.l.sl;obtain⟨F2,m2,j2,u2⟩:=own_slice HOU.out.r.mem.own;obtain⟨F3,m3,j3,u3⟩:=own_slice HOU.out.r.sl;have HUU:=Lib.hid (And.intro u0 (And.intro u1 (And.intro u2 u3)));have HJA:Hid (jA u= #[.int .i64 u.l.limit,.slice F0 m0 j0,.slice F1 m1 j1,.int .i64 u.r.limit,.slice F2 m2 j2,.slice F3 m3 j3,.int .i64 u.lm,.int .i64 u.rm,.int .i64 u.seq]):=Lib.hid (by unfold jA;rw[u0,u1,u2,u3]);have hkj:=HKU.out;rw[HJA.out]at hkj;have HKUX:=Lib.hid hkj;have hgs:=endS_good HGJ.out.1 HGJ.out.2 j;rw[←HUJ.out]at hgs;have HGU:=Lib.hid hgs;have HKPW:=Lib.hid (HKP.out.below HBW.out.1);by_cases hlt:j<2
  ·have hj1:(j:Int)+1≤2:=by omega
   obtain⟨x0,hx0⟩: ∃q:Evv,q=⟨2,(j:Int)+1,1099511627776,.slice none 0 0,[]⟩:=⟨_,rfl⟩
   have hst:stepJ p u.jn x0.ev=(endS p J (j+1),[],0):=by
    rw[HUJ.out,hx0];exact endS_step HGJ.out.1 HGJ.out.2 hlt
   have x1:x0.kind=2:=by rw[hx0]
   have x2':x0.side=(j:Int)+1:=by rw[hx0]
   have x3:x0.t=1099511627776:=by rw[hx0]
   have x4:x0.v= .slice none 0 0:=by rw[hx0]
   have x5':x0.r=[]:=by rw[hx0]
   have hxo:x0.ok wr:=⟨by rw[x4,x5'];exact Sl.nil_ wr⟩;have hxf:x0.fit:=⟨by rw[x1];omega,by rw[x2'];omega,by rw[x3];omega,by rw[x5'];exact⟨nofun,nofun⟩⟩;have hsc:=HSP.out u x0 wr HBW.out.1 HOU.out.ok (fit_goodJ HGU.out.1 HGU.out.2) hxo hxf;rw[hst,x1,x2',x3,x4,u0,u1,u2,u3]at hsc
   have HSC:Hid (Calls Tryz.prog 17 #[.agg #[.int .i64 p.kind,.int .i64 p.mode,.int .i64 p.low,.int .i64 p.high,.int .i64 p.size,.int .i64 p.limit,.slice A0 p.left.length c0,.slice A1 p.right.length c1,.slice A2 p.lkeys.length c2,.slice A3 p.rkeys.length c3,.bool p.grouped,.slice A4 p.group.length c4,.slice A5 p.aggs.length c5],.agg #[.int .i64 u.l.limit,.slice F0 m0 j0,.slice F1 m1 j1,.int .i64 u.r.limit,.slice F2 m2 j2,.slice F3 m3 j3,.int .i64 u.lm,.int .i64 u.rm,.int .i64 u.seq],.agg #[.int .i64 2,.int .i64 ((j:Int)+1),.int .i64 1099511627776,.slice none 0 0]] wr fun r w'=> ∃(s':Jv) (vo:Value) (m:List Chn),r= .returned (.tuple #[s'.agg,vo,.int .i64 0])∧s'.jn=endS p J (j+1)∧OwnJ w' wr.heap.size s'∧OwnC w' wr.heap.size vo m∧Below wr.heap.size wr w'):=Lib.hid (by
    refine Calls.mono hsc ?_;rintro r w' ⟨s',vo,m,hr,hs,-,ho,hc,hb⟩;exact⟨s',vo,m,hr,hs,ho,hc,hb⟩)
   clear hx0 x1 x2' x3 x4 x5' hxo hxf hsc;clear u0 u1 u2 u3 hkj hgs hst;have p0:=HKPW.out.cellR 0 rfl;have p1:=HKPW.out.cellR 1 rfl;have p2:=HKPW.out.cellR 2 rfl;have p3:=HKPW.out.cellR 3 rfl;have p4:=HKPW.out.cellR 4 rfl;have p5:=HKPW.out.cellR 5 rfl;have p6:=HKPW.out.cellR 6 rfl;have p7:=HKPW.out.cellR 7 rfl;have p8:=HKPW.out.cellR 8 rfl;have p9:=HKPW.out.cellR 9 rfl;have p10:=HKPW.out.cellR 10 rfl;have p11:=HKPW.out.cellR 11 rfl;have p12:=HKPW.out.cellR 12 rfl;have s0:=HKUX.out.cellR 0 rfl;have s1:=HKUX.out.cellR 1 rfl;have s2:=HKUX.out.cellR 2 rfl;have s3:=HKUX.out.cellR 3 rfl;have s4:=HKUX.out.cellR 4 rfl;have s5:=HKUX.out.cellR 5 rfl;have s6:=HKUX.out.cellR 6 rfl;have s7:=HKUX.out.cellR 7 rfl;have s8:=HKUX.out.cellR 8 rfl
   go_wp2_with fail
   refine Calls.mono (by with_reducible exact HSC.out) ?_;rintro rr x5 ⟨x,vo5,m5,rfl,hxj,hOX,hCX,hb5⟩;obtain⟨H0,a0,b0,u0⟩:=own_slice hOX.l.mem.own;obtain⟨H1,a1,b1,u1⟩:=own_slice hOX.l.sl;obtain⟨H2,a2,b2,u2⟩:=own_slice hOX.r.mem.own;obtain⟨H3,a3,b3,u3⟩:=own_slice hOX.r.sl;have hxa:x.agg= .agg #[.int .i64 x.l.limit,.slice H0 a0 b0,.slice H1 a1 b1,.int .i64 x.r.limit,.slice H2 a2 b2,.slice H3 a3 b3,.int .i64 x.lm,.int .i64 x.rm,.int .i64 x.seq]:=by unfold Jv.agg;rw[u0,u1,u2,u3]
   have HJX:Hid (jA x= #[.int .i64 x.l.limit,.slice H0 a0 b0,.slice H1 a1 b1,.int .i64 x.r.limit,.slice H2 a2 b2,.slice H3 a3 b3,.int .i64 x.lm,.int .i64 x.rm,.int .i64 x.seq]):=Lib.hid (by unfold jA;rw[u0,u1,u2,u3]);rw[hxa];obtain⟨Cv5,cv5,hvo5,-⟩:=id (Sl.of_own hCX.own);subst hvo5;have HXJ:=Lib.hid hxj;have HK5:=Lib.hid (HKUX.out.below hb5);have HO5:=Lib.hid hOX;have HB5:Hid (Below W1.heap.size W1 x5):=Lib.hid (below_trans HBW.out.1 hb5);have HWX:Hid (wr.heap.size≤x5.heap.size):=Lib.hid hb5.size;clear p0 p1 p2 p3 p4 p5 p6 p7 p8 p9 p10 p11 p12 s0 s1 s2 s3 s4 s5 s6 s7 s8 u0 u1 u2 u3 hxa hxj hOX hCX hb5 HSC;have q0:=HK5.out.free 0;have y0:=HK5.out.cellR 0 rfl;have q1:=HK5.out.free 1;have y1:=HK5.out.cellR 1 rfl;have q2:=HK5.out.free 2;have y2:=HK5.out.cellR 2 rfl;have q3:=HK5.out.free 3;have y3:=HK5.out.cellR 3 rfl;have q4:=HK5.out.free 4;have y4:=HK5.out.cellR 4 rfl;have q5:=HK5.out.free 5;have y5:=HK5.out.cellR 5 rfl;have q6:=HK5.out.free 6;have y6:=HK5.out.cellR 6 rfl;have q7:=HK5.out.free 7;have y7:=HK5.out.cellR 7 rfl;have q8:=HK5.out.free 8;have y8:=HK5.out.cellR 8 rfl
   go_upto_region 4 with fail
   have HR9:=Lib.hid (HK5.out.set9 (.int .i64 x.l.limit) (.slice H0 a0 b0) (.slice H1 a1 b1) (.int .i64 x.r.limit) (.slice H2 a2 b2) (.slice H3 a3 b3) (.int .i64 x.lm) (.int .i64 x.rm) (.int .i64 x.seq));have HT9:=Lib.hid (turned_set9 x5 S (.int .i64 x.l.limit) (.slice H0 a0 b0) (.slice H1 a1 b1) (.int .i64 x.r.limit) (.slice H2 a2 b2) (.slice H3 a3 b3) (.int .i64 x.lm) (.int .i64 x.rm) (.int .i64 x.seq));obtain⟨W9,hW9⟩: ∃V,(((((((((x5.setCell ⟨S,0,none⟩ (.int .i64 x.l.limit)).setCell ⟨S,1,none⟩ (.slice H0 a0 b0)).setCell ⟨S,2,none⟩ (.slice H1 a1 b1)).setCell ⟨S,3,none⟩ (.int .i64 x.r.limit)).setCell ⟨S,4,none⟩ (.slice H2 a2 b2)).setCell ⟨S,5,none⟩ (.slice H3 a3 b3)).setCell ⟨S,6,none⟩ (.int .i64 x.lm)).setCell ⟨S,7,none⟩ (.int .i64 x.rm)).setCell ⟨S,8,none⟩ (.int .i64 x.seq))=V:=⟨_,rfl⟩;rw[hW9]at HR9 HT9
   try rw[hW9]
   clear hW9 q0 y0 q1 y1 q2 y2 q3 y3 q4 y4 q5 y5 q6 y6 q7 y7 q8 y8
   have HOX9:Hid (OwnJ W9 W1.heap.size x):=Lib.hid (by
    have h1:=HBW.out.2;have h2:=HS1.out;have hl:=HO5.out.l.turned HT9.out (fun k hk=>by rw[hk];exact own_farB HO5.out.l (by omega));have hr:=HO5.out.r.turned HT9.out (fun k hk=>by rw[hk];exact own_farB HO5.out.r (by omega));exact⟨hl.low (by omega),hr.low (by omega)⟩)
   have HOF9:Hid (∀k,k=S→x.l.off k∧x.r.off k):=Lib.hid (fun k hk=>by have h1:=HBW.out.2;rw[hk];exact⟨own_farB HO5.out.l (by omega),own_farB HO5.out.r (by omega)⟩);have HB9:Hid (Below W1.heap.size W1 W9∧S+1≤W9.heap.size):=Lib.hid ⟨below_turned HB5.out HT9.out (fun k hk=>by rw[hk];exact HS1.out),by have h1:=HBW.out.2;have h2:=HWX.out;have h3:=HT9.out.size;omega⟩;have HK9:Hid (Blk W9 S 31 (jA x)):=Lib.hid (by rw[HJX.out];exact HR9.out);go_wp2;go_roundw
   case rel=>
    first
     |exact⟨j+1,x,by omega,by go_num,rfl,HK9,HOX9,HOF9,HXJ,HB9⟩
     |((repeat apply Exists.intro);exact⟨⟨j+1,x,by omega,by go_num,rfl,HK9,HOX9,HOF9,HXJ,HB9⟩,rfl⟩)
   case measure=>simp[intOf];omega
  ·obtain rfl:j=2:=by omega
   have hj1: ¬((2:Nat):Int)+1≤2:=by omega
   have hen:=ends_join HGJ.out.1;rw[←show u.jn=endJ p (endJ p J 1) 2 from HUJ.out]at hen;have HEN:=Lib.hid hen;have hfit:=fit_goodJ HGU.out.1 HGU.out.2
   have HAL:Hid (Calls Tryz.prog 27 #[.agg #[.int .i64 u.l.limit,.slice F0 m0 j0,.slice F1 m1 j1]] wr fun e w'=> ∃v l,e= .returned (.tuple #[v,.int .i64 0])∧OwnE w' wr.heap.size v l∧ens l=sortE u.l.bu.all∧Below wr.heap.size wr w'):=Lib.hid (by
    have h:=HALL.out u.l wr HBW.out.1 HOU.out.l.ok hfit.l (check_zeroB.2 HGU.out.1.left);rw[u0,u1]at h;exact h)
   have HAR:Hid (∀V,Below wr.heap.size wr V→Calls Tryz.prog 27 #[.agg #[.int .i64 u.r.limit,.slice F2 m2 j2,.slice F3 m3 j3]] V fun e w'=> ∃v l,e= .returned (.tuple #[v,.int .i64 0])∧OwnE w' V.heap.size v l∧ens l=sortE u.r.bu.all∧Below V.heap.size V w'):=Lib.hid (fun V hV=>by
    have h:=HALL.out u.r V (below_trans HBW.out.1 hV) (HOU.out.r.below hV).ok hfit.r (check_zeroB.2 HGU.out.1.right);rw[u2,u3]at h;exact h)
   have HFT:=Lib.hid hfit;obtain⟨x0,hx0⟩: ∃q:Evv,q=⟨1,1,tm,.slice Ar r.length cr,r⟩:=⟨_,rfl⟩;obtain⟨H,hH⟩: ∃q,(stepJ p u.jn x0.ev).2.2=q:=⟨_,rfl⟩
   have hHne:H≠0:=by
    rw[←hH,hx0];exact step_late hen.2.2.2 tm r
   have x1:x0.kind=1:=by rw[hx0]
   have x2':x0.side=1:=by rw[hx0]
   have x3:x0.t=tm:=by rw[hx0]
   have x4:x0.v= .slice Ar r.length cr:=by rw[hx0]
   have x5':x0.r=r:=by rw[hx0]
   have HSF:Hid (∀V,Below wr.heap.size wr V→Calls Tryz.prog 17 #[.agg #[.int .i64 p.kind,.int .i64 p.mode,.int .i64 p.low,.int .i64 p.high,.int .i64 p.size,.int .i64 p.limit,.slice A0 p.left.length c0,.slice A1 p.right.length c1,.slice A2 p.lkeys.length c2,.slice A3 p.rkeys.length c3,.bool p.grouped,.slice A4 p.group.length c4,.slice A5 p.aggs.length c5],.agg #[.int .i64 u.l.limit,.slice F0 m0 j0,.slice F1 m1 j1,.int .i64 u.r.limit,.slice F2 m2 j2,.slice F3 m3 j3,.int .i64 u.lm,.int .i64 u.rm,.int .i64 u.seq],.agg #[.int .i64 1,.int .i64 1,.int .i64 tm,.slice Ar r.length cr]] V fun r w'=> ∃(s':Jv) (vo:Value) (m:List Chn),r= .returned (.tuple #[s'.agg,vo,.int .i64 H])∧OwnJ w' V.heap.size s'∧OwnC w' V.heap.size vo m∧Below V.heap.size V w'):=Lib.hid (fun V hV=>by
    have hB:=below_trans HBW.out.1 hV;have h:=HSP.out u x0 V hB (OwnJ.ok ⟨HOU.out.l.below hV,HOU.out.r.below hV⟩) hfit ⟨by rw[x4,x5'];exact HRO.out V hB⟩ ⟨by rw[x1];omega,by rw[x2'];omega,by rw[x3];exact HTM.out,by rw[x5'];exact HRF.out⟩;rw[hH,x1,x2',x3,x4,u0,u1,u2,u3]at h;refine Calls.mono h ?_;rintro r w' ⟨s',vo,m,hr,-,-,ho,hc,hb⟩;exact⟨s',vo,m,hr,ho,hc,hb⟩)
   have hHb:(H != 0)=true:=by simpa using hHne
   clear u0 u1 u2 u3 hkj hgs hen hfit hx0 hH hHne x1 x2' x3 x4 x5';have s0:=HKUX.out.cellR 0 rfl;have s1:=HKUX.out.cellR 1 rfl;have s2:=HKUX.out.cellR 2 rfl;have s3:=HKUX.out.cellR 3 rfl;have s4:=HKUX.out.cellR 4 rfl;have s5:=HKUX.out.cellR 5 rfl;have s6:=HKUX.out.cellR 6 rfl;have s7:=HKUX.out.cellR 7 rfl;have s8:=HKUX.out.cellR 8 rfl
   go_wp2_with fail
   refine Calls.mono (by with_reducible exact HAL.out) ?_;rintro rr x5 ⟨va,l,rfl,hOE,hens,hb5⟩
   have hl0:l=[]:=by
    have h1:u.l.bu.all=[]:=HEN.out.1;rw[h1]at hens;exact List.map_eq_nil_iff.1 (show ens l=[]from hens)
   subst hl0;obtain⟨Aa,ca,hva,-⟩:=id (Sl.of_own hOE.own);simp only[List.length_nil]at hva;subst hva;have HB5:=Lib.hid hb5;have HK5:=Lib.hid (HKUX.out.below hb5);have HP5:=Lib.hid ((HKP.out.below HBW.out.1).below hb5);clear s0 s1 s2 s3 s4 s5 s6 s7 s8 hOE hens hb5 HAL;have s3:=HK5.out.cellR 3 rfl;have s4:=HK5.out.cellR 4 rfl;have s5:=HK5.out.cellR 5 rfl
   go_wp2_with fail
   refine Calls.mono (by with_reducible exact HAR.out _ HB5.out) ?_;rintro rr x6 ⟨vb,L,rfl,hOE,hens,hb6⟩;obtain⟨Ab,cb,hvb,hq1,hq2,-⟩:=id (Sl.of_own hOE.own);subst hvb;have hLm:L.length≤9223372036854775807:=by unfold maxLen at hq2;omega
   have HOE:=Lib.hid hOE;have HENS:=Lib.hid hens;have HB6:Hid (Below wr.heap.size wr x6):=Lib.hid (below_trans HB5.out hb6);have p0:=(HP5.out.below hb6).cellR 0 rfl;have HP6:=Lib.hid (HP5.out.below hb6);have HK6:=Lib.hid (HK5.out.below hb6);clear s3 s4 s5 hOE hens hb6 hq1 hq2 HAR;by_cases hk3:p.kind=3
   case' pos=>have hkb:(p.kind != 3)=false:=by rw[hk3];rfl
   case' neg=>
    have hkb:(p.kind != 3)=true:=by simpa using hk3
    have hln:((L.length:Int) != 0)=false:=by
     have h1:u.r.bu.all=[]:=HEN.out.2.1 hk3;have h2:=HENS.out;rw[h1]at h2;rw[List.map_eq_nil_iff.1 (show ens L=[]from h2)];rfl
   all_goals
    clear hk3
    go_upto_region 13 with fail
    go_loopw[18] (fun iv wq=> ∃k:Nat,iv= .int .i64 ((k:Int)+1)∧(k=0∨k<L.length)∧Below x6.heap.size x6 wq) (fun iv _=>(L.length+1)-(intOf iv).toNat)
    case atStart=>exact⟨0,rfl,.inl rfl,Below.refl _ _⟩
    case round=>
     rename World=>wq
     obtain⟨k,rfl,hk,hbq⟩:=hrel;have HBQ:=Lib.hid hbq;by_cases hlt:k+1<L.length
     ·have hy:=List.getElem?_eq_getElem (l:=L) hlt
      have hz:=List.getElem?_eq_getElem (l:=L) (show k<L.length by omega)
      have hne:(L[k]'(by omega)).e.key≠(L[k+1]'hlt).e.key:=by
       have h1:=HEN.out.2.2.1;rw[show sortE u.jn.right.all=ens L from HENS.out.symm]at h1;have h2:=List.pairwise_iff_getElem.1 h1 k (k+1) (by rw[ens_len];omega) (by rw[ens_len];omega) (by omega);unfold ens at h2;rw[List.getElem_map,List.getElem_map]at h2;exact h2
      generalize (L[k+1]'hlt)=y at hy hne;generalize (L[k]'(by omega))=z at hz hne;have hsl:=(Sl.of_own HOE.out.own).below hbq;obtain⟨bo,oo,hA,-,hcs⟩:=ent_at hsl rfl hy;obtain⟨bo2,oo2,hA2,-,hcs2⟩:=ent_at hsl rfl hz;subst hA;injection hA2 with hA2;injection hA2 with e1 e2;subst e1 e2;have g1:=(hcs wq.drew (Below.refl _ wq).drew).1;have g0:=(hcs2 wq.drew (Below.refl _ wq).drew).1;have kb:((str y.e.key).toList==(str z.e.key).toList)=false:=by rw[str_toList,str_toList];simpa using Ne.symm hne
      have k0:(0:Int)≤(k:Int):=by omega
      have k1:(k:Int)+1<(L.length:Int):=by omega
      have k2:(k:Int)<(L.length:Int):=by omega
      have hw1:IntKind.i64.wrap ((k:Int)+1-1)=(k:Int):=by rw[IntKind.wrap_i64];omega
      have hw0:IntKind.i64.wrap (k:Int)=(k:Int):=by rw[IntKind.wrap_i64];omega
      have k3:(0:Int)≤(k:Int)+1:=by omega
      have hkn:((k:Int)+1).toNat=k+1:=by omega
      have HBD:Hid (Below x6.heap.size x6 wq.drew):=Lib.hid hbq.drew;clear hy hz hne hsl hcs hcs2 hbq hk
      go_upto_region 15 with fail
      refine tr (S:=(fun w'=>w'.cell? ⟨bo,oo+(k+1)*5,none⟩=some (.string (str y.e.key))∧w'.cell? ⟨bo,oo+k*5,none⟩=some (.string (str z.e.key)))) ⟨g1,g0⟩ (fun hHeld=> ?_);refine tk 0 ?_;refine tk 1 ?_;refine tk 2 ?_;refine tk 3 ?_;refine tk 4 ?_;refine tk 5 ?_;refine tk 6 ?_;refine tk 7 ?_;refine tk 8 ?_;refine tk 9 ?_;refine tk 10 ?_;refine tk 11 ?_;refine td ?_;go_wp2;go_roundw
      case rel=>exact⟨k+1,by go_num,.inr (by omega),HBD.out⟩
      case measure=>simp[intOf];omega
     ·have hge: ¬(k:Int)+1<(L.length:Int):=by omega
      have HBWQ:Hid (Below wr.heap.size wr wq):=Lib.hid (below_trans HB6.out hbq);have HPQ:=Lib.hid (HP6.out.below hbq);have HKQ:=Lib.hid (HK6.out.below hbq);clear hbq hk p0;have p0:=HPQ.out.cellR 0 rfl;have p1:=HPQ.out.cellR 1 rfl;have p2:=HPQ.out.cellR 2 rfl;have p3:=HPQ.out.cellR 3 rfl;have p4:=HPQ.out.cellR 4 rfl;have p5:=HPQ.out.cellR 5 rfl;have p6:=HPQ.out.cellR 6 rfl;have p7:=HPQ.out.cellR 7 rfl;have p8:=HPQ.out.cellR 8 rfl;have p9:=HPQ.out.cellR 9 rfl;have p10:=HPQ.out.cellR 10 rfl;have p11:=HPQ.out.cellR 11 rfl;have p12:=HPQ.out.cellR 12 rfl;have s0:=HKQ.out.cellR 0 rfl;have s1:=HKQ.out.cellR 1 rfl;have s2:=HKQ.out.cellR 2 rfl;have s3:=HKQ.out.cellR 3 rfl;have s4:=HKQ.out.cellR 4 rfl;have s5:=HKQ.out.cellR 5 rfl;have s6:=HKQ.out.cellR 6 rfl;have s7:=HKQ.out.cellR 7 rfl;have s8:=HKQ.out.cellR 8 rfl
      go_wp2_with fail
      refine Calls.mono (by with_reducible exact HSF.out _ HBWQ.out) ?_;rintro rr x8 ⟨x,vo8,m8,rfl,hOX,hCX,hb8⟩;obtain⟨H0,a0,b0,u0⟩:=own_slice hOX.l.mem.own;obtain⟨H1,a1,b1,u1⟩:=own_slice hOX.l.sl;obtain⟨H2,a2,b2,u2⟩:=own_slice hOX.r.mem.own;obtain⟨H3,a3,b3,u3⟩:=own_slice hOX.r.sl;have hxa:x.agg= .agg #[.int .i64 x.l.limit,.slice H0 a0 b0,.slice H1 a1 b1,.int .i64 x.r.limit,.slice H2 a2 b2,.slice H3 a3 b3,.int .i64 x.lm,.int .i64 x.rm,.int .i64 x.seq]:=by unfold Jv.agg;rw[u0,u1,u2,u3]
      rw[hxa];obtain⟨Cv8,cv8,hvo8,-⟩:=id (Sl.of_own hCX.own);subst hvo8;have HB8:Hid (Below W1.heap.size W1 (x8.alloc (.cells #[.int .i64 x.l.limit,.slice H0 a0 b0,.slice H1 a1 b1,.int .i64 x.r.limit,.slice H2 a2 b2,.slice H3 a3 b3,.int .i64 x.lm,.int .i64 x.rm,.int .i64 x.seq] 31))):=Lib.hid ((below_trans (below_trans HBW.out.1 HBWQ.out) hb8).alloc (below_trans (below_trans HBW.out.1 HBWQ.out) hb8).size _);clear u0 u1 u2 u3 hxa hOX hCX hb8 HSF p0 p1 p2 p3 p4 p5 p6 p7 p8 p9 p10 p11 p12 s0 s1 s2 s3 s4 s5 s6 s7 s8
      go_wp2_with fail
      refine(joinBegun_any _ (HMB.out _ HB8.out).1).mono ?_;rintro rr x9 ⟨rfl,hb9⟩;have HF:Hid (Below w.heap.size w x9):=Lib.hid (below_trans (HMB.out _ HB8.out).2 hb9);clear hb9;go_wp2;go_ret;exact⟨rfl,HF.out⟩
end Go.Proofs.YtjodlngbiikgfaaGreatDoor
