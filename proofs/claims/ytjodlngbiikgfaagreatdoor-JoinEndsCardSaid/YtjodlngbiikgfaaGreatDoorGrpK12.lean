/-sift: a buffer of new memory, of the entries that stay. -/
import Derived.Test.YtjodlngbiikgfaaGreatDoorGrpK6
import Derived.Test.YtjodlngbiikgfaaGreatDoorGrpK9
set_option linter.unusedSimpArgs false
set_option linter.unusedVariables false
namespace Go.Proofs.YtjodlngbiikgfaaGreatDoor
open Go.RowKit Go.Shelf
attribute [local go_sem] Oper.semAt_some
set_option maxRecDepth 100000 in
set_option maxHeartbeats 8000000 in
theorem sift_any (g:Nat)(cb:Array Value)(keep met:En→Bool)(b:Buf)(w:World)(hb:b.ok w)(hl: ∀k,(b.part k).2.length≤1000000)(hrl:b.runs.length≤1000000)(h8: ∀k,∀x∈(b.part k).2,x.e.r.length≤8)
 (eg: ∀(args:Array Value) (W:World),(callFunc g args).run Tryz.prog W= .ok (.enter g args) W)
 (hw: ∀(x:Ent) (W:World) (P:Nat),Below w.heap.size w W→w.heap.size≤P→Sl W x.v x.e.r.length (rowCells x.e.r)→Blk W P 63 #[.string (str x.e.key),.int .i64 x.e.t,.int .i64 x.e.s,x.v,.bool x.e.met]→
  Calls Tryz.prog g (#[.pointer (some ⟨P,0,none⟩)]++cb) W fun e w2=>e= .returned (.bool (keep x.e))∧Blk w2 P 63 #[.string (str x.e.key),.int .i64 x.e.t,.int .i64 x.e.s,x.v,.bool (met x.e)]∧W.grownBy w2 (some P)):
 Calls Tryz.prog 142 #[b.agg,.func (.func g) #[] cb] w fun e w'=> ∃b':Buf,e= .returned b'.agg∧OwnBuf w' (w.heap.size+5) b'∧b'.bu=siftB b.bu (siftF keep met)∧Below w.heap.size w w'∧w.heap.size+5≤w'.heap.size:=by
 have HO:=Lib.hid hb;have HL:=Lib.hid hl;have H8:=Lib.hid h8;have HW:=Lib.hid hw;have HSO:=Lib.hid (siftP_all b (siftF keep met));unfold Buf.agg;clear hb hl h8 hw;refine(callsIn_wide (n:=3)).1 ?_;refine callsIn_of_wp_marks Tryz.func142 rfl trivial ?_ rfl;simp only[Tryz.ntmps142,List.size_toArray,List.length_cons,List.length_nil,Nat.reduceAdd,Nat.reduceSub,Array.replicate_succ,Array.replicate_zero,List.push_toArray,List.append_toArray,List.nil_append,List.cons_append]
 gi_wp2_with (refine⟨trivial,?_⟩;gi_at_call 83;refine(callsIn_wide.2 (parts_any b _)).mono ?_;rintro e w' ⟨rfl,rfl⟩)
 have hB0:Below w.heap.size w (((((w.alloc (.cells #[.int .i64 b.limit,b.vm,b.vr] 29)).alloc (.cells #[.func (.func g) #[] cb] 211)).alloc (.cells #[.int .i64 0,.slice none 0 0,.slice none 0 0] 29)).alloc (.cells #[.int .i64 b.limit,.slice none 0 0,.slice none 0 0] 29)).alloc (.cells #[.int .i64 b.limit,b.vm,b.vr] 29)):=
  (((((Below.refl _ w).alloc (Nat.le_refl _) _).alloc (by simp) _).alloc (by simp;omega) _).alloc (by simp;omega) _).alloc (by simp;omega) _
 have k1:=(((Blk.new (w.alloc (.cells #[.int .i64 b.limit,b.vm,b.vr] 29)) 211 #[.func (.func g) #[] cb]).alloc (.cells #[.int .i64 0,.slice none 0 0,.slice none 0 0] 29)).alloc (.cells #[.int .i64 b.limit,.slice none 0 0,.slice none 0 0] 29)).alloc (.cells #[.int .i64 b.limit,b.vm,b.vr] 29);have k2:=((Blk.new ((w.alloc (.cells #[.int .i64 b.limit,b.vm,b.vr] 29)).alloc (.cells #[.func (.func g) #[] cb] 211)) 29 #[.int .i64 0,.slice none 0 0,.slice none 0 0]).alloc (.cells #[.int .i64 b.limit,.slice none 0 0,.slice none 0 0] 29)).alloc (.cells #[.int .i64 b.limit,b.vm,b.vr] 29);have k3:=(Blk.new (((w.alloc (.cells #[.int .i64 b.limit,b.vm,b.vr] 29)).alloc (.cells #[.func (.func g) #[] cb] 211)).alloc (.cells #[.int .i64 0,.slice none 0 0,.slice none 0 0] 29)) 29 #[.int .i64 b.limit,.slice none 0 0,.slice none 0 0]).alloc (.cells #[.int .i64 b.limit,b.vm,b.vr] 29);have k4:=Blk.new ((((w.alloc (.cells #[.int .i64 b.limit,b.vm,b.vr] 29)).alloc (.cells #[.func (.func g) #[] cb] 211)).alloc (.cells #[.int .i64 0,.slice none 0 0,.slice none 0 0] 29)).alloc (.cells #[.int .i64 b.limit,.slice none 0 0,.slice none 0 0] 29)) 29 #[.int .i64 b.limit,b.vm,b.vr];simp only[World.size_alloc]at k1 k2 k3 k4;obtain⟨W0,hW0⟩: ∃W0,((((w.alloc (.cells #[.int .i64 b.limit,b.vm,b.vr] 29)).alloc (.cells #[.func (.func g) #[] cb] 211)).alloc (.cells #[.int .i64 0,.slice none 0 0,.slice none 0 0] 29)).alloc (.cells #[.int .i64 b.limit,.slice none 0 0,.slice none 0 0] 29)).alloc (.cells #[.int .i64 b.limit,b.vm,b.vr] 29)=W0:=⟨_,rfl⟩;have hsz:W0.heap.size=w.heap.size+5:=by rw[←hW0];simp
 rw[hW0]at hB0 k1 k2 k3 k4⊢
 refine wpIn_rangeFunc_ownF rfl (by omega) (gf:=135) (lb:= #[.pointer (some ⟨w.heap.size+1+1+1+1,0,none⟩)]) rfl trivial (enters_of Tryz.func135 (by kernel_rfl) rfl)
  (parts_stops Fence.wide _ trivial rfl (by omega) (w.heap.size+1+1+1+1) b W0 k4 w hB0 HO.out) KpB.trans (KpB.put (by omega) (by omega)) (Below.refl _ _) (fun _=>rfl)
  (fun pre W=>(∃b':Buf,b'.bu=siftP b (siftF keep met) pre∧b'.runs.length≤pre.length∧OwnBuf W (w.heap.size+5) b'∧Blk W (w.heap.size+1) 211 #[.func (.func g) #[] cb]∧Blk W (w.heap.size+1+1) 29 #[.int .i64 0,.slice none 0 0,.slice none 0 0]∧Blk W (w.heap.size+1+1+1) 29 #[.int .i64 b.limit,b'.vm,b'.vr]∧w.heap.size+5≤W.heap.size)∧Below w.heap.size w W)
  (fun _ _ _=>False)
  (OwnFrom.and (Own.from (fun s A B row hs hg hr=>by
   obtain⟨b',h1,h2,h3,h4,h5,h6,h7⟩:=hs;exact⟨b',h1,h2,h3.recd hg hr,blk_own h4 hg hr,blk_own h5 hg hr,blk_own h6 hg hr,Nat.le_trans h7 hg.size⟩) _) (ownFrom_below (Nat.le_refl _) (by omega)))
  (fun c=>(fun _ _ _ _ h _ _=>h))
  ⟨⟨⟨b.limit,.slice none 0 0,[],.slice none 0 0,[]⟩,rfl,by simp,OwnBuf.empty _ _ _,k1,k2,k3,by omega⟩,hB0⟩
  (fun k=> {tmps:= #[.agg #[.int .i64 b.limit,b.vm,b.vr],.func (.func g) #[] cb,.pointer (some ⟨w.heap.size,0,none⟩),.pointer (some ⟨w.heap.size+1,0,none⟩),.pointer (some ⟨w.heap.size+1+1,0,none⟩),.pointer (some ⟨w.heap.size+1+1+1,0,none⟩),.int .i64 (idxP k),(b.part k).1,undef,undef,undef,
   .pointer (some ⟨w.heap.size,0,none⟩),.int .i64 b.limit,.agg #[.int .i64 b.limit,.slice none 0 0,.slice none 0 0],.agg #[.int .i64 b.limit,b.vm,b.vr],.func (.func 135) #[] #[.pointer (some ⟨w.heap.size+1+1+1+1,0,none⟩)],.int .i64 (idxP k),(b.part k).1,
   undef,undef,undef,undef,undef,undef,undef,undef,undef,undef,undef,undef,undef,undef,undef,undef,undef,undef,undef,undef,undef,undef,undef,undef,undef,undef,undef,undef,undef,undef],defers:=[]}) ?assign ?body ?done ?stop
 case assign=>
  intro l k W K hK;dsimp only[encP]
  gi_wp2
  exact hK
 case body=>
  rintro l pre k W ⟨⟨b',hbu,hrl',hob,hKF,hKR,hKO,hWs⟩,hB⟩ hpre;have HBU:=Lib.hid hbu;have HOB:=Lib.hid hob;have HKF:=Lib.hid hKF;have HKR:=Lib.hid hKR;have HKO:=Lib.hid hKO;have HPE:=Lib.hid (HO.out.part k);have HPL:=Lib.hid (H8.out k);have hpl:=HL.out k
  have HN:Hid ((k=0∧idxP k<0)∨(k≠0∧ ¬idxP k<0)):=Lib.hid (by
   cases k with
   |zero=>exact .inl ⟨rfl,by decide⟩
   |succ k=>exact .inr ⟨by omega,by show ¬(k:Int)<0;omega⟩)
  have HST:=Lib.hid (siftP_snoc b (siftF keep met) pre k);unfold sstep at HST;dsimp only;clear hbu hob hKF hKR hKO;generalize idxP k=n at HN⊢;generalize b.part k=p at HPE HPL hpl HST⊢;obtain⟨pv,pl⟩:=p;simp only at HPE HPL hpl HST⊢;obtain⟨A5,c5,rfl,hq1,hq2,-⟩:=id HPE.out.sl;unfold maxLen at hq2
  gi_wp2
  gi_loopw [8,10,20] (fun own _ i wr=> ∃(m:Nat) (v:Value) (o:List Ent),v=own∧i= .int .i64 m∧m≤pl.length∧Hid (ens o=((ens pl).take m).flatMap (siftF keep met))∧Hid (o.length≤m)∧Hid (OwnE wr W.heap.size v o)∧Below W.heap.size W wr) (fun _ _ i _=>pl.length-(intOf i).toNat)
  case atStart=>exact⟨0,_,[],rfl,rfl,by omega,Lib.hid (by simp[ens]),Lib.hid (by simp),Lib.hid (OwnE.nil _ _),Below.refl _ _⟩
  case round=>
   obtain⟨m,v,o,rfl,rfl,hm,HE,HOL,HOW,hbi⟩:=hrel;have hbq:=below_trans hB hbi;by_cases hml:m<pl.length
   ·have hx:=List.getElem?_eq_getElem (l:=pl) hml
    generalize pl[m]=x at hx;have hmem:=List.mem_of_getElem? hx;have HTK:=Lib.hid (ens_take hx);obtain⟨g5,off5,rfl,-,hc⟩:=ent_at HPE.out.sl rfl hx;obtain⟨Ax,cx,hvx,-⟩:=id (HPE.out.rows x hmem);have HSX:=Lib.hid (HPE.out.rows x hmem);have hxl:=HPL.out x hmem;have hWw:=hB.size;have hWi:=hbi.size;have hb1:=below_trans hbq (below_alloc wr (.cells #[.string (str x.e.key),.int .i64 x.e.t,.int .i64 x.e.s,x.v,.bool x.e.met] 63));have hbi1:=below_trans hbi (below_alloc wr (.cells #[.string (str x.e.key),.int .i64 x.e.t,.int .i64 x.e.s,x.v,.bool x.e.met] 63));have HWX:=Lib.hid (HW.out x _ wr.heap.size hb1 (by omega) (HSX.out.below hb1) (Blk.new wr 63 #[.string (str x.e.key),.int .i64 x.e.t,.int .i64 x.e.s,x.v,.bool x.e.met]));have HKF1:=(HKF.out.below hbi).alloc (.cells #[.string (str x.e.key),.int .i64 x.e.t,.int .i64 x.e.s,x.v,.bool x.e.met] 63);rw[hvx]at HWX HSX hb1 hbi1 HKF1;have HV:=Lib.hid hvx;simp only[hvx]at hc;clear hvx;obtain⟨d0,d1,d2,d3,d4⟩:=hc _ hbq;have f0:=HKF1.cell 0 _ rfl;have HKF1:=Lib.hid HKF1;clear hx hmem hc;have k0:(0:Int)≤(m:Int):=by omega
    have k1:(m:Int)<(pl.length:Int):=by omega
    have hwm:IntKind.i64.wrap ((m:Int)+1)=(m:Int)+1:=by rw[IntKind.wrap_i64];omega
    have HOW1:=Lib.hid (HOW.out.alloc (.cells #[.string (str x.e.key),.int .i64 x.e.t,.int .i64 x.e.s,.slice Ax x.e.r.length cx,.bool x.e.met] 63));have hb1s:(wr.alloc (.cells #[.string (str x.e.key),.int .i64 x.e.t,.int .i64 x.e.s,.slice Ax x.e.r.length cx,.bool x.e.met] 63)).heap.size=wr.heap.size+1:=by simp
    gi_wp2_with fail
    refine⟨trivial,(CallsIn.inRound l (callsIn_wide.2 HWX.out)).mono ?_⟩;rintro e w2 ⟨rfl,hK2,hg2⟩;have HK2:=Lib.hid hK2;have hbi2:=below_grown hbi1 hg2 (fun k hk=>by injection hk with hk;omega);have hbq2:=below_trans hB hbi2;have HKF2:=Lib.hid (HKF1.out.grown hg2 (fun e=>by injection e with e;omega));have HOW2:=Lib.hid (HOW1.out.grown hg2 (fun k hk e=>by injection e with e;have:=(HOW.out.range hk).2;omega));have HSX2:=Lib.hid (HSX.out.below hbq2);have hs2:=hg2.size;rw[hb1s]at hs2;clear hK2 hg2 hb1 hbi1 d0 d1 d2 d3 d4 f0 HWX hb1s;cases hk:keep x.e with
    |false=>
     have HE2:Hid (ens o=((ens pl).take (m+1)).flatMap (siftF keep met)):=Lib.hid (by rw[HTK.out,List.flatMap_append,←HE.out];simp[siftF_false hk]);clear hk
     gi_wp2
     go_roundw
     case rel=>exact⟨m+1,v,o,rfl,by go_num,by omega,HE2,Lib.hid (Nat.le_succ_of_le HOL.out),HOW2,hbi2⟩
     case measure=>simp[intOf];omega
    |true=>
     have HE2:Hid (ens o++[⟨x.e.key,x.e.t,x.e.s,x.e.r,met x.e⟩]=((ens pl).take (m+1)).flatMap (siftF keep met)):=Lib.hid (by rw[HTK.out,List.flatMap_append,←HE.out];simp[siftF_true hk]);have z0:=HK2.out.cell 0 _ rfl;have z1:=HK2.out.cell 1 _ rfl;have z2:=HK2.out.cell 2 _ rfl;have z3:=HK2.out.cell 3 _ rfl;have z4:=HK2.out.cell 4 _ rfl;have hol:=HOL.out;have HOE:=Lib.hid (own_ent ⟨.slice Ax x.e.r.length cx,⟨x.e.key,x.e.t,x.e.s,x.e.r,met x.e⟩⟩ w2 HSX2.out hxl);unfold Ent.agg at HOE;dsimp only at HOE;generalize met x.e=mt at HE2 HOE z4;clear hk
     gi_wp2_with fail
     refine⟨trivial,(CallsIn.inRound l (callsIn_wide.2 HOE.out)).mono ?_⟩;rintro e w4 ⟨cv,rfl,hcv,hcf,hb4⟩;obtain⟨Ac,cc,rfl,-⟩:=id hcv;have HOW4:=Lib.hid ((HOW2.out.below hb4).alloc (.cells #[.string (str x.e.key),.int .i64 x.e.t,.int .i64 x.e.s,.slice Ac x.e.r.length cc,.bool mt] 63));have S4:=Lib.hid (hcv.below (below_alloc w4 (.cells #[.string (str x.e.key),.int .i64 x.e.t,.int .i64 x.e.s,.slice Ac x.e.r.length cc,.bool mt] 63)));have hb6:=below_trans (below_trans hbi2 hb4) (below_alloc w4 (.cells #[.string (str x.e.key),.int .i64 x.e.t,.int .i64 x.e.s,.slice Ac x.e.r.length cc,.bool mt] 63));have HB6:=Lib.hid hb6;have HCV:=Lib.hid (fun k (hk:(Value.slice Ac x.e.r.length cc).ownBlock=some k)=>show W.heap.size≤k∧k<w4.heap.size∧v.ownBlock≠some k from⟨by have:=(hcf k hk).1;omega,(hcf k hk).2,fun e=>by have:=(HOW2.out.range (.inl e)).2;have:=(hcf k hk).1;omega⟩);have HBS:=Lib.hid hb6.size;have HS1:=Lib.hid (one_ent w4 ⟨.slice Ac x.e.r.length cc,⟨x.e.key,x.e.t,x.e.s,x.e.r,mt⟩⟩);have HON:=Lib.hid (ent_one (c:=⟨.slice Ac x.e.r.length cc,⟨x.e.key,x.e.t,x.e.s,x.e.r,mt⟩⟩) hcv);clear hb4 hb6 hcv hcf z0 z1 z2 z3 z4
     gi_wp2_with (gi_at_builtin;refine wpListIn_app rfl (.tmp 26) (.tmp 29) 26 rfl W.heap.size 63 5 64 Tryz.underlying26 entI v o.length _ rfl HOW4.out.own _ 1 (Ent.cells ⟨.slice Ac x.e.r.length cc,⟨x.e.key,x.e.t,x.e.s,x.e.r,mt⟩⟩) rfl HS1.out rfl HON.out ?_ ?_ HBS.out ?_)
     ·unfold maxLen;omega
     ·omega
     ·intro v7 w7 hown7 hg7 hat7
      have H7:=Lib.hid (HOW4.out.snoc (c:=⟨.slice Ac x.e.r.length cc,⟨x.e.key,x.e.t,x.e.s,x.e.r,mt⟩⟩) hown7 hg7 (by rw[World.size_alloc];exact hat7) S4.out (fun k hk=>by
       obtain⟨h1,h2,h3⟩:=HCV.out k hk;exact⟨h1,by simp;omega,h3⟩))
      have hb7:=below_grown HB6.out hg7 (own_ge HOW4.out.own);have HL7:Hid ((o++[(⟨.slice Ac x.e.r.length cc,⟨x.e.key,x.e.t,x.e.s,x.e.r,mt⟩⟩:Ent)]).length≤m+1):=Lib.hid (by simp;omega);have HE7:Hid (ens (o++[(⟨.slice Ac x.e.r.length cc,⟨x.e.key,x.e.t,x.e.s,x.e.r,mt⟩⟩:Ent)])=((ens pl).take (m+1)).flatMap (siftF keep met)):=Lib.hid (by rw[ens_snoc];exact HE2.out);clear hown7 hg7 hat7
      gi_wp2
      go_roundw
      case rel=>exact⟨m+1,v7,_,rfl,by go_num,by omega,HE7,HL7,H7,hb7⟩
      case measure=>simp[intOf];omega
   ·obtain rfl:m=pl.length:=by omega
    have HE2:Hid (ens o=(ens pl).flatMap (siftF keep met)):=Lib.hid (by rw[HE.out,List.take_of_length_le (by rw[ens_len];omega)]);have HKO2:=Lib.hid (HKO.out.below hbi);have HKF2:=Lib.hid (HKF.out.below hbi);have HKR2:=Lib.hid (HKR.out.below hbi);have HOB2:=Lib.hid (HOB.out.below hbi);have HAP:=Lib.hid (fun k (hk:EBlk v o k)=>HOB.out.apart HOW.out (Nat.le_refl _) hk);have KO1:=keeps_below hbi;have KP1:KpB w.heap.size (w.heap.size+1+1+1+1) W wr:=KpB.of_below (by omega) (by omega) hbi;have hwr:=hbi.size;obtain⟨Ao,co,rfl,-⟩:=Sl.of_own HOW.out.own;rcases HN.out with⟨hk0,hn0⟩|⟨hk0,hn0⟩
    ·have HST2:=Lib.hid (HST.out.trans (if_pos hk0))
     have f1:=HKO2.out.free 1;have q1:=HKO2.out.cell 1 _ rfl;have HK3:=Lib.hid (HKO2.out.set_ 1 (.slice Ao o.length co));have HK4:=Lib.hid (HKF2.out.far (p:=⟨w.heap.size+1+1+1,1,none⟩) (by show w.heap.size+1≠w.heap.size+1+1+1;omega) (.slice Ao o.length co));have HK5:=Lib.hid (HKR2.out.far (p:=⟨w.heap.size+1+1+1,1,none⟩) (by show w.heap.size+1+1≠w.heap.size+1+1+1;omega) (.slice Ao o.length co));have HO3:=Lib.hid ((HOB2.out.setFar (p:=⟨w.heap.size+1+1+1,1,none⟩) (by show w.heap.size+1+1+1<w.heap.size+5;omega) (.slice Ao o.length co)).setMem ((HOW.out.set (p:=⟨w.heap.size+1+1+1,1,none⟩) (by show w.heap.size+1+1+1<W.heap.size;omega) (.slice Ao o.length co)).low (by omega)) (fun k hk=>(HAP.out k hk).2));have hb3:=hbq.setCell (p:=⟨w.heap.size+1+1+1,1,none⟩) (by show w.heap.size≤w.heap.size+1+1+1;omega) (.slice Ao o.length co);have KO3:=KO1.trans (KeepsOthers.setCell wr ⟨w.heap.size+1+1+1,1,none⟩ (.slice Ao o.length co));have KP3:=KP1.set (p:=⟨w.heap.size+1+1+1,1,none⟩) (by show w.heap.size≤w.heap.size+1+1+1;omega) (by show w.heap.size+1+1+1+1≠w.heap.size+1+1+1;omega) (.slice Ao o.length co)
     have HBU3:Hid ((⟨b'.limit,.slice Ao o.length co,o,b'.vr,b'.runs⟩:Buf).bu=siftP b (siftF keep met) (pre++[k])):=Lib.hid (by
      rw[HST2.out,←HBU.out,←HE2.out];rfl)
     gi_wp2
     exact⟨KO3,KP3,⟨_,HBU3.out,by simp;omega,HO3.out,HK4.out,HK5.out,HK3.out,by simp[World.size_setCell];omega⟩,hb3⟩
    ·have HST2:=Lib.hid (HST.out.trans (if_neg hk0))
     by_cases h0:o.length=0
     ·have hz: ¬(0:Int)<(o.length:Int):=by omega
      have HBU3:Hid (b'.bu=siftP b (siftF keep met) (pre++[k])):=Lib.hid (by
       rw[HST2.out,if_pos (by rw[←HE2.out,List.length_eq_zero_iff.1 h0];rfl),HBU.out])
      gi_wp2
      exact⟨KO1,KP1,⟨_,HBU3.out,by simp;omega,HOB2.out,HKF2.out,HKR2.out,HKO2.out,by omega⟩,hbq⟩
     ·have hz:(0:Int)<(o.length:Int):=by omega
      have HNE:Hid ((ens pl).flatMap (siftF keep met)≠[]):=Lib.hid (by rw[←HE2.out];intro h;exact h0 (by have:=congrArg List.length h;rwa[ens_len]at this));have y2:=HKO2.out.cell 2 _ rfl;have HO3:=Lib.hid (HOB2.out.below (below_alloc wr (.cells #[.slice Ao o.length co] 26)));have HOW3:=Lib.hid ((HOW.out.alloc (.cells #[.slice Ao o.length co] 26)).low (base':=w.heap.size+5) (by omega));have HK3:=Lib.hid (HKO2.out.alloc (.cells #[.slice Ao o.length co] 26));have HK4:=Lib.hid (HKF2.out.alloc (.cells #[.slice Ao o.length co] 26));have HK5:=Lib.hid (HKR2.out.alloc (.cells #[.slice Ao o.length co] 26));have hb3:=below_trans hbq (below_alloc wr (.cells #[.slice Ao o.length co] 26));have KO3:=KO1.trans (KeepsOthers.alloc wr (.cells #[.slice Ao o.length co] 26));have KP3:=KP1.trans (KpB.of_below (m:=w.heap.size) (B:=w.heap.size+1+1+1+1) (by omega) (by omega) (below_alloc wr (.cells #[.slice Ao o.length co] 26)));have hbs:w.heap.size+5≤(wr.alloc (.cells #[.slice Ao o.length co] 26)).heap.size:=by simp;omega
      have HBS:=Lib.hid hbs;clear hbs h0
      gi_wp2_with (gi_at_builtin;refine wpListIn_app rfl (.tmp 42) (.tmp 44) 27 rfl (w.heap.size+5) 26 1 24 Tryz.underlying27 runI b'.vr b'.runs.length _ rfl HO3.out.sl _ 1 [.slice Ao o.length co] rfl (one_cellR wr 26 (.slice Ao o.length co)) rfl (by simp;rfl) ?_ ?_ HBS.out ?_)
      ·unfold maxLen;omega
      ·omega
      ·intro v7 w7 hown7 hg7 hat7
       obtain⟨A7,c7,hv7,-⟩:=Sl.of_own hown7;subst hv7;have HO7:=HO3.out.snoc HOW3.out HAP.out hown7 hg7 (by rw[World.size_alloc];exact hat7);have hge:=own_ge HO3.out.sl;have K7:=Lib.hid (HK3.out.grown hg7 (fun e=>by have:=hge _ e;omega));have f7:=K7.out.free 2;have q7:=K7.out.cell 2 _ rfl;have K8:=Lib.hid (K7.out.set_ 2 (.slice A7 (b'.runs.length+1) c7));have K9:=Lib.hid ((HK4.out.grown hg7 (fun e=>by have:=hge _ e;omega)).far (p:=⟨w.heap.size+1+1+1,2,none⟩) (by show w.heap.size+1≠w.heap.size+1+1+1;omega) (.slice A7 (b'.runs.length+1) c7));have K10:=Lib.hid ((HK5.out.grown hg7 (fun e=>by have:=hge _ e;omega)).far (p:=⟨w.heap.size+1+1+1,2,none⟩) (by show w.heap.size+1+1≠w.heap.size+1+1+1;omega) (.slice A7 (b'.runs.length+1) c7));have HO8:=Lib.hid (HO7.setFar (p:=⟨w.heap.size+1+1+1,2,none⟩) (by show w.heap.size+1+1+1<w.heap.size+5;omega) (.slice A7 (b'.runs.length+1) c7));have hb8:=(below_grown hb3 hg7 (fun k hk=>by have:=hge k hk;omega)).setCell (p:=⟨w.heap.size+1+1+1,2,none⟩) (by show w.heap.size≤w.heap.size+1+1+1;omega) (.slice A7 (b'.runs.length+1) c7);have KO8:=(KO3.trans (ko_own HO3.out.sl hg7)).trans (KeepsOthers.setCell w7 ⟨w.heap.size+1+1+1,2,none⟩ (.slice A7 (b'.runs.length+1) c7));have KP8:=(KP3.trans (kp_grown hg7 (by simp;omega) (by simp;omega) (fun k hk=>by have:=hge k hk;omega))).set (p:=⟨w.heap.size+1+1+1,2,none⟩) (by show w.heap.size≤w.heap.size+1+1+1;omega) (by show w.heap.size+1+1+1+1≠w.heap.size+1+1+1;omega) (.slice A7 (b'.runs.length+1) c7)
       have HBU3:Hid ((⟨b'.limit,b'.vm,b'.mem,.slice A7 (b'.runs.length+1) c7,b'.runs++[(.slice Ao o.length co,o)]⟩:Buf).bu=siftP b (siftF keep met) (pre++[k])):=Lib.hid (by
        rw[HST2.out,if_neg HNE.out,←HBU.out,←HE2.out];simp[Buf.bu])
       have hs7:=hg7.size;have HSZ:Hid (w.heap.size+5≤(w7.setCell ⟨w.heap.size+1+1+1,2,none⟩ (.slice A7 (b'.runs.length+1) c7)).heap.size):=Lib.hid (by rw[World.size_setCell];simp at hs7;omega);have HRL3:Hid ((b'.runs++[((Value.slice Ao o.length co),o)]).length≤(pre++[k]).length):=Lib.hid (by simp;omega);clear hown7 hg7 hat7 hge HO7 hs7
       gi_wp2
       exact⟨KO8,KP8,⟨_,HBU3.out,HRL3.out,HO8.out,K9.out,K10.out,K8.out,HSZ.out⟩,hb8⟩
 case done=>
  rintro D ys W hD rfl ⟨⟨b',hbu,hrl',hob,hKF,hKR,hKO,hWs⟩,hB⟩ hK;obtain⟨Am,cm,hvm,-⟩:=id hob.ok.mem.sl;obtain⟨Ar,cr,hvr,-⟩:=id hob.ok.sl;have HVM:=Lib.hid hvm;have HVR:=Lib.hid hvr;have HLI:Hid (b'.limit=b.limit):=Lib.hid ((congrArg Bu.limit hbu).trans (siftP_limit _ _ _));have HBU:=Lib.hid hbu;rw[hvm,hvr]at hKO;clear hvm hvr hbu;have z0:=hKO.cell 0 _ rfl;have z1:=hKO.cell 1 _ rfl;have z2:=hKO.cell 2 _ rfl;have r0:=hKR.cell 0 _ rfl;have r1:=hKR.cell 1 _ rfl;have r2:=hKR.cell 2 _ rfl;have g0:=hKR.free 0;have g1:=hKR.free 1;have g2:=hKR.free 2;have Z:=Lib.hid (((hKR.set_ 0 (.int .i64 b.limit)).set_ 1 (.slice Am b'.mem.length cm)).set_ 2 (.slice Ar b'.runs.length cr));have hp: ∀i,(⟨w.heap.size+1+1,i,none⟩:Addr).block<w.heap.size+5:=fun i=>by show w.heap.size+1+1<_;omega
  have hq: ∀i,w.heap.size≤(⟨w.heap.size+1+1,i,none⟩:Addr).block:=fun i=>by show w.heap.size≤w.heap.size+1+1;omega
  have HO8:=Lib.hid (((hob.setFar (hp 0) (.int .i64 b.limit)).setFar (hp 1) (.slice Am b'.mem.length cm)).setFar (hp 2) (.slice Ar b'.runs.length cr));have hb8:=((hB.setCell (hq 0) (.int .i64 b.limit)).setCell (hq 1) (.slice Am b'.mem.length cm)).setCell (hq 2) (.slice Ar b'.runs.length cr);have HKK:=Lib.hid ((((KeepsOthers.setCell W ⟨w.heap.size+1+1,0,none⟩ (.int .i64 b.limit)).trans (KeepsOthers.setCell _ ⟨w.heap.size+1+1,1,none⟩ (.slice Am b'.mem.length cm))).trans (KeepsOthers.setCell _ ⟨w.heap.size+1+1,2,none⟩ (.slice Ar b'.runs.length cr))).same D _ hK rfl);clear hob hp hq hKF hKO
  gi_wp2
  have hK':=HKK.out;refine⟨by simp,.inl ⟨_,_,rfl,run_takeDeferred hK',?_⟩⟩;have hrow: ∀r,some D=some r→ ∃o:Obj,(((W.setCell ⟨w.heap.size+1+1,0,none⟩ (.int .i64 b.limit)).setCell ⟨w.heap.size+1+1,1,none⟩ (.slice Am b'.mem.length cm)).setCell ⟨w.heap.size+1+1,2,none⟩ (.slice Ar b'.runs.length cr)).heap[r]?=some o∧o.isCells=false:=fun r e=>by cases e;exact⟨_,hK',rfl⟩
  have x0:=cell_kept (Z.out.cell 0 (.int .i64 b.limit) rfl) (grownBy_putObj' _ D (.deferred none)) hrow;have x1:=cell_kept (Z.out.cell 1 (.slice Am b'.mem.length cm) rfl) (grownBy_putObj' _ D (.deferred none)) hrow;have x2:=cell_kept (Z.out.cell 2 (.slice Ar b'.runs.length cr) rfl) (grownBy_putObj' _ D (.deferred none)) hrow;refine⟨.agg #[.int .i64 b.limit,.slice Am b'.mem.length cm,.slice Ar b'.runs.length cr],?_,?_⟩
  ·simp[results,Tryz.results142,go_sem,x0,x1,x2]
  ·refine⟨b',by rw[HLI.out,HVM.out,HVR.out],HO8.out.recd (grownBy_putObj' _ D (.deferred none)) hrow,by rw[HBU.out,HSO.out],hb8.trans (belowK_b (w:=W0) (by omega) _ D _ _ hD hK' rfl rfl),?_⟩
   have:=(grownBy_putObj' (((W.setCell ⟨w.heap.size+1+1,0,none⟩ (.int .i64 b.limit)).setCell ⟨w.heap.size+1+1,1,none⟩ (.slice Am b'.mem.length cm)).setCell ⟨w.heap.size+1+1,2,none⟩ (.slice Ar b'.runs.length cr)) D (.deferred none)).size;simp only[World.size_setCell]at this;omega
 case stop=>
  rintro D c pre W hD hpre ⟨⟩
end Go.Proofs.YtjodlngbiikgfaaGreatDoor
