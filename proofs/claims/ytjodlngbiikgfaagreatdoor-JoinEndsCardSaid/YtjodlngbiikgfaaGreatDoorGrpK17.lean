/-Scan a key's entries. New; a first look at buffers. A row of one's own is a slice. Joins in memory: the join, the event, the step at work. One entry's -/
import Derived.Test.YtjodlngbiikgfaaGreatDoorGrpK16
import Derived.Test.YtjodlngbiikgfaaGreatDoorGrpK6
import Derived.Test.YtjodlngbiikgfaaGreatDoorGrpK1
import Derived.Test.YtjodlngbiikgfaaGreatDoorGrpK9
import Derived.Test.YtjodlngbiikgfaaGreatDoorGrpK11
set_option linter.unusedSimpArgs false
set_option linter.unusedVariables false
namespace Go.Proofs.YtjodlngbiikgfaaGreatDoor
open Go.RowKit Go.Shelf
attribute [local go_sem] Oper.semAt_some
theorem okE_seq {e:En}(h:okE e=true):0≤e.s:=by
 unfold okE at h;simp only[Bool.and_eq_true]at h;have h1:=h.2;unfold inB at h1;exact(of_decide_eq_true h1).1
theorem filter_flatMap (l:List Nat)(f:Nat→List En)(p:En→Bool):(l.flatMap f).filter p=l.flatMap fun k=>(f k).filter p:=by
 induction l with
 |nil=>rfl
 |cons a t ih=>rw[List.flatMap_cons,List.filter_append,ih,List.flatMap_cons]
attribute [-go_sem] Builtin.append_ in
set_option maxRecDepth 100000 in
set_option maxHeartbeats 16000000 in
theorem scan_own (b:Buf)(key:List UInt8)(frm upto:Int)(w:World)(hb:b.ok w)(hf:b.fit)(hm:Mx w):
 Calls Tryz.prog 254 #[b.agg,.string (str key),.int .i64 frm,.int .i64 upto] w fun e w'=> ∃v l,e= .returned (.tuple #[v,.int .i64 (checkB b.bu)])∧OwnE w' w.heap.size v l∧ens l=(if checkB b.bu=0 then scanL b.bu key frm upto else[])∧Below w.heap.size w w':=by
 have HO:=Lib.hid hb;have hmx:Tryz.prog.follows .mixedOrders=true:=by kernel_rfl
 have HCH:=Lib.hid (fun w' (h:Below w.heap.size w w')=>bcheck_any b w' (hb.below h) hf (hm.below h));have HGD:=Lib.hid (check_zeroB (b:=b.bu));generalize checkB b.bu=CK at HCH HGD⊢;generalize hSL:(if CK=0 then scanL b.bu key frm upto else[])=SL;unfold Buf.agg at HCH⊢;have hB:=((((Below.refl _ w).alloc (Nat.le_refl _) (.cells #[.int .i64 b.limit,b.vm,b.vr] 29)).alloc (by simp) (.cells #[.string (str key)] 9)).alloc (by simp;omega) (.cells #[.int .i64 frm] 3)).alloc (by simp;omega) (.cells #[.int .i64 upto] 3);have k0:=(((Blk.new w 29 #[.int .i64 b.limit,b.vm,b.vr]).alloc (.cells #[.string (str key)] 9)).alloc (.cells #[.int .i64 frm] 3)).alloc (.cells #[.int .i64 upto] 3);have k1:=((Blk.new (w.alloc (.cells #[.int .i64 b.limit,b.vm,b.vr] 29)) 9 #[.string (str key)]).alloc (.cells #[.int .i64 frm] 3)).alloc (.cells #[.int .i64 upto] 3);have k2:=(Blk.new ((w.alloc (.cells #[.int .i64 b.limit,b.vm,b.vr] 29)).alloc (.cells #[.string (str key)] 9)) 3 #[.int .i64 frm]).alloc (.cells #[.int .i64 upto] 3);have k3:=Blk.new (((w.alloc (.cells #[.int .i64 b.limit,b.vm,b.vr] 29)).alloc (.cells #[.string (str key)] 9)).alloc (.cells #[.int .i64 frm] 3)) 3 #[.int .i64 upto];simp only[World.size_alloc]at k1 k2 k3;have HK0:=Lib.hid k0;have HK1:=Lib.hid k1;have HK2:=Lib.hid k2;have HK3:=Lib.hid k3;have y0:=k0.cell 0 _ rfl;have y1:=k0.cell 1 _ rfl;have y2:=k0.cell 2 _ rfl;clear hb hf hm k0 k1 k2 k3;refine(callsIn_wide (n:=3)).1 ?_;refine callsIn_of_wp_marks Tryz.func254 rfl trivial ?_ rfl;simp only[Tryz.ntmps254,List.size_toArray,List.length_cons,List.length_nil,Nat.reduceAdd,Nat.reduceSub,Array.replicate_succ,Array.replicate_zero,List.push_toArray,List.append_toArray,List.nil_append,List.cons_append]
 gi_wp2_with fail
 refine⟨trivial,(callsIn_wide.2 (HCH.out _ hB)).mono ?_⟩;rintro e w1 ⟨rfl,hb1⟩;have hbw1:=below_trans hB hb1;have HA0:=Lib.hid (HK0.out.below hb1);have HA1:=Lib.hid (HK1.out.below hb1);have HA2:=Lib.hid (HK2.out.below hb1);have HA3:=Lib.hid (HK3.out.below hb1);clear HK0 HK1 HK2 HK3 y0 y1 y2 hb1 hB HCH;by_cases hck:CK=0
 ·have HGO:=Lib.hid (HGD.out.1 hck)
  have HSL:Hid (SL=scanL b.bu key frm upto):=Lib.hid (hSL.symm.trans (if_pos hck));subst hck;have HE0:=Lib.hid (HA0.out.alloc (.cells #[.slice none 0 0] 26));have y0:=HE0.out.cell 0 _ rfl;have y1:=HE0.out.cell 1 _ rfl;have y2:=HE0.out.cell 2 _ rfl;clear hSL HGD
  gi_wp2_with (refine⟨trivial,?_⟩;gi_at_call 83;refine(callsIn_wide.2 (parts_any b _)).mono ?_;rintro e w' ⟨rfl,rfl⟩)
  have hB0:=below_trans (below_trans hbw1 (below_alloc w1 (.cells #[.slice none 0 0] 26))) (below_alloc _ (.cells #[.int .i64 b.limit,b.vm,b.vr] 29));have k1:=(HA1.out.alloc (.cells #[.slice none 0 0] 26)).alloc (.cells #[.int .i64 b.limit,b.vm,b.vr] 29);have k2:=(HA2.out.alloc (.cells #[.slice none 0 0] 26)).alloc (.cells #[.int .i64 b.limit,b.vm,b.vr] 29);have k3:=(HA3.out.alloc (.cells #[.slice none 0 0] 26)).alloc (.cells #[.int .i64 b.limit,b.vm,b.vr] 29);have k4:=(Blk.new w1 26 #[.slice none 0 0]).alloc (.cells #[.int .i64 b.limit,b.vm,b.vr] 29);have k5:=Blk.new (w1.alloc (.cells #[.slice none 0 0] 26)) 29 #[.int .i64 b.limit,b.vm,b.vr];simp only[World.size_alloc]at k5;obtain⟨W0,hW0⟩: ∃W0,(w1.alloc (.cells #[.slice none 0 0] 26)).alloc (.cells #[.int .i64 b.limit,b.vm,b.vr] 29)=W0:=⟨_,rfl⟩;have hsz:W0.heap.size=w1.heap.size+2:=by rw[←hW0];simp
  rw[hW0]at hB0 k1 k2 k3 k4 k5⊢;have hw1:=hbw1.size;have hw13:w.heap.size+1+1+1<w1.heap.size:=HA3.out.lt;clear y0 y1 y2 HE0 HA0 HA1 HA2 HA3 hW0;have HFE:=Lib.hid (fun k x (hx:x∈(b.part k).2)=>HGO.out.ok _ (part_mem hx));have HALL:Hid (b.bu.all=(List.range (b.runs.length+1)).flatMap fun k=>ens (b.part k).2):=Lib.hid (pre_all b);have hrl:=good_runs HGO.out
  have HUPK:=Lib.hid (fun k=>show Up (ens (b.part k).2)from by
   by_cases hk:k<b.runs.length+1
   ·exact HGO.out.up _ (by rw[parts_eq];exact List.mem_map.2 ⟨k,List.mem_range.2 hk,rfl⟩)
   ·obtain⟨j,rfl⟩: ∃j,k=j+1:=⟨k-1,by omega⟩
    simp only[Buf.part,List.getElem?_eq_none (l:=b.runs) (i:=j) (by omega),Option.getD_none];exact .nil)
  have hrl':b.runs.length≤1000000:=by omega
  clear hrl
  refine wpIn_rangeFunc_ownF rfl (by omega) (gf:=135) (lb:= #[.pointer (some ⟨w1.heap.size+1,0,none⟩)]) rfl trivial (enters_of Tryz.func135 (by kernel_rfl) rfl)
   (parts_stops Fence.wide _ trivial rfl (by omega) (w1.heap.size+1) b W0 k5 w hB0 HO.out) KpB.trans (KpB.put (by omega) (by omega)) (Below.refl _ _) (fun _=>rfl)
   (fun pre W=>(∃v o,ens o=pre.flatMap (fun k=>(ens (b.part k).2).filter (scanP key frm upto))∧o.length≤pre.length*1000000∧OwnE W (w1.heap.size+2) v o∧(Blk W (w.heap.size+1) 9 #[.string (str key)]∧Blk W (w.heap.size+1+1) 3 #[.int .i64 frm]∧Blk W (w.heap.size+1+1+1) 3 #[.int .i64 upto])∧Blk W w1.heap.size 26 #[v]∧w1.heap.size+2≤W.heap.size)∧Below w.heap.size w W)
   (fun _ _ _=>False)
   (OwnFrom.and (Own.from (fun s A B row hs hg hr=>by
    obtain⟨v,o,h1,h2,h3,⟨a1,a2,a3⟩,h4,h7⟩:=hs;exact⟨v,o,h1,h2,h3.recd hg hr,⟨blk_own a1 hg hr,blk_own a2 hg hr,blk_own a3 hg hr⟩,blk_own h4 hg hr,Nat.le_trans h7 hg.size⟩) _) (ownFrom_below (Nat.le_refl _) (by omega)))
   (fun c=>(fun _ _ _ _ h _ _=>h))
   ⟨⟨.slice none 0 0,[],rfl,by simp,OwnE.nil _ _,⟨k1,k2,k3⟩,k4,by omega⟩,hB0⟩
   (fun k=> {tmps:= #[.agg #[.int .i64 b.limit,b.vm,b.vr],.string (str key),.int .i64 frm,.int .i64 upto,.pointer (some ⟨w.heap.size,0,none⟩),.pointer (some ⟨w.heap.size+1,0,none⟩),.pointer (some ⟨w.heap.size+1+1,0,none⟩),.pointer (some ⟨w.heap.size+1+1+1,0,none⟩),.slice none 0 0,.int .i64 0,.int .i64 0,.pointer (some ⟨w1.heap.size,0,none⟩),undef,(b.part k).1,undef,undef,.agg #[.int .i64 b.limit,b.vm,b.vr],.int .i64 0,.int .i64 0,.bool false,undef,.agg #[.int .i64 b.limit,b.vm,b.vr],.func (.func 135) #[] #[.pointer (some ⟨w1.heap.size+1,0,none⟩)],.int .i64 (idxP k),(b.part k).1,undef,undef,undef,undef,undef,undef,undef,undef,undef,undef,undef,undef,undef,undef,undef,undef,undef,undef,undef,undef,undef,undef,undef,undef,undef,undef,undef,undef,undef,undef,undef,undef,undef,undef,undef,undef,undef,undef,undef,undef,undef,undef,undef],defers:=[]}) ?assign ?body ?done ?stop
  case assign=>
   intro l k W K hK;dsimp only[encP]
   gi_wp2
   exact hK
  case body=>
   rintro l pre k W ⟨⟨v0,o0,he0,hl0,hown0,⟨a1,a2,a3⟩,hKO,hWs⟩,hB⟩ hpre;have HE0:=Lib.hid he0;have HL0:=Lib.hid hl0;have HOW0:=Lib.hid hown0;have HA1:=Lib.hid a1;have HA2:=Lib.hid a2;have HA3:=Lib.hid a3;have HKO0:=Lib.hid hKO;have HPE:=Lib.hid (HO.out.part k);have hpl:(b.part k).2.length≤1000000:=by have h1:=part_len b k;have h2:=HGO.out.few;omega
   have HOK:=Lib.hid (HFE.out k);have HST:Hid ((pre++[k]).flatMap (fun k=>(ens (b.part k).2).filter (scanP key frm upto))=ens o0++(ens (b.part k).2).filter (scanP key frm upto)):=Lib.hid (by rw[List.flatMap_append,←he0];simp);have HPP:=Lib.hid hpre;have HBS:=Lib.hid (bsearch_any (b.part k).1 (b.part k).2 ⟨.slice none 0 0,⟨key,frm,-1,[],false⟩⟩ W ((HO.out.part k).below hB) hpl (HUPK.out k));have HUK:=Lib.hid (HUPK.out k);have y1:=a1.cell 0 _ rfl;have y2:=a2.cell 0 _ rfl;unfold Ent.agg at HBS;dsimp only at HBS;clear he0 hl0 hown0 hKO a1 a2 a3;generalize idxP k=n;generalize b.part k=p at HPE hpl HST HBS HUK HOK⊢;obtain⟨pv,pl⟩:=p;simp only at HPE hpl HST HBS HUK HOK⊢;obtain⟨A5,c5,rfl,hq1,hq2,-⟩:=id HPE.out.sl;unfold maxLen at hq2
   gi_wp2_with fail
   refine⟨trivial,(CallsIn.inRound l (callsIn_wide.2 HBS.out)).mono ?_⟩;rintro e w2 ⟨i,is,rfl,hpos,-,hb2⟩;have HPOS:=Lib.hid hpos;have hil:i≤pl.length:=by have:=hpos.le;rwa[ens_len]at this
   have hB2:=below_trans hB hb2;have KO2:=Lib.hid (keeps_below hb2);have KP2:=Lib.hid (show KpB w.heap.size (w1.heap.size+1) W w2 from KpB.of_below (by omega) (by omega) hb2);have HOW2:=Lib.hid (HOW0.out.below hb2);have HKO2:=Lib.hid (HKO0.out.below hb2);have HA12:=Lib.hid (HA1.out.below hb2);have HA22:=Lib.hid (HA2.out.below hb2);have HA32:=Lib.hid (HA3.out.below hb2);clear hpos hb2 y1 y2 HBS
   gi_wp2
   gi_loopw [14] (fun t wr=> ∃(j:Nat) (I:Int) (v:Value) (o:List Ent),t= .int .i64 I∧Hid (I=(j:Int))∧i≤j∧j≤pl.length∧Hid (∀q x,i≤q→q<j→(ens pl)[q]?=some x→scanQ key upto x=true)∧Hid (ens o=ens o0++((ens pl).take j).drop i)∧Hid (o.length≤o0.length+(j-i))∧Hid (OwnE wr (w1.heap.size+2) v o)∧Hid (Blk wr (w.heap.size+1) 9 #[.string (str key)]∧Blk wr (w.heap.size+1+1) 3 #[.int .i64 frm]∧Blk wr (w.heap.size+1+1+1) 3 #[.int .i64 upto])∧Hid (Blk wr w1.heap.size 26 #[v])∧Hid (KeepsOthers W wr)∧Hid (KpB w.heap.size (w1.heap.size+1) W wr)∧Below w.heap.size w wr) (fun t _=>pl.length-(intOf t).toNat)
   case atStart=>exact⟨i,i,v0,o0,rfl,Lib.hid rfl,by omega,hil,Lib.hid (fun q x h1 h2=>by omega),Lib.hid (by rw[List.drop_eq_nil_of_le (by rw[List.length_take];omega),List.append_nil]),Lib.hid (by omega),HOW2,Lib.hid ⟨HA12.out,HA22.out,HA32.out⟩,HKO2,KO2,KP2,hB2⟩
   case round=>
    obtain⟨j,I,v,o,rfl,HI,hij,hj,HQ,HE,HOL,HOW,HAA,HKO,HKO3,HKP,hbq⟩:=hrel;obtain⟨a1,a2,a3⟩:=HAA.out;have hIn:I.toNat=j:=by have:=HI.out;omega
    have k0:(0:Int)≤I:=by have:=HI.out;omega
    have b1:=a1.cell 0 _ rfl;have b3:=a3.cell 0 _ rfl;clear a1 a2 a3
    have HEND:Hid ((∀x,(ens pl)[j]?=some x→scanQ key upto x=false)→ens o=(pre++[k]).flatMap (fun k=>(ens (b.part k).2).filter (scanP key frm upto))):=Lib.hid (fun h=>by
     rw[HE.out,HST.out,scan_part HUK.out (fun x hx=>by
      obtain⟨y,hy,rfl⟩:=List.mem_map.1 hx;exact(okE_seq (HOK.out y hy))) HPOS.out hij HQ.out h])
    have HL7:Hid (o.length≤(pre++[k]).length*1000000):=Lib.hid (by have h1:=HOL.out;have h2:=HL0.out;rw[List.length_append,List.length_singleton];omega);have hws:=HKO3.out.size;by_cases hml:j<pl.length
    ·have hx:=List.getElem?_eq_getElem (l:=pl) hml
     generalize pl[j]=x at hx;have hmem:=List.mem_of_getElem? hx;have HXA:=Lib.hid (ens_at hx);obtain⟨g5,off5,rfl,-,hc⟩:=ent_at HPE.out.sl rfl hx;obtain⟨Ax,cx,hvx,-⟩:=id (HPE.out.rows x hmem);have HSX:=Lib.hid (HPE.out.rows x hmem);have HXS:=Lib.hid (okE_short (HOK.out x hmem));rw[hvx]at HSX;simp only[hvx]at hc;clear hvx;have HC:=Lib.hid hc;obtain⟨d0,d1,d2,d3,d4⟩:=hc _ hbq;have k1:I<(pl.length:Int):=by have:=HI.out;omega
     have hwm:IntKind.i64.wrap (I+1)=I+1:=by rw[IntKind.wrap_i64];have:=HI.out;omega
     have HQX:Hid (scanQ key upto x.e=(((str x.e.key).toList==(str key).toList)&&decide (x.e.t≤upto))):=Lib.hid (by unfold scanQ;rw[str_toList,str_toList]);clear hx hmem hc;cases h5:(str x.e.key).toList==(str key).toList with
     |false=>
      have HF:=Lib.hid (HEND.out (fun y hy=>by rw[HXA.out]at hy;injection hy with hy;rw[←hy,HQX.out,h5];rfl))
      gi_wp2_with fail
      refine regionIn_held (S:=(fun w'=>w'.cell? ⟨g5,off5+j*5,none⟩=some (.string (str x.e.key))∧w'.cell? ⟨w.heap.size+1,0,none⟩=some (.string (str key)))) hmx (by kernel_rfl) (by rintro⟨a,w,h⟩;exact h) (And.intro (d0) (b1)) (fun hHeld=> ?_);refine tk 0 ?_;refine tk 1 ?_;refine tk 2 ?_;refine tk 3 ?_;refine tk 4 ?_;refine tk 5 ?_;refine tk 6 ?_;refine tk 7 ?_;refine tk 8 ?_;refine tk 9 ?_;refine tk 10 ?_;refine tk 11 ?_;refine tk 12 ?_;refine tk 13 ?_;refine tn 14 ?_;refine tn 15 ?_;refine tn 16 ?_;refine tn 17 ?_;refine tn 18 ?_;refine tn 19 ?_;refine tn 20 ?_;refine tk 21 ?_;refine td ?_
      gi_wp2
      exact⟨(HKO3.out).trans (KeepsOthers.drew _),(HKP.out).trans (KpB.of_below (by omega) (by omega) (Below.refl _ _).drew),⟨v,o,HF.out,HL7.out,HOW.out.drew,HAA.out,HKO.out,by show w1.heap.size+2≤wr.heap.size;omega⟩,hbq.drew⟩
     |true=>
      by_cases ht:x.e.t≤upto
      ·have HQ2:Hid (∀q y,i≤q→q<j+1→(ens pl)[q]?=some y→scanQ key upto y=true):=Lib.hid (fun q y h1 h2 hy=>by
        by_cases e:q=j
        ·subst e
         rw[HXA.out]at hy;injection hy with hy;rw[←hy,HQX.out,h5,decide_eq_true ht];rfl
        ·exact HQ.out q y h1 (by omega) hy)
       have HTK:Hid (((ens pl).take (j+1)).drop i=((ens pl).take j).drop i++[x.e]):=Lib.hid (by rw[List.take_add_one,HXA.out,List.drop_append_of_le_length (by rw[List.length_take,ens_len];omega)];rfl)
       gi_wp2_with fail
       refine regionIn_held (S:=(fun w'=>w'.cell? ⟨g5,off5+j*5,none⟩=some (.string (str x.e.key))∧w'.cell? ⟨w.heap.size+1,0,none⟩=some (.string (str key))∧w'.cell? ⟨g5,off5+j*5+1,none⟩=some (.int .i64 x.e.t)∧w'.cell? ⟨w.heap.size+1+1+1,0,none⟩=some (.int .i64 upto))) hmx (by kernel_rfl) (by rintro⟨a,w,h⟩;exact h) (And.intro (d0) (And.intro (b1) (And.intro (d1) (b3)))) (fun hHeld=> ?_);refine tk 0 ?_;refine tk 1 ?_;refine tk 2 ?_;refine tk 3 ?_;refine tk 4 ?_;refine tk 5 ?_;refine tk 6 ?_;refine tk 7 ?_;refine tk 8 ?_;refine tk 9 ?_;refine tk 10 ?_;refine tk 11 ?_;refine tk 12 ?_;refine tk 13 ?_;refine tk 14 ?_;refine tk 15 ?_;refine tk 16 ?_;refine tk 17 ?_;refine tk 18 ?_;refine tk 19 ?_;refine tk 20 ?_;refine tk 21 ?_;refine td ?_;have hbq':=hbq.drew;obtain⟨d0,d1,d2,d3,d4⟩:=HC.out _ hbq';have f0:=(HKO.out.drew).cell 0 _ rfl;have HOB:Hid (o.length≤1000002000000):=Lib.hid (by have h1:=HOL.out;have h2:=HL0.out;have h3:=HPP.out;omega);have HOE:=Lib.hid (own_ent ⟨.slice Ax x.e.r.length cx,x.e⟩ _ (HSX.out.below hbq'.drew) HXS.out);unfold Ent.agg at HOE;dsimp only at HOE
       gi_wp2_with fail
       gi_region_with_o (first
        |(refine⟨trivial,(CallsIn.inRound l (callsIn_wide.2 HOE.out)).mono ?_⟩
          rintro e w4 ⟨cv,rfl,hcv,hcf,hb4⟩;obtain⟨Ac,cc,rfl,-⟩:=id hcv;have hb4':Below wr.heap.size wr w4:=((Below.refl _ wr).drew.drew).trans hb4;have HOW4:=((HOW.out.below hb4')).alloc (.cells #[.string (str x.e.key),.int .i64 x.e.t,.int .i64 x.e.s,.slice Ac x.e.r.length cc,.bool x.e.met] 63);have HS1:=one_ent w4 ⟨.slice Ac x.e.r.length cc,x.e⟩;have HON:=ent_one (c:=⟨.slice Ac x.e.r.length cc,x.e⟩) hcv;have KO4:=Lib.hid ((HKO.out.below hb4').alloc (.cells #[.string (str x.e.key),.int .i64 x.e.t,.int .i64 x.e.s,.slice Ac x.e.r.length cc,.bool x.e.met] 63));have f1:=(HKO.out.below hb4').cell 0 _ rfl;have f2:=KO4.out.cell 0 _ rfl;have hs4:=hb4'.size;obtain⟨c0,c1,c2,c3,c4⟩:=HC.out _ (below_trans hbq hb4');obtain⟨v7,w7,hrun,hown7,hg7,hat7⟩:=run_app (P:=Tryz.prog) (w1.heap.size+2) 26 26 63 5 64 Tryz.underlying26 entI v o.length _ HOW4.own _ 1 (Ent.cells ⟨.slice Ac x.e.r.length cc,x.e⟩) HS1 rfl HON (by unfold maxLen;have:=HOB.out;omega) (by have:=HOB.out;omega) (by simp;omega);have q7:=(KO4.out.grown hg7 (fun e=>by have:=own_ge HOW4.own _ e;omega)).cell 0 _ rfl;have e7:=(KO4.out.grown hg7 (fun e=>by have:=own_ge HOW4.own _ e;omega)).free 0;obtain⟨A7,c7,rfl,-⟩:=Sl.of_own hown7)
        |fail)
       all_goals
        have hw4:=below_trans hb4' (below_alloc w4 (.cells #[.string (str x.e.key),.int .i64 x.e.t,.int .i64 x.e.s,.slice Ac x.e.r.length cc,.bool x.e.met] 63));have S4:=hcv.below (below_alloc w4 (.cells #[.string (str x.e.key),.int .i64 x.e.t,.int .i64 x.e.s,.slice Ac x.e.r.length cc,.bool x.e.met] 63))
        have H7:=HOW4.snoc (c:=⟨.slice Ac x.e.r.length cc,x.e⟩) hown7 hg7 hat7 S4 (fun k hk=>⟨by have h1:=(hcf k hk).1;have h2:wr.heap.size≤k:=h1;omega,by have:=(hcf k hk).2;simp;omega,fun e=>by
         have h1:=(HOW.out.range (.inl e)).2;have h2:wr.heap.size≤k:=(hcf k hk).1;omega⟩)
        have H8:=Lib.hid (H7.set (p:=⟨w1.heap.size,0,none⟩) (by show w1.heap.size<w1.heap.size+2;omega) (.slice A7 (o.length+1) c7));have hge:=own_ge HOW4.own;have K8:=Lib.hid ((KO4.out.grown hg7 (fun e=>by have:=hge _ e;omega)).set_ 0 (.slice A7 (o.length+1) c7))
        have HA8:Hid (Blk (w7.setCell ⟨w1.heap.size,0,none⟩ (.slice A7 (o.length+1) c7)) (w.heap.size+1) 9 #[.string (str key)]∧Blk (w7.setCell ⟨w1.heap.size,0,none⟩ (.slice A7 (o.length+1) c7)) (w.heap.size+1+1) 3 #[.int .i64 frm]∧Blk (w7.setCell ⟨w1.heap.size,0,none⟩ (.slice A7 (o.length+1) c7)) (w.heap.size+1+1+1) 3 #[.int .i64 upto]):=Lib.hid
         ⟨((HAA.out.1.below hw4).grown hg7 (fun e=>by have:=hge _ e;omega)).far (by show w.heap.size+1≠w1.heap.size;omega) _,((HAA.out.2.1.below hw4).grown hg7 (fun e=>by have:=hge _ e;omega)).far (by show w.heap.size+1+1≠w1.heap.size;omega) _,((HAA.out.2.2.below hw4).grown hg7 (fun e=>by have:=hge _ e;omega)).far (by show w.heap.size+1+1+1≠w1.heap.size;omega) _⟩
        have hb8:=(below_grown (below_trans hbq hw4) hg7 (fun k hk=>by have:=hge k hk;omega)).setCell (p:=⟨w1.heap.size,0,none⟩) (by show w.heap.size≤w1.heap.size;omega) (.slice A7 (o.length+1) c7);have KO8:=Lib.hid (((HKO3.out.trans (keeps_below hw4)).trans (ko_own HOW4.own hg7)).trans (KeepsOthers.setCell w7 ⟨w1.heap.size,0,none⟩ (.slice A7 (o.length+1) c7)));have KP8:=Lib.hid (((HKP.out.trans (KpB.of_below (by omega) (by omega) hw4)).trans (kp_grown hg7 (by simp;omega) (by simp;omega) (fun k hk=>by have:=hge k hk;omega))).set (p:=⟨w1.heap.size,0,none⟩) (by show w.heap.size≤w1.heap.size;omega) (by show w1.heap.size+1≠w1.heap.size;omega) (.slice A7 (o.length+1) c7));have HE7:Hid (ens (o++[(⟨.slice Ac x.e.r.length cc,x.e⟩:Ent)])=ens o0++((ens pl).take (j+1)).drop i):=Lib.hid (by rw[ens_snoc,HE.out,HTK.out,List.append_assoc]);have HL8:Hid ((o++[(⟨.slice Ac x.e.r.length cc,x.e⟩:Ent)]).length≤o0.length+(j+1-i)):=Lib.hid (by have:=HOL.out;simp;omega);clear hw4 S4 H7 hge hown7 hg7 hat7 HOW4 HS1 HON hcv hcf hb4 hb4' hrun c0 c1 c2 c3 c4
        gi_wp2
        go_roundw
        case rel=>exact⟨j+1,I+1,_,_,rfl,Lib.hid (by have:=HI.out;omega),by omega,by omega,HQ2,HE7,HL8,H8,HA8,K8,KO8,KP8,hb8⟩
        case measure=>have:=HI.out;simp[intOf];omega
      ·have HF:=Lib.hid (HEND.out (fun y hy=>by rw[HXA.out]at hy;injection hy with hy;rw[←hy,HQX.out,decide_eq_false ht,Bool.and_false]))
       gi_wp2_with fail
       refine regionIn_held (S:=(fun w'=>w'.cell? ⟨g5,off5+j*5,none⟩=some (.string (str x.e.key))∧w'.cell? ⟨w.heap.size+1,0,none⟩=some (.string (str key))∧w'.cell? ⟨g5,off5+j*5+1,none⟩=some (.int .i64 x.e.t)∧w'.cell? ⟨w.heap.size+1+1+1,0,none⟩=some (.int .i64 upto))) hmx (by kernel_rfl) (by rintro⟨a,w,h⟩;exact h) (And.intro (d0) (And.intro (b1) (And.intro (d1) (b3)))) (fun hHeld=> ?_);refine tk 0 ?_;refine tk 1 ?_;refine tk 2 ?_;refine tk 3 ?_;refine tk 4 ?_;refine tk 5 ?_;refine tk 6 ?_;refine tk 7 ?_;refine tk 8 ?_;refine tk 9 ?_;refine tk 10 ?_;refine tk 11 ?_;refine tk 12 ?_;refine tk 13 ?_;refine tk 14 ?_;refine tk 15 ?_;refine tk 16 ?_;refine tk 17 ?_;refine tk 18 ?_;refine tk 19 ?_;refine tk 20 ?_;refine tk 21 ?_;refine td ?_
       gi_wp2
       exact⟨(HKO3.out).trans (KeepsOthers.drew _),(HKP.out).trans (KpB.of_below (by omega) (by omega) (Below.refl _ _).drew),⟨v,o,HF.out,HL7.out,HOW.out.drew,HAA.out,HKO.out,by show w1.heap.size+2≤wr.heap.size;omega⟩,hbq.drew⟩
    ·obtain rfl:j=pl.length:=by omega
     have hd:decide (I<(pl.length:Int))=false:=decide_eq_false (by have:=HI.out;omega);have HF:=Lib.hid (HEND.out (fun y hy=>by have:=(List.getElem?_eq_some_iff.1 hy).1;rw[ens_len]at this;omega))
     gi_wp2_with fail
     refine regionIn_held (S:=(fun _=>True)) hmx (by kernel_rfl) (by rintro⟨a,w,h⟩;exact h) trivial (fun hHeld=> ?_);refine tk 0 ?_;refine tk 1 ?_;refine tk 2 ?_;refine tk 3 ?_;refine tk 4 ?_;refine tn 5 ?_;refine tn 6 ?_;refine tn 7 ?_;refine tn 8 ?_;refine tn 9 ?_;refine tn 10 ?_;refine tn 11 ?_;refine tk 12 ?_;refine tk 13 ?_;refine tn 14 ?_;refine tn 15 ?_;refine tn 16 ?_;refine tn 17 ?_;refine tn 18 ?_;refine tn 19 ?_;refine tn 20 ?_;refine tk 21 ?_;refine td ?_
     gi_wp2
     exact⟨(HKO3.out).trans (KeepsOthers.drew _),(HKP.out).trans (KpB.of_below (by omega) (by omega) (Below.refl _ _).drew),⟨v,o,HF.out,HL7.out,HOW.out.drew,HAA.out,HKO.out,by show w1.heap.size+2≤wr.heap.size;omega⟩,hbq.drew⟩
  case done=>
   rintro D ys W hD rfl ⟨⟨v,o,he,hl,hown,-,hKO,hWs⟩,hB⟩ hK;have HE:Hid (ens o=b.bu.all.filter (scanP key frm upto)):=Lib.hid (by rw[he,HALL.out,filter_flatMap])
   have HLO:Hid (o.length≤1000000):=Lib.hid (by
    have h1:=congrArg List.length HE.out;have h2:=List.length_filter_le (scanP key frm upto) b.bu.all;have h3:=HGO.out.few;rw[ens_len]at h1;omega)
   have HSO:=Lib.hid (sortEnts_any v o _ W hown HLO.out);have HOWN:=Lib.hid hown;have HKO:=Lib.hid hKO;have f0:=hKO.cell 0 _ rfl;clear he hl hown hKO
   gi_wp2_with fail
   refine⟨trivial,(callsIn_wide.2 HSO.out).mono ?_⟩;rintro e w2 ⟨rfl,l',hp,hpw,hown2,hg2⟩;have HO2:=Lib.hid hown2;have hK':=(ko_own HOWN.out.own hg2).same D _ hK rfl;have hge:=own_ge HOWN.out.own;have f2:=(HKO.out.grown hg2 (fun e=>by have:=hge _ e;omega)).cell 0 _ rfl;have hb2:=below_grown hB hg2 (fun k hk=>by have:=hge k hk;omega);have HPE:Hid (ens l'=SL):=Lib.hid (by rw[HSL.out];exact scanL_eq HGO.out.alone (HE.out▸hp.map _) (hpw.imp (fun h=>Int.not_lt.2 h)));clear f0 hown2 hp hpw hge HSO
   gi_wp2
   refine⟨by simp,.inl ⟨_,_,rfl,run_takeDeferred hK',?_⟩⟩;have hrow: ∀r,some D=some r→ ∃o:Obj,w2.heap[r]?=some o∧o.isCells=false:=fun r e=>by cases e;exact⟨_,hK',rfl⟩
   exact⟨.tuple #[v,.int .i64 0],by simp[results,Tryz.results254,go_sem],v,l',rfl,(HO2.out.recd (grownBy_putObj' _ D (.deferred none)) hrow).low (by have:=hbw1.size;omega),HPE.out,hb2.trans (belowK_b (w:=W0) (by omega) _ D _ _ hD hK' rfl rfl)⟩
  case stop=>
   rintro D c pre W hD hpre ⟨⟩
 ·have HSL:Hid (SL=[]):=Lib.hid (hSL.symm.trans (if_neg hck))
  have hb0:=bneT hck;clear hSL
  gi_wp2
  exact⟨.tuple #[.slice none 0 0,.int .i64 CK],by simp[results,Tryz.results254,go_sem],.slice none 0 0,[],rfl,OwnE.nil _ _,by rw[HSL.out];rfl,hbw1⟩
end Go.Proofs.YtjodlngbiikgfaaGreatDoor
namespace Go.Proofs.YtjodlngbiikgfaaGreatDoor
open Go.RowKit
def newB (limit:Int):Int×Int:=if inB limit 1 64=true then(limit,0)else(0,3)
set_option maxHeartbeats 2000000 in
set_option maxRecDepth 10000 in
theorem new_any (limit:Int)(w:World):Calls Tryz.prog 33 #[.int .i64 limit] w fun e w'=>e= .returned (.tuple #[.agg #[.int .i64 (newB limit).1,.slice none 0 0,.slice none 0 0],.int .i64 (newB limit).2])∧Below w.heap.size w w':=by
 have HR:Hid (newB limit=if inB limit 1 64=true then(limit,0)else(0,3)):=Lib.hid rfl;generalize newB limit=R at HR⊢;have hB:=below_alloc w (.cells #[.int .i64 0,.slice none 0 0,.slice none 0 0] 29);have hB3:=below_alloc w (.cells #[.int .i64 limit,.slice none 0 0,.slice none 0 0] 29);have K:=Blk.new w 29 #[.int .i64 0,.slice none 0 0,.slice none 0 0];have K3:=Lib.hid (Blk.new w 29 #[.int .i64 limit,.slice none 0 0,.slice none 0 0]);by_cases h1:1≤limit
 ·by_cases h2:limit≤64
  ·have EE:=Lib.hid (HR.out.trans (if_pos (inB_yes h1 h2)))
   have z0:=K3.out.cell 0 (.int .i64 limit) rfl;have z1:=K3.out.cell 1 (.slice none 0 0) rfl;have z2:=K3.out.cell 2 (.slice none 0 0) rfl;clear HR K;go_enter Tryz.func33,Tryz.ntmps33
   go_wp2;refine bodyPost_ret (v:= .tuple #[.agg #[.int .i64 limit,.slice none 0 0,.slice none 0 0],.int .i64 0]) (by simp[results,Tryz.results33,go_sem,z0,z1,z2]) rfl ?_;exact⟨by rw[EE.out],hB3⟩
  ·have EE:=Lib.hid (HR.out.trans (if_neg (by rw[inB_no (by omega)];simp)))
   have z0:=K.cell 0 (.int .i64 0) rfl;have z1:=K.cell 1 (.slice none 0 0) rfl;have z2:=K.cell 2 (.slice none 0 0) rfl;clear HR K3;go_enter Tryz.func33,Tryz.ntmps33
   go_wp2;refine bodyPost_ret (v:= .tuple #[.agg #[.int .i64 0,.slice none 0 0,.slice none 0 0],.int .i64 3]) (by simp[results,Tryz.results33,go_sem,z0,z1,z2]) rfl ?_;exact⟨by rw[EE.out],hB⟩
 ·have EE:=Lib.hid (HR.out.trans (if_neg (by rw[inB_no (by omega)];simp)))
  have z0:=K.cell 0 (.int .i64 0) rfl;have z1:=K.cell 1 (.slice none 0 0) rfl;have z2:=K.cell 2 (.slice none 0 0) rfl;clear HR K3;go_enter Tryz.func33,Tryz.ntmps33
  go_wp2;refine bodyPost_ret (v:= .tuple #[.agg #[.int .i64 0,.slice none 0 0,.slice none 0 0],.int .i64 3]) (by simp[results,Tryz.results33,go_sem,z0,z1,z2]) rfl ?_;exact⟨by rw[EE.out],hB⟩
theorem fit_of {b:Buf}(hl: -9223372036854775808≤b.limit∧b.limit≤9223372036854775807)(he: ∀e∈b.bu.all,FineE e)(hn:b.bu.all.length≤1000000)(hr:b.bu.runs.length≤1000000):b.fit:=by
 have hm: ∀x∈b.mem,x.e∈b.bu.all:=fun x hx=>by unfold Bu.all Bu.parts;exact List.mem_flatten.2 ⟨b.bu.mem,by simp,List.mem_map.2 ⟨x,hx,rfl⟩⟩
 have hq: ∀p∈b.runs,ens p.2∈b.bu.parts:=fun p hp=>List.mem_cons_of_mem _ (List.mem_map.2 ⟨p,hp,rfl⟩)
 have hlen: ∀l∈b.bu.parts,l.length≤b.bu.all.length:=by
  have: ∀(L:List (List En)) (l:List En),l∈L→l.length≤L.flatten.length:=by
   intro L l hl;obtain⟨a,c,rfl⟩:=List.append_of_mem hl;simp;omega
  exact fun l hl=>this _ l hl
 refine⟨hl,fun x hx=>he _ (hm x hx),fun p hp x hx=>he _ (List.mem_flatten.2 ⟨_,hq p hp,List.mem_map.2 ⟨x,hx,rfl⟩⟩),?_,fun p hp=> ?_,?_⟩
 ·have:=hlen b.bu.mem (by simp[Bu.parts])
  rw[show b.bu.mem.length=b.mem.length from ens_len _]at this;omega
 ·have:=hlen _ (hq p hp)
  rw[ens_len]at this;omega
 ·rw[show b.bu.runs.length=b.runs.length from List.length_map _]at hr
  omega
def e3B:En:=⟨[],3,3,[],false⟩
theorem put1:putS ⟨1,[],[]⟩ e3B=(⟨1,[e3B],[]⟩,0):=by kernel_rfl
end Go.Proofs.YtjodlngbiikgfaaGreatDoor
namespace Go.Proofs.YtjodlngbiikgfaaGreatDoor
open Go.RowKit Go.Maps
theorem own_slice {w:World}{base:Nat}{e:TypeId}{size n:Nat}{v:Value}{xs:List Value}(h:w.ownsRow base e size v n xs): ∃A m c,v= .slice A m c:=by
 rcases h.2 with⟨rfl,_⟩|⟨g,cap,_,rfl,_⟩
 ·exact⟨_,_,_,rfl⟩
 ·exact⟨_,_,_,rfl⟩
end Go.Proofs.YtjodlngbiikgfaaGreatDoor
namespace Go.Proofs.YtjodlngbiikgfaaGreatDoor
open Go.RowKit Go.Maps
theorem ents_turned {F:Nat→Prop}{w w':World}{v:Value}{l:List Ent}(h:Ents w v l)(ht:Turned F w w')(hf: ∀k,EBlk v l k→ ¬F k):Ents w' v l:=
 ⟨sl_turned h.sl ht fun k hk=>hf k (.inl hk),fun c hc=>sl_turned (h.rows c hc) ht fun k hk=>hf k (.inr ⟨c,hc,hk⟩)⟩
theorem Buf.ok.turned {F:Nat→Prop}{w w':World}{b:Buf}(h:b.ok w)(ht:Turned F w w')(hf: ∀k,F k→b.off k):b.ok w':=
 ⟨ents_turned h.mem ht fun k hk e=>(hf k e).mem k hk rfl,sl_turned h.sl ht fun k hk e=>(hf k e).vr k hk rfl,fun q hq=>ents_turned (h.runs q hq) ht fun k hk e=>(hf k e).runs q hq k hk rfl⟩
theorem OwnE.turned {F:Nat→Prop}{w w':World}{base:Nat}{v:Value}{l:List Ent}(h:OwnE w base v l)(ht:Turned F w w')(hf: ∀k,EBlk v l k→ ¬F k):OwnE w' base v l:=
 ⟨own_turned h.own ht (fun k hk=>hf k (.inl hk)),fun c hc=>sl_turned (h.rows c hc) ht (fun k hk=>hf k (.inr ⟨c,hc,hk⟩)),fun c hc k hk=>⟨(h.far c hc k hk).1,Nat.lt_of_lt_of_le (h.far c hc k hk).2.1 ht.size,(h.far c hc k hk).2.2⟩⟩
theorem OwnBuf.turned {F:Nat→Prop}{w w':World}{base:Nat}{b:Buf}(h:OwnBuf w base b)(ht:Turned F w w')(hf: ∀k,F k→b.off k):OwnBuf w' base b:=
 ⟨h.mem.turned ht (fun k hk e=>(hf k e).mem k hk rfl),own_turned h.sl ht (fun k hk e=>(hf k e).vr k hk rfl),fun q hq=>(h.runs q hq).turned ht (fun k hk e=>(hf k e).runs q hq k hk rfl),h.far,h.mr,h.pair⟩
theorem Blk.cellR {w:World}{g:Nat}{t:TypeId}{cs:Array Value}(h:Blk w g t cs)(i:Nat){v:Value}(hv:cs.toList[i]?=some v):w.cell? ⟨g,i,none⟩=some v:=h.cell i v (by rw[←hv];simp)
structure Jv where
 l:Buf
 r:Buf
 lm:Int
 rm:Int
 seq:Int
def Jv.jn (s:Jv):Jn:=⟨s.l.bu,s.r.bu,s.lm,s.rm,s.seq⟩
def Jv.agg (s:Jv):Value:= .agg #[.int .i64 s.l.limit,s.l.vm,s.l.vr,.int .i64 s.r.limit,s.r.vm,s.r.vr,.int .i64 s.lm,.int .i64 s.rm,.int .i64 s.seq]
structure Jv.ok (w:World) (s:Jv):Prop where
 l:s.l.ok w
 r:s.r.ok w
theorem Jv.ok.below {w w':World}{s:Jv}(h:s.ok w)(hb:Below w.heap.size w w'):s.ok w':=⟨h.l.below hb,h.r.below hb⟩
structure Jv.fit (s:Jv):Prop where
 l:s.l.fit
 r:s.r.fit
 lm: -9223372036854775808≤s.lm∧s.lm≤9223372036854775807
 rm: -9223372036854775808≤s.rm∧s.rm≤9223372036854775807
 seq: -9223372036854775808≤s.seq∧s.seq≤9223372036854775807
structure OwnJ (w:World) (base:Nat) (s:Jv):Prop where
 l:OwnBuf w base s.l
 r:OwnBuf w base s.r
theorem OwnJ.ok {w:World}{base:Nat}{s:Jv}(h:OwnJ w base s):s.ok w:=⟨h.l.ok,h.r.ok⟩
def Jv.buf (s:Jv) (side:Int):Buf:=if side=2 then s.r else s.l
def Jv.put (s:Jv) (side:Int) (b:Buf):Jv:=if side=2 then⟨s.l,b,s.lm,s.rm,s.seq⟩else⟨b,s.r,s.lm,s.rm,s.seq⟩
def Jv.mark (s:Jv) (side:Int):Int:=if side=2 then s.rm else s.lm
def Jv.zero:Jv:=⟨⟨0,.slice none 0 0,[],.slice none 0 0,[]⟩,⟨0,.slice none 0 0,[],.slice none 0 0,[]⟩,0,0,0⟩
theorem Jv.zero_jn:Jv.zero.jn=zJ:=rfl
structure Evv where
 kind:Int
 side:Int
 t:Int
 v:Value
 r:List Val
def Evv.ev (e:Evv):Ev:=⟨e.kind,e.side,e.t,e.r⟩
def Evv.agg (e:Evv):Value:= .agg #[.int .i64 e.kind,.int .i64 e.side,.int .i64 e.t,e.v]
structure Evv.ok (w:World) (e:Evv):Prop where
 row:Sl w e.v e.r.length (rowCells e.r)
structure Evv.fit (e:Evv):Prop where
 kind: -9223372036854775808≤e.kind∧e.kind≤9223372036854775807
 side: -9223372036854775808≤e.side∧e.side≤9223372036854775807
 t: -9223372036854775808≤e.t∧e.t≤9223372036854775807
 row:Fine e.r
structure Wk where
 s:Jv
 key:ByteArray
 has:Bool
 vo:Value
 m:List Chn
 met:Bool
def ownS (side:Int):Int:=if side=2 then 2 else 1
def bufA (g:Nat) (side:Int):Value:= .pointer (some ⟨g,if side=2 then 16 else 13,none⟩)
def wkA (p:Pl) (g:Nat) (e:Evv) (lm rm:Int) (X:Wk):Array Value:=
 #[.int .i64 p.kind,.int .i64 p.mode,.int .i64 p.low,.int .i64 p.high,.int .i64 p.size,.int .i64 p.limit,p.vl,p.vr,p.vk,p.vq,.bool p.grouped,p.vg,p.va,
   .int .i64 X.s.l.limit,X.s.l.vm,X.s.l.vr,.int .i64 X.s.r.limit,X.s.r.vm,X.s.r.vr,.int .i64 X.s.lm,.int .i64 X.s.rm,.int .i64 X.s.seq,
   .int .i64 e.kind,.int .i64 e.side,.int .i64 e.t,e.v,.string X.key,.bool X.has,
   .int .i64 (ownS e.side),bufA g (ownS e.side),.int .i64 (if e.side=2 then rm else lm),.int .i64 (colsN p (ownS e.side)),.bool (keepsB p (ownS e.side)),
   .int .i64 (3-ownS e.side),bufA g (3-ownS e.side),.int .i64 (if e.side=2 then lm else rm),.int .i64 (colsN p (3-ownS e.side)),.bool (keepsB p (3-ownS e.side)),
   X.vo,.bool X.met]
def wkF (g:Nat) (vo:Value) (k:Nat):Prop:=k=g∨vo.ownBlock=some k
structure WkI (w:World) (g base:Nat) (p:Pl) (e:Evv) (lm rm:Int) (X:Wk):Prop where
 blk:Blk w g 103 (wkA p g e lm rm X)
 size:base≤w.heap.size
 out:OwnC w base X.vo X.m
 og: ∀k,X.vo.ownBlock=some k→k≠g
 rg: ∀c∈X.m,∀k,c.v.ownBlock=some k→k≠g
 l:OwnBuf w base X.s.l
 r:OwnBuf w base X.s.r
 lo: ∀k,wkF g X.vo k→X.s.l.off k
 ro: ∀k,wkF g X.vo k→X.s.r.off k
theorem WkI.below {w w':World}{g base:Nat}{p:Pl}{e:Evv}{lm rm:Int}{X:Wk}(h:WkI w g base p e lm rm X)(hb:Below w.heap.size w w'):WkI w' g base p e lm rm X:=
 ⟨h.blk.below hb,Nat.le_trans h.size hb.size,h.out.below hb,h.og,h.rg,h.l.below hb,h.r.below hb,h.lo,h.ro⟩
theorem WkI.drew {w:World}{g base:Nat}{p:Pl}{e:Evv}{lm rm:Int}{X:Wk}(h:WkI w g base p e lm rm X):WkI w.drew g base p e lm rm X:=h.below ((Below.refl _ w).drew)
theorem WkI.set {w:World}{g base:Nat}{p:Pl}{e:Evv}{lm rm:Int}{X Y:Wk}(h:WkI w g base p e lm rm X)(i:Nat)(u:Value)(hy:(wkA p g e lm rm X).setIfInBounds i u=wkA p g e lm rm Y)(h1:Y.vo=X.vo)(h2:Y.m=X.m)(h3:Y.s.l=X.s.l)(h4:Y.s.r=X.s.r):WkI (w.setCell ⟨g,i,none⟩ u) g base p e lm rm Y:=by
 have ht:=turned_set w ⟨g,i,none⟩ u;refine⟨by rw[←hy];exact h.blk.set_ i u,by rw[World.size_setCell];exact h.size,?_,by rw[h1];exact h.og,by rw[h2];exact h.rg,?_,?_,?_,?_⟩
 ·rw[h1,h2]
  exact h.out.turned ht (fun k hk e=>h.og k hk e) (fun c hc k hk e=>h.rg c hc k hk e)
 ·rw[h3]
  exact h.l.turned ht fun k e=>h.lo k (.inl e)
 ·rw[h4]
  exact h.r.turned ht fun k e=>h.ro k (.inl e)
 ·rw[h1,h3];exact h.lo
 ·rw[h1,h4];exact h.ro
def bufO (side:Int):Nat:=if side=2 then 16 else 13
theorem bufA_is (g:Nat)(side:Int):bufA g side= .pointer (some ⟨g,bufO side,none⟩):=rfl
theorem goodFitJ {a:Buf}(hg:GoodB a.bu)(hF: ∀e∈a.bu.all,FineE e):a.fit:=by
 have h1:1≤a.limit∧a.limit≤64:=hg.limit;exact fit_of (by omega) hF (by have:=hg.few;omega) (by have:=good_runs hg;have e:a.bu.runs.length=a.runs.length:=List.length_map _;omega)
theorem WkI.putB {w:World}{g base:Nat}{p:Pl}{e:Evv}{lm rm:Int}{X:Wk}(h:WkI w g base p e lm rm X){F:Int}(hF:F=1∨F=2){b:Buf}(hb:OwnBuf w base b)(hoff: ∀k,wkF g X.vo k→b.off k):
 WkI (((w.setCell ⟨g,bufO F,none⟩ (.int .i64 b.limit)).setCell ⟨g,bufO F+1,none⟩ b.vm).setCell ⟨g,bufO F+2,none⟩ b.vr) g base p e lm rm ⟨X.s.put F b,X.key,X.has,X.vo,X.m,X.met⟩:=by
 have t1:=turned_set w ⟨g,bufO F,none⟩ (.int .i64 b.limit);have t2:=turned_set (w.setCell ⟨g,bufO F,none⟩ (.int .i64 b.limit)) ⟨g,bufO F+1,none⟩ b.vm;have t3:=turned_set ((w.setCell ⟨g,bufO F,none⟩ (.int .i64 b.limit)).setCell ⟨g,bufO F+1,none⟩ b.vm) ⟨g,bufO F+2,none⟩ b.vr;have ht:Turned (fun k=>k=g) w (((w.setCell ⟨g,bufO F,none⟩ (.int .i64 b.limit)).setCell ⟨g,bufO F+1,none⟩ b.vm).setCell ⟨g,bufO F+2,none⟩ b.vr):=(t1.trans t2).trans t3;have ho:=h.out.turned ht (fun k hk e=>h.og k hk e) (fun c hc k hk e=>h.rg c hc k hk e);have hl:=h.l.turned ht fun k e=>h.lo k (.inl e);have hr:=h.r.turned ht fun k e=>h.ro k (.inl e);have hbb:=hb.turned ht fun k e=>hoff k (.inl e);have hsz:=Nat.le_trans h.size ht.size;rcases hF with rfl|rfl
 ·have k1:Blk (w.setCell ⟨g,13,none⟩ (.int .i64 b.limit)) g 103 (wkA p g e lm rm ⟨⟨⟨b.limit,X.s.l.vm,X.s.l.mem,X.s.l.vr,X.s.l.runs⟩,X.s.r,X.s.lm,X.s.rm,X.s.seq⟩,X.key,X.has,X.vo,X.m,X.met⟩):=h.blk.set_ 13 (.int .i64 b.limit)
  have k2:Blk ((w.setCell ⟨g,13,none⟩ (.int .i64 b.limit)).setCell ⟨g,14,none⟩ b.vm) g 103 (wkA p g e lm rm ⟨⟨⟨b.limit,b.vm,b.mem,X.s.l.vr,X.s.l.runs⟩,X.s.r,X.s.lm,X.s.rm,X.s.seq⟩,X.key,X.has,X.vo,X.m,X.met⟩):=k1.set_ 14 b.vm;have k3:Blk (((w.setCell ⟨g,13,none⟩ (.int .i64 b.limit)).setCell ⟨g,14,none⟩ b.vm).setCell ⟨g,15,none⟩ b.vr) g 103 (wkA p g e lm rm ⟨⟨b,X.s.r,X.s.lm,X.s.rm,X.s.seq⟩,X.key,X.has,X.vo,X.m,X.met⟩):=k2.set_ 15 b.vr;exact⟨k3,hsz,ho,h.og,h.rg,hbb,hr,hoff,h.ro⟩
 ·have k1:Blk (w.setCell ⟨g,16,none⟩ (.int .i64 b.limit)) g 103 (wkA p g e lm rm ⟨⟨X.s.l,⟨b.limit,X.s.r.vm,X.s.r.mem,X.s.r.vr,X.s.r.runs⟩,X.s.lm,X.s.rm,X.s.seq⟩,X.key,X.has,X.vo,X.m,X.met⟩):=h.blk.set_ 16 (.int .i64 b.limit)
  have k2:Blk ((w.setCell ⟨g,16,none⟩ (.int .i64 b.limit)).setCell ⟨g,17,none⟩ b.vm) g 103 (wkA p g e lm rm ⟨⟨X.s.l,⟨b.limit,b.vm,b.mem,X.s.r.vr,X.s.r.runs⟩,X.s.lm,X.s.rm,X.s.seq⟩,X.key,X.has,X.vo,X.m,X.met⟩):=k1.set_ 17 b.vm;have k3:Blk (((w.setCell ⟨g,16,none⟩ (.int .i64 b.limit)).setCell ⟨g,17,none⟩ b.vm).setCell ⟨g,18,none⟩ b.vr) g 103 (wkA p g e lm rm ⟨⟨X.s.l,b,X.s.lm,X.s.rm,X.s.seq⟩,X.key,X.has,X.vo,X.m,X.met⟩):=k2.set_ 18 b.vr;exact⟨k3,hsz,ho,h.og,h.rg,hl,hbb,h.lo,hoff⟩
structure WkG (s:Jv):Prop where
 l:GoodB s.l.bu
 r:GoodB s.r.bu
 fl: ∀e∈s.l.bu.all,FineE e
 fr: ∀e∈s.r.bu.all,FineE e
theorem WkG.buf {s:Jv}(h:WkG s)(side:Int):GoodB (s.buf side).bu∧(s.buf side).fit:=by
 unfold Jv.buf;split
 ·exact⟨h.r,goodFitJ h.r h.fr⟩
 ·exact⟨h.l,goodFitJ h.l h.fl⟩
theorem WkI.buf {w:World}{g base:Nat}{p:Pl}{e:Evv}{lm rm:Int}{X:Wk}(h:WkI w g base p e lm rm X)(side:Int):OwnBuf w base (X.s.buf side)∧ ∀k,wkF g X.vo k→(X.s.buf side).off k:=by
 unfold Jv.buf;split
 ·exact⟨h.r,h.ro⟩
 ·exact⟨h.l,h.lo⟩
theorem WkI.bufCells {w:World}{g base:Nat}{p:Pl}{e:Evv}{lm rm:Int}{X:Wk}(h:WkI w g base p e lm rm X){F:Int}(hF:F=1∨F=2):
 w.cell? ⟨g,bufO F,none⟩=some (.int .i64 (X.s.buf F).limit)∧w.cell? ⟨g,bufO F+1,none⟩=some (X.s.buf F).vm∧w.cell? ⟨g,bufO F+2,none⟩=some (X.s.buf F).vr:=by
 rcases hF with rfl|rfl
 ·exact⟨h.blk.cell 13 _ rfl,h.blk.cell 14 _ rfl,h.blk.cell 15 _ rfl⟩
 ·exact⟨h.blk.cell 16 _ rfl,h.blk.cell 17 _ rfl,h.blk.cell 18 _ rfl⟩
end Go.Proofs.YtjodlngbiikgfaaGreatDoor
namespace Go.Proofs.YtjodlngbiikgfaaGreatDoor
open Go.RowKit
theorem Blk.set3 {w:World}{g:Nat}{t:TypeId}{a b c:Value}(h:Blk w g t #[a,b,c])(u0 u1 u2:Value):Blk (((w.setCell ⟨g,0,none⟩ u0).setCell ⟨g,1,none⟩ u1).setCell ⟨g,2,none⟩ u2) g t #[u0,u1,u2]:=((h.set_ 0 u0).set_ 1 u1).set_ 2 u2
theorem below_set3 {n:Nat}{a w:World}(h:Below n a w){g:Nat}(hg:n≤g)(u0 u1 u2:Value):Below n a (((w.setCell ⟨g,0,none⟩ u0).setCell ⟨g,1,none⟩ u1).setCell ⟨g,2,none⟩ u2):=((h.setCell (p:=⟨g,0,none⟩) hg u0).setCell (p:=⟨g,1,none⟩) hg u1).setCell (p:=⟨g,2,none⟩) hg u2
theorem OwnBuf.set3 {w:World}{base:Nat}{b:Buf}(h:OwnBuf w base b){g:Nat}(hg:g<base)(u0 u1 u2:Value):OwnBuf (((w.setCell ⟨g,0,none⟩ u0).setCell ⟨g,1,none⟩ u1).setCell ⟨g,2,none⟩ u2) base b:=((h.setFar (p:=⟨g,0,none⟩) hg u0).setFar (p:=⟨g,1,none⟩) hg u1).setFar (p:=⟨g,2,none⟩) hg u2
theorem OwnE.set3 {w:World}{base:Nat}{v:Value}{l:List Ent}(h:OwnE w base v l){g:Nat}(hg:g<base)(u0 u1 u2:Value):OwnE (((w.setCell ⟨g,0,none⟩ u0).setCell ⟨g,1,none⟩ u1).setCell ⟨g,2,none⟩ u2) base v l:=((h.set (p:=⟨g,0,none⟩) hg u0).set (p:=⟨g,1,none⟩) hg u1).set (p:=⟨g,2,none⟩) hg u2
theorem own_oneR (W:World)(base:Nat)(t:TypeId)(u:Value)(hu:u.oneCell'=true)(h:base≤W.heap.size):(W.alloc (.cells #[u] t)).ownsRow base t 1 (.slice (some ⟨W.heap.size,0,none⟩) 1 1) 1 [u]:=
 ⟨by simp,.inr ⟨_,1,#[u],rfl,h,heap_alloc_new W _,Nat.le_refl _,by decide,by simp,by simp⟩⟩
theorem OwnBuf.one {W:World}{base:Nat}{v:Value}{l:List Ent}(limit:Int)(h:OwnE W base v l)(h1:v.oneCell'=true)(hb:base≤W.heap.size):
 OwnBuf (W.alloc (.cells #[v] 26)) base ⟨limit,.slice none 0 0,[],.slice (some ⟨W.heap.size,0,none⟩) 1 1,[(v,l)]⟩:=by
 refine⟨OwnE.nil _ _,own_oneR W base 26 v h1 hb,fun p hp=> ?_,fun p hp k hk=> ?_,fun k hk=>absurd hk (eblk_nil rfl),by simp⟩
 ·simp only[List.mem_singleton]at hp
  subst hp;exact h.alloc _
 ·simp only[List.mem_singleton]at hp
  subst hp;refine⟨eblk_nil rfl,fun e=> ?_⟩;have:=(h.range hk).2;simp[Value.ownBlock]at e;omega
def metE (m:Bool) (x:Ent):Ent:=⟨x.v,{x.e with met:=m}⟩
theorem ent_met (a b:List Ent)(x:Ent)(m:Bool):(entCells (a++x::b)).set (a.length*5+4) (.bool m)=entCells (a++metE m x::b):=by
 induction a with
 |nil=>simp[entCells,Ent.cells,metE]
 |cons y a ih=>
  have e1:(y::a).length*5+4=a.length*5+4+1+1+1+1+1:=by simp;omega
  rw[e1];unfold entCells at ih⊢;simp only[List.cons_append,List.flatMap_cons];rw[←ih];simp[Ent.cells]
theorem OwnE.met {w:World}{base g n cap:Nat}{a b:List Ent}{x:Ent}(m:Bool)(h:OwnE w base (.slice (some ⟨g,0,none⟩) n cap) (a++x::b))(hn:n=(a++x::b).length):
 OwnE (w.setCell ⟨g,a.length*5+4,none⟩ (.bool m)) base (.slice (some ⟨g,0,none⟩) n cap) (a++metE m x::b)∧w.grownBy (w.setCell ⟨g,a.length*5+4,none⟩ (.bool m)) (some g):=by
 have ho:=h.own;rw[←hn]at ho;obtain⟨h5,hg⟩:=ho.stored (a.length*5+4) (.bool m);rw[ent_met]at h5;have hlen:(a++metE m x::b).length=n:=by rw[hn];simp
 have hd: ∀d∈a++metE m x::b,Sl w d.v d.e.r.length (rowCells d.e.r)∧ ∀k,d.v.ownBlock=some k→base≤k∧k<w.heap.size∧k≠g:=by
  intro d hd;rcases List.mem_append.1 hd with hd|hd
  ·exact⟨h.rows d (by simp[hd]),fun k hk=>by obtain⟨z,p,q⟩:=h.far d (by simp[hd]) k hk;exact⟨z,p,fun e=>q (by rw[e];rfl)⟩⟩
  ·rcases List.mem_cons.1 hd with rfl|hd
   ·exact⟨h.rows x (by simp),fun k hk=>by obtain⟨z,p,q⟩:=h.far x (by simp) k hk;exact⟨z,p,fun e=>q (by rw[e];rfl)⟩⟩
   ·exact⟨h.rows d (by simp[hd]),fun k hk=>by obtain⟨z,p,q⟩:=h.far d (by simp[hd]) k hk;exact⟨z,p,fun e=>q (by rw[e];rfl)⟩⟩
 refine⟨⟨by rw[hlen];exact h5,fun d hd'=>sl_grown (hd d hd').1 hg (fun k hk e=>((hd d hd').2 k hk).2.2 (by injection e with e;exact e.symm)),fun d hd' k hk=> ?_⟩,hg⟩;obtain⟨z,p,q⟩:=(hd d hd').2 k hk;exact⟨z,Nat.lt_of_lt_of_le p hg.size,fun e=>q (by simp[Value.ownBlock]at e;exact e.symm)⟩
theorem set_split {l:List Ent}{k:Nat}{x:Ent}(hk:l[k]?=some x)(y:Ent):l=l.take k++x::l.drop (k+1)∧l.set k y=l.take k++y::l.drop (k+1)∧(l.take k).length=k:=by
 obtain⟨h1,h2⟩:=List.getElem?_eq_some_iff.1 hk;refine⟨?_,?_,by rw[List.length_take];omega⟩
 ·conv=>lhs;rw[←List.take_append_drop k l]
  rw[List.drop_eq_getElem_cons h1,h2]
 ·rw[List.set_eq_take_append_cons_drop,if_pos h1]
theorem OwnE.metAt {w:World}{base g n cap k:Nat}{l:List Ent}{x:Ent}(m:Bool)(h:OwnE w base (.slice (some ⟨g,0,none⟩) n cap) l)(hn:n=l.length)(hk:l[k]?=some x):
 OwnE (w.setCell ⟨g,k*5+4,none⟩ (.bool m)) base (.slice (some ⟨g,0,none⟩) n cap) (l.set k (metE m x))∧w.grownBy (w.setCell ⟨g,k*5+4,none⟩ (.bool m)) (some g):=by
 obtain⟨e1,e2,e3⟩:=set_split hk (metE m x);rw[e1]at h hn;have:=OwnE.met m h hn;rw[e3]at this;rw[e2];exact this
theorem eblk_set {v:Value}{l:List Ent}{k j:Nat}{x:Ent}(m:Bool)(hk:l[k]?=some x):EBlk v (l.set k (metE m x)) j↔EBlk v l j:=by
 obtain⟨e1,e2,-⟩:=set_split hk (metE m x);rw[e2]
 conv=>rhs;rw[e1]
 unfold EBlk;constructor
 ·rintro(h|⟨c,hc,h⟩)
  ·exact .inl h
  ·rcases List.mem_append.1 hc with hc|hc
   ·exact .inr ⟨c,by simp[hc],h⟩
   ·rcases List.mem_cons.1 hc with rfl|hc
    ·exact .inr ⟨x,by simp,h⟩
    ·exact .inr ⟨c,by simp[hc],h⟩
 ·rintro(h|⟨c,hc,h⟩)
  ·exact .inl h
  ·rcases List.mem_append.1 hc with hc|hc
   ·exact .inr ⟨c,by simp[hc],h⟩
   ·rcases List.mem_cons.1 hc with rfl|hc
    ·exact .inr ⟨metE m c,by simp,h⟩
    ·exact .inr ⟨c,by simp[hc],h⟩
theorem OwnBuf.split2 {w:World}{base:Nat}{b:Buf}(h:OwnBuf w base b){i j:Nat}(hi:i<b.runs.length)(hj:j<b.runs.length)(hne:i≠j)(k:Nat)(hk:EBlk b.runs[i].1 b.runs[i].2 k): ¬EBlk b.runs[j].1 b.runs[j].2 k:=by
 have hp:=List.pairwise_iff_getElem.1 h.pair;rcases Nat.lt_or_gt_of_ne hne with h1|h1
 ·exact hp i j hi hj h1 k hk
 ·intro h2
  exact hp j i hj hi h1 k h2 hk
def Buf.mark (b:Buf) (j k:Nat) (y:Ent):Buf:=match j with
 |0=>⟨b.limit,b.vm,b.mem.set k y,b.vr,b.runs⟩
 |i+1=>⟨b.limit,b.vm,b.mem,b.vr,b.runs.set i ((b.part (i+1)).1,(b.part (i+1)).2.set k y)⟩
theorem OwnBuf.mark {w:World}{base g n cap j k:Nat}{b:Buf}{x:Ent}(m:Bool)(h:OwnBuf w base b)(hj:j<b.runs.length+1)(hv:(b.part j).1= .slice (some ⟨g,0,none⟩) n cap)(hn:n=(b.part j).2.length)(hk:(b.part j).2[k]?=some x):
 OwnBuf (w.setCell ⟨g,k*5+4,none⟩ (.bool m)) base (b.mark j k (metE m x))∧w.grownBy (w.setCell ⟨g,k*5+4,none⟩ (.bool m)) (some g):=by
 cases j with
 |zero=>
  obtain⟨limit,vm,mem,vr,runs⟩:=b;simp only[Buf.part]at hv hn hk;subst hv;obtain⟨h1,hg⟩:=h.mem.metAt m hn hk;have hEg:EBlk (.slice (some ⟨g,0,none⟩) n cap) mem g:= .inl rfl
  refine⟨⟨h1,own_set h.sl (fun q hq e=>h.mr g hEg (by have e':q=g:=e;rw[←e'];exact hq)) _,fun p hp=>(h.runs p hp).grown hg (fun q hq e=>by
   injection e with e;subst e;exact(h.far p hp _ hq).1 hEg),fun p hp q hq=>⟨fun h2=>(h.far p hp q hq).1 ((eblk_set m hk).1 h2),(h.far p hp q hq).2⟩,fun q hq=>h.mr q ((eblk_set m hk).1 hq),h.pair⟩,hg⟩
 |succ i=>
  obtain⟨limit,vm,mem,vr,runs⟩:=b;have hi:i<runs.length:=by simpa using hj
  have e0:(⟨limit,vm,mem,vr,runs⟩:Buf).part (i+1)=runs[i]:=by simp[Buf.part,hi]
  rw[e0]at hv hn hk;have hr:=h.runs runs[i] (List.getElem_mem hi);have hap:=fun{i':Nat} (h1:i'<runs.length) (h2:i'≠i) (q:Nat)=>h.split2 (i:=i') (j:=i) h1 hi h2 q;have hfar:=h.far runs[i] (List.getElem_mem hi);rw[hv]at hr;have hEg:EBlk runs[i].1 runs[i].2 g:= .inl (by rw[hv];rfl);obtain⟨h1,hg⟩:=hr.metAt m hn hk;have hset: ∀q,EBlk runs[i].1 (runs[i].2.set k (metE m x)) q↔EBlk runs[i].1 runs[i].2 q:=fun q=>eblk_set m hk
  have hmap:(runs.set i (runs[i].1,runs[i].2.set k (metE m x))).map (·.1)=runs.map (·.1):=by
   rw[List.map_set];apply List.ext_getElem?;intro q;rw[List.getElem?_set];split
   ·rename_i e;subst e;simp[hi]
   ·rfl
  have hmk:(⟨limit,vm,mem,vr,runs⟩:Buf).mark (i+1) k (metE m x)=⟨limit,vm,mem,vr,runs.set i (runs[i].1,runs[i].2.set k (metE m x))⟩:=by
   show(⟨limit,vm,mem,vr,runs.set i (((⟨limit,vm,mem,vr,runs⟩:Buf).part (i+1)).1,((⟨limit,vm,mem,vr,runs⟩:Buf).part (i+1)).2.set k (metE m x))⟩:Buf)=_;rw[e0]
  rw[hmk];refine⟨⟨h.mem.grown hg (fun q hq e=>by injection e with e;subst e;exact(hfar _ hEg).1 hq),?_,fun p hp=> ?_,fun p hp q hq=> ?_,h.mr,?_⟩,hg⟩
  ·show World.ownsRow _ _ _ _ _ (runs.set i _).length ((runs.set i _).map (·.1))
   rw[hmap,List.length_set];exact own_set h.sl (fun q hq e=>(hfar g hEg).2 (by have e':q=g:=e;rw[←e'];exact hq)) _
  ·obtain⟨i',h2,rfl⟩:=List.getElem_of_mem hp
   rw[List.length_set]at h2;by_cases hii:i=i'
   ·subst hii
    simp only[List.getElem_set_self];rw[hv];exact h1
   ·rw[List.getElem_set_ne hii]
    exact(h.runs _ (List.getElem_mem h2)).grown hg (fun q hq e=>by injection e with e;subst e;exact hap h2 (fun e=>hii e.symm) _ hq hEg)
  ·obtain⟨i',h2,rfl⟩:=List.getElem_of_mem hp
   rw[List.length_set]at h2;by_cases hii:i=i'
   ·subst hii
    simp only[List.getElem_set_self]at hq;exact hfar q ((hset q).1 hq)
   ·rw[List.getElem_set_ne hii]at hq
    exact h.far _ (List.getElem_mem h2) q hq
  ·refine List.pairwise_iff_getElem.2 fun a c ha hc hac q hq=> ?_
   simp only[List.length_set]at ha hc;have hp:=List.pairwise_iff_getElem.1 h.pair a c ha hc hac q
   have e1: ∀d (hd:d<runs.length),EBlk ((runs.set i (runs[i].1,runs[i].2.set k (metE m x)))[d]'(by rw[List.length_set];exact hd)).1 ((runs.set i (runs[i].1,runs[i].2.set k (metE m x)))[d]'(by rw[List.length_set];exact hd)).2 q↔EBlk runs[d].1 runs[d].2 q:=by
    intro d hd;by_cases hid:i=d
    ·subst hid
     simp only[List.getElem_set_self];exact hset q
    ·rw[List.getElem_set_ne hid]
   rw[e1 c hc];exact hp ((e1 a ha).1 hq)
end Go.Proofs.YtjodlngbiikgfaaGreatDoor
