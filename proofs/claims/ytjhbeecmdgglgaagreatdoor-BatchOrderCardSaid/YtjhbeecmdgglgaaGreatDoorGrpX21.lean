/-The reference's more. -/
import Derived.Test.YtjhbeecmdgglgaaGreatDoorGrpX20
import Derived.Test.YtjhbeecmdgglgaaGreatDoorGrpX15
set_option linter.unusedSimpArgs false
set_option linter.unusedVariables false
namespace Go.Proofs.YtjhbeecmdgglgaaGreatDoor
open Go.RowKit
set_option maxHeartbeats 4000000 in
set_option maxRecDepth 10000 in
theorem more_own_any (v vr:Value)(l:List Cnt)(r:List Val)(n:Int)(base:Nat)(w:World)(h:OwnV w base v l)(hbase:base≤w.heap.size)(hl:l.length≤4096)(hs:Sl w vr r.length (rowCells r))(hsf:rowCells r≠[]→ ∀k,vr.ownBlock=some k→v.ownBlock≠some k)(hr:Rises (av l))(hg:GoodR r)
 (hb: -1099511627776≤lookA (av l) r∧lookA (av l) r≤1099511627776) (hn: -1099511627776≤n∧n≤1099511627776):
 Calls Tryz.prog 46 #[v,vr,.int .i64 n] w fun e w'=> ∃v' l',e= .returned (.tuple #[v',.int .i64 (addR (av l) r n).2])∧OwnV w' base v' l'∧av l'=(addR (av l) r n).1∧w.grownBy w' v.ownBlock∧(∀k,v'.ownBlock=some k→v.ownBlock=some k∨w.heap.size≤k)∧(∀c∈l',(∃d∈l,d.v=c.v)∨ ∀k,c.v.ownBlock=some k→w.heap.size≤k):=by
 have HO:=Lib.hid h;have HS:=Lib.hid hs;have HR:=Lib.hid hr;have HG:=Lib.hid hg;have HAL:=Lib.hid (show(av l).length=l.length from by unfold av;rw[List.length_map]);have HE:Hid (addR (av l) r n=if lookA (av l) r+n<0 then(av l,9)else if 1073741824<lookA (av l) r+n∨(hasA (av l) r=false∧0<lookA (av l) r+n∧(av l).length=4096)then(av l,2)else if lookA (av l) r+n=0 then(delA (av l) r,0)else(putA (av l) r (lookA (av l) r+n),0)):=Lib.hid rfl;generalize addR (av l) r n=R at HE⊢;obtain⟨A0,c0,rfl,hc1,hc2,-⟩:=Sl.of_own h.own;obtain⟨Ar,cr,rfl,-⟩:=id hs;unfold maxLen at hc2;have HSF:=Lib.hid hsf;clear h hs hr hg hsf;go_enter Tryz.func46,Tryz.ntmps46
 go_wp2_with fail
 refine(place_any _ _ l r _ HO.out.view (by omega) HS.out HR.out HG.out).mono ?_;rintro e w1 ⟨i,is,rfl,hp,hb1⟩;have HO1:=Lib.hid (HO.out.below hb1);have hg1:=grown_of_below hb1 (Value.slice A0 l.length c0).ownBlock;cases is
 ·obtain⟨h2,h3,h4,h5⟩:=place_none hp
  have hil:i≤l.length:=by have:=hp.le;rwa[HAL.out]at this
  rw[h2]at HE hb
  have HE2:Hid (R=if n<0 then(av l,9)else if 1073741824<n∨(0<n∧l.length=4096)then(av l,2)else if n=0 then(av l,0)else((av l).take i++(r,n)::(av l).drop i,0)):=Lib.hid (by
   rw[HE.out,h3,h4,h5,HAL.out];simp)
  clear HE h2 h3 h4 h5 hp hb;by_cases t1:n<0
  ·have EE:=Lib.hid (HE2.out.trans (if_pos t1))
   go_wp2
   go_ret2
   first
    |exact⟨.slice A0 l.length c0,l,by rw[EE.out];rfl,HO1.out,by rw[EE.out],hg1,fun k hk=> .inl hk,fun c hc=> .inl ⟨c,hc,rfl⟩⟩
    |exact⟨.slice A0 l.length c0,by rw[EE.out];rfl,l,HO1.out,by rw[EE.out],hg1,fun k hk=> .inl hk,fun c hc=> .inl ⟨c,hc,rfl⟩⟩
  ·have HE3:=Lib.hid (HE2.out.trans (if_neg t1))
   clear HE2;by_cases t2:1073741824<n
   ·have EE:=Lib.hid (HE3.out.trans (if_pos (.inl t2)))
    go_wp2
    go_ret2
    first
     |exact⟨.slice A0 l.length c0,l,by rw[EE.out];rfl,HO1.out,by rw[EE.out],hg1,fun k hk=> .inl hk,fun c hc=> .inl ⟨c,hc,rfl⟩⟩
     |exact⟨.slice A0 l.length c0,by rw[EE.out];rfl,l,HO1.out,by rw[EE.out],hg1,fun k hk=> .inl hk,fun c hc=> .inl ⟨c,hc,rfl⟩⟩
   ·by_cases t3:0<n
    ·by_cases t4:l.length=4096
     ·have EE:=Lib.hid (HE3.out.trans (if_pos (.inr ⟨t3,t4⟩)))
      have hb4:((l.length:Int)==4096)=true:=by simp[t4]
      clear t4;go_wp2
      go_ret2
      first
       |exact⟨.slice A0 l.length c0,l,by rw[EE.out];rfl,HO1.out,by rw[EE.out],hg1,fun k hk=> .inl hk,fun c hc=> .inl ⟨c,hc,rfl⟩⟩
       |exact⟨.slice A0 l.length c0,by rw[EE.out];rfl,l,HO1.out,by rw[EE.out],hg1,fun k hk=> .inl hk,fun c hc=> .inl ⟨c,hc,rfl⟩⟩
     ·have EE:Hid (R=((av l).take i++(r,n)::(av l).drop i,0)):=Lib.hid (HE3.out.trans ((if_neg (by rintro(h|⟨-,h⟩);exact t2 h;exact t4 h)).trans (if_neg (by omega))))
      have hb4:((l.length:Int)==4096)=false:=by simp;omega
      have hb0:(n==0)=false:=beqF (by omega);clear HE3;have HA1:=Lib.hid ((HO1.out.alloc (.cells #[.slice none 0 0,.int .i64 0] 45)));have hbs:base≤(w1.alloc (.cells #[.slice none 0 0,.int .i64 0] 45)).heap.size:=by have:=hb1.size;simp;omega
      have HBS:=Lib.hid hbs;clear hbs
      go_wp2_with (at_builtin;refine wpList_app rfl (.tmp 76) (.tmp 78) 27 rfl base 45 2 32 Tryz.underlying27 cntI _ l.length _ rfl HA1.out.own _ 1 (Cnt.cells ⟨.slice none 0 0,[],0⟩) rfl (one_cnt w1 ⟨.slice none 0 0,[],0⟩) rfl (cnt_one (Sl.nil_ w1)) ?_ ?_ HBS.out ?_)
      ·unfold maxLen;omega
      ·omega
      ·intro v3 w3 hown3 hg3 hat3
       have HZ:Hid (OwnV w3 base v3 (l++[⟨.slice none 0 0,[],0⟩])):=Lib.hid (HA1.out.snoc hown3 hg3 (by rw[World.size_alloc];exact hat3) (Sl.nil_ _) (fun k hk=>by cases hk));have HG3:=Lib.hid (grown_trans hg1 (grown_trans (grown_of_below (below_alloc w1 _) _) hg3));have HAT:=Lib.hid hat3;obtain⟨g3,cap3,hform,hg3b,hg3l⟩:=hown3.form (by omega);subst hform
       have HROW:Hid (∀j,some g3=some j→(Value.slice A0 l.length c0).ownBlock=some j∨w.heap.size≤j):=Lib.hid (by
        intro j hj;injection hj with hj;subst hj;rcases HAT.out with h|h
        ·exact .inl h.symm
        ·injection h with h
         have h':g3=w1.heap.size+1:=h;have:=hb1.size;exact .inr (by omega))
       obtain⟨Ax3,cx3,hvv,hcap,hcm,-⟩:=Sl.of_own hown3;injection hvv with q1 q2 q3;subst q3;unfold maxLen at hcm;clear hown3 hg3 hat3 q1;have hw:IntKind.i64.wrap ((i:Int)+1)=(i:Int)+1:=by rw[IntKind.wrap_i64];omega
       have hw1:((i:Int)+1).toNat=i+1:=by omega
       have i1:(0:Int)≤(i:Int):=by omega
       have i2:(0:Int)≤(i:Int)+1:=by omega
       have i5:(i:Int)+1≤(l.length:Int)+1:=by omega
       have i6:(i:Int)≤(l.length:Int)+1:=by omega
       have i7:(i:Int)<(l.length:Int)+1:=by omega
       have hc1: ¬cap3=i:=by omega
       by_cases hi:i<l.length
       ·have hc2': ¬cap3=i+1:=by omega
        obtain⟨sA,sB⟩:=split_at hi (⟨.slice none 0 0,[],0⟩:Cnt);have hz:=HZ.out.own;rw[List.length_append,List.length_singleton]at hz
        obtain⟨w4,hrun,hown4,hg4⟩:=own_shift (c1:=cap3-(i+1)) (c2:=cap3-i) (show w3.drew.ownsRow base 45 2 (.slice (some ⟨g3,0,none⟩) (l.length+1) cap3) (l.length+1) _ from hz) hi (fun u hu=>by
         obtain⟨d,hd,hu⟩:=List.mem_flatMap.1 hu;exact cnt_one (HZ.out.rows d hd) u hu)
        rw[cnt_take,cnt_drop,cnt_take,sA,sB,←cntCells_app,List.append_assoc,List.singleton_append]at hown4;have HRUN:=Lib.hid hrun
        have H4:Hid (OwnV w4 base (.slice (some ⟨g3,0,none⟩) (l.length+1) cap3) (l.take i++l[i]::l.drop i)):=Lib.hid (HZ.out.drew.sub (by rw[show(l.take i++l[i]::l.drop i).length=l.length+1 from by simp;omega];exact hown4) hg4 (.inl rfl) (by
         intro c hc;rcases List.mem_append.1 hc with hc|hc
         ·simp[List.mem_of_mem_take hc]
         ·rcases List.mem_cons.1 hc with rfl|hc
          ·simp
          ·simp[List.mem_of_mem_drop hc]))
        have HG4:=Lib.hid (grown_new HG3.out (drew_grown hg4) HROW.out);generalize l[i]=X at H4;clear hrun hown4 hg4 hz sA sB
        go_wp2_with fail
        refine wp_region_held_drew (S:=(fun _=>True)) (by kernel_rfl) trivial (fun hHeld=> ?_);refine tk 0 ?_;refine tk 1 ?_;refine tk 2 ?_;refine tk 3 ?_;refine tk 4 ?_;refine tk 5 ?_;refine tk 6 ?_;refine tc 7 ?_;intro K hK;refine step_copy_run (by rfl) (.tmp 83) (.tmp 86) 27 27 (by rfl) _ _ (by rfl) (by rfl) (HRUN.out _) ?_;refine hK.out _ _ trivial (fun hHeld7=> ?_);clear hK K;refine td ?_;have HL4:Hid ((l.take i++X::l.drop i).length=l.length+1):=Lib.hid (by simp;omega);have HX4:Hid ((l.take i++X::l.drop i)[i]?=some X):=Lib.hid (by rw[List.getElem?_append_right (by rw[List.length_take];omega),List.length_take,Nat.min_eq_left (by omega),Nat.sub_self];rfl);have hSr:Sl w4 (.slice Ar r.length cr) r.length (rowCells r):=sl_grown2 HS.out HG4.out HSF.out;have HSR:=Lib.hid hSr;have h8:=HG.out.few;clear hSr
        go_wp2_with fail
        refine(copy_any _ r _ HSR.out h8).mono ?_;rintro e w5 ⟨cv,rfl,hcv,hcf,hb5⟩;have H5:=Lib.hid (H4.out.below hb5);have HG5:=Lib.hid (grown_trans HG4.out (grown_of_below hb5 _));have HCV:=Lib.hid hcv;have hg4l:g3<w4.heap.size:=(H4.out.own.lt g3 rfl).2;have HCF:=Lib.hid (fun k (hk:cv.ownBlock=some k)=>And.intro (hcf k hk).2 (show k≠g3 from by have:=(hcf k hk).1;omega));have HFC:=Lib.hid (fun k (hk:cv.ownBlock=some k)=>Nat.le_trans HG4.out.size (hcf k hk).1);obtain⟨Ac,cc,rfl,-⟩:=id hcv;clear hcv hcf hb5;have hq:=H5.out.own;rw[HL4.out]at hq;obtain⟨b',off',hA',-,hcl⟩:=cnt_at (l:=l.take i++X::l.drop i) (by rw[HL4.out];exact Sl.of_own hq) rfl HX4.out;injection hA' with hA';injection hA' with e1 e2;subst e1 e2;obtain⟨d1,d2⟩:=hcl _ (Below.refl _ _);simp only[Nat.zero_add]at d1 d2;have f1:=hq.frozenAt (i*2);have f2:=hq.frozenAt (i*2+1);obtain⟨s1,s2⟩:=H5.out.lay (c:=⟨.slice Ac r.length cc,r,n⟩) HL4.out.symm HCV.out HCF.out;rw[List.length_take,Nat.min_eq_left (by omega)]at s1 s2;have HS1:=Lib.hid s1;have HS2:=Lib.hid (grown_new HG5.out s2 HROW.out);have HAV:=Lib.hid (av_lay l i ⟨.slice Ac r.length cc,r,n⟩)
        have HFQ:Hid (∀c∈l.take i++(⟨.slice Ac r.length cc,r,n⟩:Cnt)::l.drop i,(∃d∈l,d.v=c.v)∨ ∀k,c.v.ownBlock=some k→w.heap.size≤k):=Lib.hid (fun c hc=>by
         rcases List.mem_append.1 hc with hc|hc
         ·exact .inl ⟨c,List.mem_of_mem_take hc,rfl⟩
         ·rcases List.mem_cons.1 hc with rfl|hc
          ·exact .inr HFC.out
          ·exact .inl ⟨c,List.mem_of_mem_drop hc,rfl⟩)
        clear s1 s2 hq hcl;go_wp2
        go_ret2
        first
         |exact⟨.slice (some ⟨g3,0,none⟩) (l.length+1) cap3,_,by rw[EE.out];rfl,HS1.out,by rw[EE.out,HAV.out],HS2.out,fun k hk=>HROW.out k hk,HFQ.out⟩
         |exact⟨.slice (some ⟨g3,0,none⟩) (l.length+1) cap3,by rw[EE.out];rfl,_,HS1.out,by rw[EE.out,HAV.out],HS2.out,fun k hk=>HROW.out k hk,HFQ.out⟩
       ·obtain rfl:i=l.length:=by omega
        by_cases hcp:cap3=l.length+1
        ·subst hcp
         have H4:Hid (OwnV w3.drew base (.slice (some ⟨g3,0,none⟩) (l.length+1) (l.length+1)) (l.take l.length++⟨.slice none 0 0,[],0⟩::l.drop l.length)):=Lib.hid (by
          rw[List.take_length,List.drop_length];exact HZ.out.drew)
         have HG4:=Lib.hid (grown_drew HG3.out);obtain⟨X,hX⟩: ∃X:Cnt,X=⟨.slice none 0 0,[],0⟩:=⟨_,rfl⟩;rw[←hX]at H4;clear hX
         go_wp2_with fail
         refine wp_region_held_drew (S:=(fun _=>True)) (by kernel_rfl) trivial (fun hHeld=> ?_);refine tk 0 ?_;refine tk 1 ?_;refine tk 2 ?_;refine tk 3 ?_;refine tk 4 ?_;refine tk 5 ?_;refine tk 6 ?_;refine tc 7 ?_;intro K hK;refine step_copy_run (by rfl) (.tmp 83) (.tmp 86) 27 27 (by rfl) _ _ (by rfl) (by rfl) (run_copy_zero _ _ _ _ _ _ _ _ _ _ _ Tryz.underlying27 (by rw[cntSize];rfl) (by show min _ _=_;omega)) ?_;refine hK.out _ _ trivial (fun hHeld7=> ?_);clear hK K;refine td ?_;have HL4:Hid ((l.take l.length++X::l.drop l.length).length=l.length+1):=Lib.hid (by simp);have HX4:Hid ((l.take l.length++X::l.drop l.length)[l.length]?=some X):=Lib.hid (by rw[List.getElem?_append_right (by rw[List.length_take];omega),List.length_take,Nat.min_eq_left (by omega),Nat.sub_self];rfl);have hSr:Sl w3.drew (.slice Ar r.length cr) r.length (rowCells r):=sl_grown2 HS.out HG4.out HSF.out;have HSR:=Lib.hid hSr;have h8:=HG.out.few;clear hSr
         go_wp2_with fail
         refine(copy_any _ r _ HSR.out h8).mono ?_;rintro e w5 ⟨cv,rfl,hcv,hcf,hb5⟩;have H5:=Lib.hid (H4.out.below hb5);have HG5:=Lib.hid (grown_trans HG4.out (grown_of_below hb5 _));have HCV:=Lib.hid hcv;have hg4l:g3<w3.drew.heap.size:=(H4.out.own.lt g3 rfl).2;have HCF:=Lib.hid (fun k (hk:cv.ownBlock=some k)=>And.intro (hcf k hk).2 (show k≠g3 from by have:=(hcf k hk).1;omega));have HFC:=Lib.hid (fun k (hk:cv.ownBlock=some k)=>Nat.le_trans HG4.out.size (hcf k hk).1);obtain⟨Ac,cc,rfl,-⟩:=id hcv;clear hcv hcf hb5;have hq:=H5.out.own;rw[HL4.out]at hq;obtain⟨b',off',hA',-,hcl⟩:=cnt_at (l:=l.take l.length++X::l.drop l.length) (by rw[HL4.out];exact Sl.of_own hq) rfl HX4.out;injection hA' with hA';injection hA' with e1 e2;subst e1 e2;obtain⟨d1,d2⟩:=hcl _ (Below.refl _ _);simp only[Nat.zero_add]at d1 d2;have f1:=hq.frozenAt (l.length*2);have f2:=hq.frozenAt (l.length*2+1);obtain⟨s1,s2⟩:=H5.out.lay (c:=⟨.slice Ac r.length cc,r,n⟩) HL4.out.symm HCV.out HCF.out;rw[List.length_take,Nat.min_eq_left (by omega)]at s1 s2;have HS1:=Lib.hid s1;have HS2:=Lib.hid (grown_new HG5.out s2 HROW.out);have HAV:=Lib.hid (av_lay l l.length ⟨.slice Ac r.length cc,r,n⟩)
         have HFQ:Hid (∀c∈l.take l.length++(⟨.slice Ac r.length cc,r,n⟩:Cnt)::l.drop l.length,(∃d∈l,d.v=c.v)∨ ∀k,c.v.ownBlock=some k→w.heap.size≤k):=Lib.hid (fun c hc=>by
          rcases List.mem_append.1 hc with hc|hc
          ·exact .inl ⟨c,List.mem_of_mem_take hc,rfl⟩
          ·rcases List.mem_cons.1 hc with rfl|hc
           ·exact .inr HFC.out
           ·exact .inl ⟨c,List.mem_of_mem_drop hc,rfl⟩)
         clear s1 s2 hq hcl;go_wp2
         go_ret2
         first
          |exact⟨.slice (some ⟨g3,0,none⟩) (l.length+1) (l.length+1),_,by rw[EE.out];rfl,HS1.out,by rw[EE.out,HAV.out],HS2.out,fun k hk=>HROW.out k hk,HFQ.out⟩
          |exact⟨.slice (some ⟨g3,0,none⟩) (l.length+1) (l.length+1),by rw[EE.out];rfl,_,HS1.out,by rw[EE.out,HAV.out],HS2.out,fun k hk=>HROW.out k hk,HFQ.out⟩
        ·skip
         have H4:Hid (OwnV w3.drew base (.slice (some ⟨g3,0,none⟩) (l.length+1) cap3) (l.take l.length++⟨.slice none 0 0,[],0⟩::l.drop l.length)):=Lib.hid (by
          rw[List.take_length,List.drop_length];exact HZ.out.drew)
         have HG4:=Lib.hid (grown_drew HG3.out);obtain⟨X,hX⟩: ∃X:Cnt,X=⟨.slice none 0 0,[],0⟩:=⟨_,rfl⟩;rw[←hX]at H4;clear hX
         go_wp2_with fail
         refine wp_region_held_drew (S:=(fun _=>True)) (by kernel_rfl) trivial (fun hHeld=> ?_);refine tk 0 ?_;refine tk 1 ?_;refine tk 2 ?_;refine tk 3 ?_;refine tk 4 ?_;refine tk 5 ?_;refine tk 6 ?_;refine tc 7 ?_;intro K hK;refine step_copy_run (by rfl) (.tmp 83) (.tmp 86) 27 27 (by rfl) _ _ (by rfl) (by rfl) (run_copy_zero _ _ _ _ _ _ _ _ _ _ _ Tryz.underlying27 (by rw[cntSize];rfl) (by show min _ _=_;omega)) ?_;refine hK.out _ _ trivial (fun hHeld7=> ?_);clear hK K;refine td ?_;have HL4:Hid ((l.take l.length++X::l.drop l.length).length=l.length+1):=Lib.hid (by simp);have HX4:Hid ((l.take l.length++X::l.drop l.length)[l.length]?=some X):=Lib.hid (by rw[List.getElem?_append_right (by rw[List.length_take];omega),List.length_take,Nat.min_eq_left (by omega),Nat.sub_self];rfl);have hSr:Sl w3.drew (.slice Ar r.length cr) r.length (rowCells r):=sl_grown2 HS.out HG4.out HSF.out;have HSR:=Lib.hid hSr;have h8:=HG.out.few;clear hSr
         go_wp2_with fail
         refine(copy_any _ r _ HSR.out h8).mono ?_;rintro e w5 ⟨cv,rfl,hcv,hcf,hb5⟩;have H5:=Lib.hid (H4.out.below hb5);have HG5:=Lib.hid (grown_trans HG4.out (grown_of_below hb5 _));have HCV:=Lib.hid hcv;have hg4l:g3<w3.drew.heap.size:=(H4.out.own.lt g3 rfl).2;have HCF:=Lib.hid (fun k (hk:cv.ownBlock=some k)=>And.intro (hcf k hk).2 (show k≠g3 from by have:=(hcf k hk).1;omega));have HFC:=Lib.hid (fun k (hk:cv.ownBlock=some k)=>Nat.le_trans HG4.out.size (hcf k hk).1);obtain⟨Ac,cc,rfl,-⟩:=id hcv;clear hcv hcf hb5;have hq:=H5.out.own;rw[HL4.out]at hq;obtain⟨b',off',hA',-,hcl⟩:=cnt_at (l:=l.take l.length++X::l.drop l.length) (by rw[HL4.out];exact Sl.of_own hq) rfl HX4.out;injection hA' with hA';injection hA' with e1 e2;subst e1 e2;obtain⟨d1,d2⟩:=hcl _ (Below.refl _ _);simp only[Nat.zero_add]at d1 d2;have f1:=hq.frozenAt (l.length*2);have f2:=hq.frozenAt (l.length*2+1);obtain⟨s1,s2⟩:=H5.out.lay (c:=⟨.slice Ac r.length cc,r,n⟩) HL4.out.symm HCV.out HCF.out;rw[List.length_take,Nat.min_eq_left (by omega)]at s1 s2;have HS1:=Lib.hid s1;have HS2:=Lib.hid (grown_new HG5.out s2 HROW.out);have HAV:=Lib.hid (av_lay l l.length ⟨.slice Ac r.length cc,r,n⟩)
         have HFQ:Hid (∀c∈l.take l.length++(⟨.slice Ac r.length cc,r,n⟩:Cnt)::l.drop l.length,(∃d∈l,d.v=c.v)∨ ∀k,c.v.ownBlock=some k→w.heap.size≤k):=Lib.hid (fun c hc=>by
          rcases List.mem_append.1 hc with hc|hc
          ·exact .inl ⟨c,List.mem_of_mem_take hc,rfl⟩
          ·rcases List.mem_cons.1 hc with rfl|hc
           ·exact .inr HFC.out
           ·exact .inl ⟨c,List.mem_of_mem_drop hc,rfl⟩)
         clear s1 s2 hq hcl;go_wp2
         go_ret2
         first
          |exact⟨.slice (some ⟨g3,0,none⟩) (l.length+1) cap3,_,by rw[EE.out];rfl,HS1.out,by rw[EE.out,HAV.out],HS2.out,fun k hk=>HROW.out k hk,HFQ.out⟩
          |exact⟨.slice (some ⟨g3,0,none⟩) (l.length+1) cap3,by rw[EE.out];rfl,_,HS1.out,by rw[EE.out,HAV.out],HS2.out,fun k hk=>HROW.out k hk,HFQ.out⟩
    ·have hz:n=0:=by omega
     have EE:Hid (R=(av l,0)):=Lib.hid (HE3.out.trans ((if_neg (by rintro(h|⟨h,-⟩);exact t2 h;exact t3 h)).trans (if_pos hz)));have hb0:=beqT hz;clear HE3 hz;go_wp2
     go_ret2
     first|exact⟨.slice A0 l.length c0,by rw[EE.out];rfl,l,HO1.out,by rw[EE.out],hg1,fun k hk=> .inl hk,fun c hc=> .inl ⟨c,hc,rfl⟩⟩|exact⟨.slice A0 l.length c0,l,by rw[EE.out];rfl,HO1.out,by rw[EE.out],hg1,fun k hk=> .inl hk,fun c hc=> .inl ⟨c,hc,rfl⟩⟩
 ·obtain⟨x,m,h1,h2,h3,h4,h5⟩:=place_here hp
  rw[h2]at HE hb
  have HE2:Hid (R=if m+n<0 then(av l,9)else if 1073741824<m+n then(av l,2)else if m+n=0 then((av l).take i++(av l).drop (i+1),0)else((av l).take i++(x,m+n)::(av l).drop (i+1),0)):=Lib.hid (by
   rw[HE.out,h3,h4,h5];simp)
  have hil:i<l.length:=by
   have:=(List.getElem?_eq_some_iff.1 h1).1;rwa[HAL.out]at this
  have hx:=List.getElem?_eq_getElem (l:=l) hil;obtain⟨y,hy⟩: ∃y,l[i]=y:=⟨_,rfl⟩;rw[hy]at hx
  have e1:y.r=x∧y.n=m:=by
   have:(av l)[i]?=some (y.r,y.n):=by unfold av;rw[List.getElem?_map,hx];rfl
   rw[h1]at this;have:=Option.some.inj this;exact⟨(congrArg Prod.fst this).symm,(congrArg Prod.snd this).symm⟩
  obtain⟨rfl,rfl⟩:=e1;obtain⟨g,off,hA,-,hc⟩:=cnt_at (Sl.of_own HO1.out.own) rfl hx;obtain⟨g',cap',hform,-,hglt⟩:=HO1.out.own.form (by omega);injection hform with e1 e2 e3;rw[hA]at e1;injection e1 with e1;injection e1 with e1 e4;subst e1 e4 hA e3;obtain⟨d1,d2⟩:=hc _ (Below.refl _ _);simp only[Nat.zero_add]at d1 d2;have HX:=Lib.hid hx;have i0:(0:Int)≤(i:Int):=by omega
  have i1:(i:Int)<(l.length:Int):=by omega
  clear hc hx hy h1 h2 h3 h4 h5 hp HE;by_cases t1:y.n+n<0
  ·have EE:=Lib.hid (HE2.out.trans (if_pos t1))
   go_wp2
   go_ret2
   exact⟨.slice (some ⟨g,0,none⟩) l.length c0,l,by rw[EE.out];rfl,HO1.out,by rw[EE.out],hg1,fun k hk=> .inl hk,fun c hc=> .inl ⟨c,hc,rfl⟩⟩
  ·have HE3:=Lib.hid (HE2.out.trans (if_neg t1))
   clear HE2;by_cases t2:1073741824<y.n+n
   ·have EE:=Lib.hid (HE3.out.trans (if_pos t2))
    go_wp2
    go_ret2
    exact⟨.slice (some ⟨g,0,none⟩) l.length c0,l,by rw[EE.out];rfl,HO1.out,by rw[EE.out],hg1,fun k hk=> .inl hk,fun c hc=> .inl ⟨c,hc,rfl⟩⟩
   ·have HE4:=Lib.hid (HE3.out.trans (if_neg t2))
    clear HE3;by_cases t3:y.n+n=0
    ·have EE:=Lib.hid (HE4.out.trans (if_pos t3))
     have hb3:=beqT t3;clear HE4;have i2:(i:Int)+1≤(l.length:Int):=by omega
     have i3:(i:Int)≤(c0:Int):=by omega
     have i4:(i:Int)≤(i:Int)+1:=by omega
     have hw:IntKind.i64.wrap ((i:Int)+1)=(i:Int)+1:=by rw[IntKind.wrap_i64];omega
     have hw0:(0:Int)≤(i:Int)+1:=by omega
     have hw1:((i:Int)+1).toNat=i+1:=by omega
     have HP:=Lib.hid (show w1.drew.ownsRow base 45 2 (.slice (some ⟨g,0,none⟩) i c0) i (cntCells (l.take i))from by
      have:=own_prefix HO1.out.own (k:=i) (by omega);rwa[cnt_take]at this)
     have HLT:Hid ((l.take i++l.drop (i+1)).length=i+(l.length-(i+1))):=Lib.hid (by rw[List.length_append,List.length_take,List.length_drop];omega)
     have HSUB:Hid (∀c∈l.take i++l.drop (i+1),c∈l):=Lib.hid (fun c hc=>by
      rcases List.mem_append.1 hc with hc|hc
      ·exact List.mem_of_mem_take hc
      ·exact List.mem_of_mem_drop hc)
     have hone: ∀u∈cntCells (l.drop (i+1)),u.oneCell'=true:=by
      intro u hu;obtain⟨d,hd,hu⟩:=List.mem_flatMap.1 hu;exact cnt_one (HO1.out.rows d (List.mem_of_mem_drop hd)) u hu
     have HONE:=Lib.hid hone;have HLD:=Lib.hid (show(cntCells (l.drop (i+1))).length=(l.length-(i+1))*2 from by rw[cntCells_len,List.length_drop]);have hm1:i+(l.length-(i+1))≤maxLen:=by unfold maxLen;omega
     have hm2:(i+(l.length-(i+1)))*32≤140737488355328:=by omega
     have HM1:=Lib.hid hm1;have HM2:=Lib.hid hm2;have hbs:base≤w1.drew.heap.size:=Nat.le_trans hbase hb1.size;have HBS:=Lib.hid hbs;clear hone hm1 hm2 hbs;by_cases hcap:c0=i+1
     ·subst hcap
      have hdn:l.drop (i+1)=[]:=List.drop_of_length_le (by omega);have HDN:=Lib.hid hdn;have hlen0:l.length-(i+1)=0:=by omega
      have HD:=Lib.hid (fun n c (h:n≤c) (hc:c≤maxLen)=>sl_none (w:=w1.drew) (A:=⟨g,0,none⟩) h hc);clear hdn
      go_wp2_with fail
      refine wp_region_held_drew (S:=(fun _=>True)) (by kernel_rfl) trivial (fun hHeld=> ?_);refine tk 0 ?_;refine tk 1 ?_;refine tk 2 ?_;refine tk 3 ?_;refine tk 4 ?_;refine tk 5 ?_;refine tk 6 ?_;refine tc 7 ?_;intro K hK;refine step_app (by rfl) (.tmp 58) (.tmp 62) 27 (by rfl) base 45 2 32 Tryz.underlying27 cntI _ i (cntCells (l.take i)) (by rfl) HP.out _ 0 [] (by rfl) (HD.out _ _ (by omega) (by unfold maxLen;omega)) (by rfl) (by simp) (by unfold maxLen;omega) (by omega) HBS.out ?_;intro v3 w3 hown3 hg3 hat3;refine hK.out _ _ trivial (fun hHeld7=> ?_);clear hK K;refine tk 8 ?_;refine tk 9 ?_;refine td ?_
      all_goals
       have HN:Hid (OwnV w3 base v3 (l.take i++l.drop (i+1))):=Lib.hid (HO1.out.drew.sub (by rw[HLT.out,cntCells_app,HDN.out];simpa[cntCells,hlen0]using hown3) hg3 hat3 HSUB.out);have HGR:=Lib.hid (grown_trans hg1 (drew_grown hg3))
       have HFR:Hid (∀k,v3.ownBlock=some k→some g=some k∨w.heap.size≤k):=Lib.hid (fun k hk=>by
        rcases hat3 with h|h
        ·exact .inl (h.symm.trans hk)
        ·rw[h]at hk
         injection hk with hk;have h':w1.heap.size=k:=hk;have:=hb1.size;exact .inr (by omega))
       clear hown3 hg3 hat3;go_wp2
       go_ret2
       exact⟨v3,_,by rw[EE.out];rfl,HN.out,by rw[EE.out,av_cut],HGR.out,HFR.out,fun c hc=> .inl ⟨c,HSUB.out c hc,rfl⟩⟩
     ·have HD:=Lib.hid (show Sl w1.drew (.slice (some ⟨g,(i+1)*2,none⟩) (l.length-(i+1)) (c0-(i+1))) (l.length-(i+1)) (cntCells (l.drop (i+1)))from by
       have:=(Sl.of_own HO1.out.own).drop (size:=2) (cntCells_len l) (k:=i+1) (by omega);rw[if_neg hcap,cnt_drop]at this;have h2:Sl w1 (.slice (some ⟨g,(i+1)*2,none⟩) (l.length-(i+1)) (c0-(i+1))) (l.length-(i+1)) (cntCells (l.drop (i+1))):=by simpa[Addr.add]using this
       exact h2.drew)
      go_wp2_with fail
      refine wp_region_held_drew (S:=(fun _=>True)) (by kernel_rfl) trivial (fun hHeld=> ?_);refine tk 0 ?_;refine tk 1 ?_;refine tk 2 ?_;refine tk 3 ?_;refine tk 4 ?_;refine tk 5 ?_;refine tk 6 ?_;refine tc 7 ?_;intro K hK;refine step_app (by rfl) (.tmp 58) (.tmp 62) 27 (by rfl) base 45 2 32 Tryz.underlying27 cntI _ i (cntCells (l.take i)) (by rfl) HP.out _ (l.length-(i+1)) (cntCells (l.drop (i+1))) (by rfl) HD.out HLD.out HONE.out HM1.out HM2.out HBS.out ?_;intro v3 w3 hown3 hg3 hat3;refine hK.out _ _ trivial (fun hHeld7=> ?_);clear hK K;refine tk 8 ?_;refine tk 9 ?_;refine td ?_
      all_goals
       have HN:Hid (OwnV w3 base v3 (l.take i++l.drop (i+1))):=Lib.hid (HO1.out.drew.sub (by rw[HLT.out,cntCells_app];exact hown3) hg3 hat3 HSUB.out);have HGR:=Lib.hid (grown_trans hg1 (drew_grown hg3))
       have HFR:Hid (∀k,v3.ownBlock=some k→some g=some k∨w.heap.size≤k):=Lib.hid (fun k hk=>by
        rcases hat3 with h|h
        ·exact .inl (h.symm.trans hk)
        ·rw[h]at hk
         injection hk with hk;have h':w1.heap.size=k:=hk;have:=hb1.size;exact .inr (by omega))
       clear hown3 hg3 hat3;go_wp2
       go_ret2
       exact⟨v3,_,by rw[EE.out];rfl,HN.out,by rw[EE.out,av_cut],HGR.out,HFR.out,fun c hc=> .inl ⟨c,HSUB.out c hc,rfl⟩⟩
    ·have EE:=Lib.hid (HE4.out.trans (if_neg t3))
     have hb3:=beqF t3;have f2:=HO1.out.own.frozenAt (i*2+1);clear HE4;obtain⟨s1,s2⟩:=HO1.out.set (n:=y.n+n) HX.out;have HS1:=Lib.hid s1;have HS2:=Lib.hid s2;have HAV:=Lib.hid (av_set l i y (y.n+n) hil);clear s1 s2;go_wp2
     go_ret2
     exact⟨.slice (some ⟨g,0,none⟩) l.length c0,_,by rw[EE.out];rfl,HS1.out,by rw[EE.out,HAV.out],grown_trans hg1 HS2.out,fun k hk=> .inl hk,fun c hc=>by
      rcases List.mem_or_eq_of_mem_set hc with hc|rfl
      ·exact .inl ⟨c,hc,rfl⟩
      ·exact .inl ⟨y,List.mem_of_getElem? HX.out,rfl⟩⟩
end Go.Proofs.YtjhbeecmdgglgaaGreatDoor
