/-Groups: rows and bags that are cloned; figure. Groups: row. Fold. -/
import Derived.Test.YtjhbeecmdgglgaaGreatDoorGrpV18
import Derived.Test.YtjhbeecmdgglgaaGreatDoorGrpV9
set_option linter.unusedSimpArgs false
set_option linter.unusedVariables false
namespace Go.Proofs.YtjhbeecmdgglgaaGreatDoor
open Go.RowKit
theorem tlI:EInfo Tryz.prog 181 4 40:=by
 have h:(Tryz.prog.info? 181).map (fun i=>(i.zero,i.size,i.bytes))=some (some (.agg #[.int .i64 0,.int .i64 0,.string ⟨#[]⟩,.int .i64 0]),4,40):=by kernel_rfl
 obtain⟨i,hi,h1,h2,h3⟩:=info_parts h;exact⟨i,_,hi,h1,h2,h3,rfl,by omega⟩
theorem tl_one (x:Tl): ∀u∈x.cells,u.oneCell'=true:=by intro u hu;simp[Tl.cells]at hu;rcases hu with rfl|rfl|rfl|rfl<;>rfl
theorem tlCells_one (l:List Tl): ∀u∈tlCells l,u.oneCell'=true:=by
 intro u hu;obtain⟨x,-,h⟩:=List.mem_flatMap.1 hu;exact tl_one x u h
theorem nilT_yes (W:World)(n c:Nat):(binOp .eql 155 (.slice none n c) (.slice none 0 0)).run Tryz.prog W= .ok (.bool true) W:=by kernel_rfl
theorem nilT_no (W:World)(p:Addr)(n c:Nat):(binOp .eql 155 (.slice (some p) n c) (.slice none 0 0)).run Tryz.prog W= .ok (.bool false) W:=by kernel_rfl
set_option maxHeartbeats 1000000 in
set_option maxRecDepth 10000 in
theorem clone_own (v:Value)(l:List Val)(w:World)(h:Sl w v l.length (rowCells l))(h8:l.length≤1099511627776):
 Calls Tryz.prog 117 #[v] w fun e w'=> ∃v',e= .returned v'∧w'.ownsRow w.heap.size 68 3 v' l.length (rowCells l)∧Below w.heap.size w w':=by
 have HH:=Lib.hid h;obtain⟨A,c,rfl,h1,h2,-,h3⟩:=h;clear h2;have HO:=Lib.hid (own_emptyT w w.heap.size 68 3 (Nat.le_refl _));have hB:=below_alloc w (.cells #[] 68);have HS:=Lib.hid (HH.out.below hB);cases A with
 |none=>
  have hl:l=[]:=by
   cases l with
   |nil=>rfl
   |cons x t=>obtain⟨b,off,hA,-⟩:=h3 (by simp[rowCells,Val.cells]);cases hA
  subst hl;clear h3;have hnil:=fun W=>nil_yes W 0 c;go_enter Tryz.func117,Tryz.ntmps117
  go_wp2;go_ret;exact⟨_,rfl,⟨rfl,.inl ⟨rfl,rfl⟩⟩,Below.refl _ _⟩
 |some p=>
 clear h3;have hnil:=fun W=>nil_no W p l.length c;go_enter Tryz.func117,Tryz.ntmps117
 go_wp2_with (at_builtin;refine wpList_app rfl (.tmp 5) (.tmp 6) 43 rfl w.heap.size 68 3 32 Tryz.underlying43 valJ _ 0 _ rfl HO.out _ l.length (rowCells l) rfl HS.out (rowCells_len l) (rowCells_one l) ?_ ?_ ?_ ?_)
 ·unfold maxLen;omega
 ·omega
 ·exact hB.size
 ·intro v2 w3 hown3 hg3 hat3
  have hb3:=below_grown hB hg3 (own_ge HO.out);have S3:Hid (w3.ownsRow w.heap.size 68 3 v2 l.length (rowCells l)):=Lib.hid (by have:=hown3;simpa using this);clear hown3 hg3 hat3;go_wp2;go_ret;exact⟨_,rfl,S3.out,hb3⟩
set_option maxHeartbeats 1000000 in
set_option maxRecDepth 10000 in
theorem clone_bag (v:Value)(l:List Tl)(w:World)(h:Sl w v l.length (tlCells l))(h8:l.length≤1099511627776):
 Calls Tryz.prog 140 #[v] w fun e w'=> ∃v',e= .returned v'∧w'.ownsRow w.heap.size 181 4 v' l.length (tlCells l)∧Below w.heap.size w w':=by
 have HH:=Lib.hid h;obtain⟨A,c,rfl,h1,h2,-,h3⟩:=h;clear h2;have HO:=Lib.hid (own_emptyT w w.heap.size 181 4 (Nat.le_refl _));have hB:=below_alloc w (.cells #[] 181);have HS:=Lib.hid (HH.out.below hB);cases A with
 |none=>
  have hl:l=[]:=by
   cases l with
   |nil=>rfl
   |cons x t=>obtain⟨b,off,hA,-⟩:=h3 (by simp[tlCells,Tl.cells]);cases hA
  subst hl;clear h3;have hnil:=fun W=>nilT_yes W 0 c;go_enter Tryz.func140,Tryz.ntmps140
  go_wp2;go_ret;exact⟨_,rfl,⟨rfl,.inl ⟨rfl,rfl⟩⟩,Below.refl _ _⟩
 |some p=>
 clear h3;have hnil:=fun W=>nilT_no W p l.length c;go_enter Tryz.func140,Tryz.ntmps140
 go_wp2_with (at_builtin;refine wpList_app rfl (.tmp 5) (.tmp 6) 155 rfl w.heap.size 181 4 40 Tryz.underlying155 tlI _ 0 _ rfl HO.out _ l.length (tlCells l) rfl HS.out (tlCells_len l) (tlCells_one l) ?_ ?_ ?_ ?_)
 ·unfold maxLen;omega
 ·omega
 ·exact hB.size
 ·intro v2 w3 hown3 hg3 hat3
  have hb3:=below_grown hB hg3 (own_ge HO.out);have S3:Hid (w3.ownsRow w.heap.size 181 4 v2 l.length (tlCells l)):=Lib.hid (by have:=hown3;simpa using this);clear hown3 hg3 hat3;go_wp2;go_ret;exact⟨_,rfl,S3.out,hb3⟩
set_option maxHeartbeats 1000000 in
set_option maxRecDepth 10000 in
theorem copy_own (v:Value)(l:List Val)(w:World)(h:Sl w v l.length (rowCells l))(h8:l.length≤1099511627776):
 Calls Tryz.prog 68 #[v] w fun e w'=> ∃v',e= .returned v'∧w'.ownsRow w.heap.size 68 3 v' l.length (rowCells l)∧Below w.heap.size w w':=by
 have HH:=Lib.hid h;obtain⟨A,c,rfl,h1,h2,-,h3⟩:=h;clear h2;have HO:=Lib.hid (own_emptyT w w.heap.size 68 3 (Nat.le_refl _));have hB:=below_alloc w (.cells #[] 68);have HS:=Lib.hid (HH.out.below hB);go_enter Tryz.func68,Tryz.ntmps68
 go_wp2_with (at_builtin;refine wpList_app rfl (.tmp 3) (.tmp 4) 43 rfl w.heap.size 68 3 32 Tryz.underlying43 valJ _ 0 _ rfl HO.out _ l.length (rowCells l) rfl HS.out (rowCells_len l) (rowCells_one l) ?_ ?_ ?_ ?_)
 ·unfold maxLen;omega
 ·omega
 ·exact hB.size
 ·intro v2 w3 hown3 hg3 hat3
  have hb3:=below_grown hB hg3 (own_ge HO.out);have S3:Hid (w3.ownsRow w.heap.size 68 3 v2 l.length (rowCells l)):=Lib.hid (by have:=hown3;simpa using this);clear hown3 hg3 hat3;go_wp2;go_ret;exact⟨_,rfl,S3.out,hb3⟩
theorem sumG_snoc {bag:List Tl}{k:Nat}{x:Tl}(h:bag[k]?=some x):sumG (bag.take (k+1))=wrapI (sumG (bag.take k)+wrapI (x.v.n*x.n)):=by
 unfold sumG;rw[List.take_add_one,h,List.foldl_append];rfl
set_option maxHeartbeats 8000000 in
set_option maxRecDepth 10000 in
theorem figure_any (fn col n:Int)(vb:Value)(bag:List Tl)(w:World)(h:Sl w vb bag.length (tlCells bag))(hl:bag.length≤1099511627776):
 Calls Tryz.prog 118 #[.agg #[.int .i64 fn,.int .i64 col],.int .i64 n,vb] w fun e w'=>e= .returned (.agg #[.int .i64 (figG fn n bag).k,.int .i64 (figG fn n bag).n,.string (figG fn n bag).s])∧Below w.heap.size w w':=by
 obtain⟨F,hF⟩: ∃F:Val,F=figG fn n bag:=⟨_,rfl⟩;rw[←hF];unfold figG at hF;have HS:=Lib.hid h;obtain⟨A,c,rfl,n1,m1,-⟩:=h;unfold maxLen at m1;have hB:=below_trans (below_alloc w (.cells #[.int .i64 fn,.int .i64 col] 94)) (below_alloc _ (.cells #[.int .i64 0,.int .i64 0,.string ⟨#[]⟩] 68));have K0:=new_first w 94 #[.int .i64 fn,.int .i64 col] (.cells #[.int .i64 0,.int .i64 0,.string ⟨#[]⟩] 68);have K1:=new_second w 68 #[.int .i64 0,.int .i64 0,.string ⟨#[]⟩] (.cells #[.int .i64 fn,.int .i64 col] 94);have y0:=K0.cell 0 _ rfl;by_cases hfn:fn=1
 ·have q1:=beqT hfn
  rw[if_pos hfn]at hF;have HF:=Lib.hid hF;have hbz:=below_trans (below_alloc w (.cells #[.int .i64 fn,.int .i64 col] 94)) (below_alloc _ (.cells #[.int .i64 2,.int .i64 n,.string ⟨#[]⟩] 68));clear hF hfn K0 K1;go_enter Tryz.func118,Tryz.ntmps118
  go_wp2;refine bodyPost_ret (v:= .agg #[.int .i64 2,.int .i64 n,.string ⟨#[]⟩]) (by simp[results,Tryz.results118,go_sem]) rfl ?_;exact⟨by rw[HF.out],hbz⟩
 ·have q1:=beqF hfn
  rw[if_neg hfn]at hF;have HB:=Lib.hid hB;have HK1:=Lib.hid K1;have HSV:=Lib.hid (HS.out.below hB);have HF0:Hid (solid bag=[]→F=nullG):=Lib.hid (fun e=>by rw[hF,e])
  have HF3:Hid (∀z,fn=3→(solid bag)[0]?=some z→F=z.v):=Lib.hid (fun z h3 hz=>by
   rw[hF];generalize solid bag=sb at hz;cases sb with
   |nil=>cases hz
   |cons a l=>injection hz with hz;subst hz;simp only;rw[if_pos h3])
  have HF4:Hid (∀z,fn=4→ ¬fn=3→(solid bag)[(solid bag).length-1]?=some z→F=z.v):=Lib.hid (fun z h4 h3 hz=>by
   rw[hF];generalize solid bag=sb at hz;cases sb with
   |nil=>cases hz
   |cons a l=>
    simp only;rw[if_neg h3,if_pos h4,List.getLast_eq_getElem];rw[List.getElem?_eq_getElem (by simp)]at hz;injection hz with hz;rw[←hz])
  have HF2:Hid (solid bag≠[]→ ¬fn=3→ ¬fn=4→F=⟨2,sumG (solid bag),⟨#[]⟩⟩):=Lib.hid (fun hne h3 h4=>by
   rw[hF];generalize solid bag=sb at hne;cases sb with
   |nil=>exact absurd rfl hne
   |cons a l=>simp only;rw[if_neg h3,if_neg h4])
  clear hF hfn K0 hB K1;cases bag with
  |nil=>
   have EE:=Lib.hid (HF0.out rfl);go_enter Tryz.func118,Tryz.ntmps118
   go_wp2;refine bodyPost_ret (v:= .agg #[.int .i64 0,.int .i64 0,.string ⟨#[]⟩]) (by simp[results,Tryz.results118,go_sem]) rfl ?_;exact⟨by rw[EE.out];rfl,below_trans (below_alloc w (.cells #[.int .i64 fn,.int .i64 col] 94)) (below_alloc _ (.cells #[.int .i64 0,.int .i64 0,.string ⟨#[]⟩] 68))⟩
  |cons x t=>
   obtain⟨b,off,rfl,-,hc⟩:=tl_at (k:=0) HSV.out rfl rfl;have d00:=(hc _ (Below.refl _ _)).1;rw[Nat.zero_mul,Nat.add_zero]at d00;by_cases hk:x.v.k=0
   ·have q2:=beqT hk
    have hso:solid (x::t)=t:=(solid_cons x t).trans (if_pos hk);rw[hso]at HF0 HF3 HF4 HF2;have HSD:=fun h=>Sl.drop (size:=4) (k:=1) HSV.out (by rw[tlCells_len]) h;rw[show(tlCells (x::t)).drop (1*4)=tlCells t from rfl,show(x::t).length-1=t.length from rfl]at HSD;have HSD:=HSD (by simp);cases t with
    |nil=>
     have EE:=Lib.hid (HF0.out rfl);clear hso hk hc HSD HF3 HF4 HF2 HF0;rcases Nat.lt_or_ge 1 c with hcc|hcc
     ·have hc1: ¬c=1:=by omega
      go_enter Tryz.func118,Tryz.ntmps118
      go_wp2;refine bodyPost_ret (v:= .agg #[.int .i64 0,.int .i64 0,.string ⟨#[]⟩]) (by simp[results,Tryz.results118,go_sem]) rfl ?_;exact⟨by rw[EE.out];rfl,below_trans (below_alloc w (.cells #[.int .i64 fn,.int .i64 col] 94)) (below_alloc _ (.cells #[.int .i64 0,.int .i64 0,.string ⟨#[]⟩] 68))⟩
     ·obtain rfl:c=1:=by simp at n1;omega
      go_enter Tryz.func118,Tryz.ntmps118
      go_wp2;refine bodyPost_ret (v:= .agg #[.int .i64 0,.int .i64 0,.string ⟨#[]⟩]) (by simp[results,Tryz.results118,go_sem]) rfl ?_;exact⟨by rw[EE.out];rfl,below_trans (below_alloc w (.cells #[.int .i64 fn,.int .i64 col] 94)) (below_alloc _ (.cells #[.int .i64 0,.int .i64 0,.string ⟨#[]⟩] 68))⟩
    |cons y l=>
     have hc1: ¬c=1:=by simp at n1;omega
     rw[if_neg hc1]at HSD;have HF2:=Lib.hid (HF2.out (by simp));obtain⟨N,hN⟩: ∃N,N=(y::l).length:=⟨_,rfl⟩;have HN:=Lib.hid hN;have hN1:1≤N:=by rw[hN];simp
     rw[show(x::y::l).length=N+1 by rw[hN];rfl]at n1 hl⊢;rw[←hN]at HSD HF4;generalize y::l=sb at HSD HF2 HF3 HF4 HN;obtain⟨VV,hsv0⟩: ∃VV,Value.slice ((some (⟨b,off,none⟩:Addr)).map (·.add (1*4))) N (c-1)=VV:=⟨_,rfl⟩;have hsv:VV= .slice (some ⟨b,off+4,none⟩) N (c-1):=by rw[←hsv0];rfl
     rw[hsv0]at HSD;have HSP:Hid (Sl ((w.alloc (.cells #[.int .i64 fn,.int .i64 col] 94)).alloc (.cells #[.int .i64 0,.int .i64 0,.string ⟨#[]⟩] 68)) VV sb.length (tlCells sb)):=Lib.hid (by rw[←HN.out];exact HSD);have HSV0:=Lib.hid hsv;clear hsv0 hsv HSD hso hk hc HF0 hN HSV HS;go_enter Tryz.func118,Tryz.ntmps118
     by_cases h3:fn=3
     ·have q3:=beqT h3
      obtain⟨z,hz⟩: ∃z,sb[0]?=some z:=⟨_,List.getElem?_eq_getElem (by have:=HN.out;omega)⟩;have HV:=Lib.hid (HF3.out z h3 hz);obtain⟨b3,o3,hA3,-,hc3⟩:=tl_at HSP.out HSV0.out hz;injection hA3 with hA3;injection hA3 with e1 e2;obtain⟨d0,d1,d2,-⟩:=hc3 _ (Below.refl _ _);rw[←e1,←e2,Nat.zero_mul,Nat.add_zero]at d0 d1 d2;obtain⟨⟨zk,zn,zs⟩,zc⟩:=z;simp only at d0 d1 d2 HV;clear h3 hz hc3 e1 e2;go_wp2;refine bodyPost_ret (v:= .agg #[.int .i64 zk,.int .i64 zn,.string zs]) (by simp[results,Tryz.results118,go_sem]) rfl ?_;exact⟨by rw[HV.out],below_trans (below_alloc w (.cells #[.int .i64 fn,.int .i64 col] 94)) (below_alloc _ (.cells #[.int .i64 zk,.int .i64 zn,.string zs] 68))⟩
     ·have q3:=beqF h3
      by_cases h4:fn=4
      ·have q4:=beqT h4
       obtain⟨z,hz⟩: ∃z,sb[N-1]?=some z:=⟨_,List.getElem?_eq_getElem (by have:=HN.out;omega)⟩;have HV:=Lib.hid (HF4.out z h4 h3 hz);obtain⟨b3,o3,hA3,-,hc3⟩:=tl_at HSP.out HSV0.out hz;injection hA3 with hA3;injection hA3 with e1 e2;obtain⟨d0,d1,d2,-⟩:=hc3 _ (Below.refl _ _);rw[←e1,←e2]at d0 d1 d2;obtain⟨⟨zk,zn,zs⟩,zc⟩:=z;simp only at d0 d1 d2 HV;have hw:IntKind.i64.wrap ((N:Int)-1)=(N:Int)-1:=by rw[IntKind.wrap_i64];omega
       have hi0:(0:Int)≤(N:Int)-1:=by omega
       have hi1:(N:Int)-1<(N:Int):=by omega
       have hi2:((N:Int)-1).toNat=N-1:=by omega
       clear h3 h4 hz hc3 e1 e2;go_wp2;refine bodyPost_ret (v:= .agg #[.int .i64 zk,.int .i64 zn,.string zs]) (by simp[results,Tryz.results118,go_sem]) rfl ?_;exact⟨by rw[HV.out],below_trans (below_alloc w (.cells #[.int .i64 fn,.int .i64 col] 94)) (below_alloc _ (.cells #[.int .i64 zk,.int .i64 zn,.string zs] 68))⟩
      ·have q4:=beqF h4
       have HV:=Lib.hid (HF2.out h3 h4);clear h3 h4
       go_wp2_with fail
       go_loopw[7,9,51] (fun s _ i wr=> ∃k:Nat,k≤N∧i= .int .i64 k∧s= .int .i64 (sumG (sb.take k))∧Below ((w.alloc (.cells #[.int .i64 fn,.int .i64 col] 94)).alloc (.cells #[.int .i64 0,.int .i64 0,.string ⟨#[]⟩] 68)).heap.size ((w.alloc (.cells #[.int .i64 fn,.int .i64 col] 94)).alloc (.cells #[.int .i64 0,.int .i64 0,.string ⟨#[]⟩] 68)) wr) (fun _ _ i _=>N-(intOf i).toNat)
       case atStart=>exact⟨0,by omega,rfl,by simp[sumG],Below.refl _ _⟩
       case round=>
        obtain⟨k,hk,rfl,rfl,hbr⟩:=hrel;by_cases hlt:k<N
        ·obtain⟨z,hz⟩: ∃z,sb[k]?=some z:=⟨_,List.getElem?_eq_getElem (by have:=HN.out;omega)⟩
         obtain⟨b3,o3,hA3,-,hc3⟩:=tl_at HSP.out HSV0.out hz;injection hA3 with hA3;injection hA3 with e1 e2;obtain⟨d0,d1,d2,d3⟩:=hc3 _ hbr;rw[←e1,←e2]at d0 d1 d2 d3;have HSM:=Lib.hid (sumG_snoc hz);generalize sumG (sb.take k)=s0 at HSM⊢;obtain⟨⟨zk,zn,zs⟩,zc⟩:=z;simp only at d0 d1 d2 d3 HSM;have hb3:=hbr.alloc hbr.size (.cells #[.int .i64 zk,.int .i64 zn,.string zs,.int .i64 zc] 181);clear hz hc3 e1 e2;go_wp2;go_roundw
         case rel=>exact⟨k+1,by omega,by go_num,by rw[HSM.out];simp only[wrapI,IntWalk.i64_left],hb3⟩
         case measure=>simp[intOf];omega
        ·obtain rfl:k=N:=by omega
         have HSA:Hid (sb.take k=sb):=Lib.hid (List.take_of_length_le (by have:=HN.out;omega));rw[HSA.out];generalize sumG sb=s0 at HV⊢;have K9:=HK1.out.below hbr;have hBB:=below_trans HB.out hbr;have r0:=K9.cell 0 _ rfl;have r1:=K9.cell 1 _ rfl;have r2:=K9.cell 2 _ rfl;have f0:=K9.free 0;have f1:=K9.free 1;have f2:=K9.free 2;have KZ:=K9.setAll [.int .i64 2,.int .i64 s0,.string ⟨#[]⟩] rfl;have hbz:=below_setAll (l:=[.int .i64 2,.int .i64 s0,.string ⟨#[]⟩]) (i:=0) hBB (g:=w.heap.size+1) (by omega);simp only[setAll,Nat.reduceAdd]at KZ hbz;have e0:=KZ.cell 0 _ rfl;have e1:=KZ.cell 1 _ rfl;have e2:=KZ.cell 2 _ rfl;clear KZ K9 hBB hk hlt;go_wp2;refine bodyPost_ret (v:= .agg #[.int .i64 2,.int .i64 s0,.string ⟨#[]⟩]) (by simp[results,Tryz.results118,go_sem,e0,e1,e2]) rfl ?_;exact⟨by rw[HV.out],hbz⟩
   ·have q2:=beqF hk
    have hso:solid (x::t)=x::t:=(solid_cons x t).trans (if_neg hk);rw[hso]at HF3 HF4 HF2;have HF2:=Lib.hid (HF2.out (by simp));obtain⟨N,hN⟩: ∃N,N=(x::t).length:=⟨_,rfl⟩;have HN:=Lib.hid hN;have hN1:1≤N:=by rw[hN];simp
    rw[←hN]at n1 hl HSV HF4⊢;have HX0:Hid ((x::t)[0]?=some x):=Lib.hid rfl;generalize x::t=sb at HSV HF2 HF3 HF4 HN HX0;obtain⟨VV,hsv⟩: ∃VV,VV=Value.slice (some ⟨b,off,none⟩) N c:=⟨_,rfl⟩;have HSP:Hid (Sl ((w.alloc (.cells #[.int .i64 fn,.int .i64 col] 94)).alloc (.cells #[.int .i64 0,.int .i64 0,.string ⟨#[]⟩] 68)) VV sb.length (tlCells sb)):=Lib.hid (by rw[←HN.out,hsv];exact HSV.out);have HSV0:=Lib.hid hsv;clear hso hk hc HF0 hN HSV HS hsv;go_enter Tryz.func118,Tryz.ntmps118
    by_cases h3:fn=3
    ·have q3:=beqT h3
     obtain⟨z,hz⟩: ∃z,sb[0]?=some z:=⟨_,List.getElem?_eq_getElem (by have:=HN.out;omega)⟩;have HV:=Lib.hid (HF3.out z h3 hz);obtain rfl:z=x:=by have:=hz.symm.trans HX0.out;injection this
     obtain⟨b3,o3,hA3,-,hc3⟩:=tl_at HSP.out HSV0.out hz;injection hA3 with hA3;injection hA3 with e1 e2;obtain⟨d0,d1,d2,-⟩:=hc3 _ (Below.refl _ _);rw[←e1,←e2,Nat.zero_mul,Nat.add_zero]at d0 d1 d2;obtain⟨⟨zk,zn,zs⟩,zc⟩:=z;simp only at d0 d1 d2 HV d00;clear h3 hz hc3 e1 e2;go_wp2;refine bodyPost_ret (v:= .agg #[.int .i64 zk,.int .i64 zn,.string zs]) (by simp[results,Tryz.results118,go_sem]) rfl ?_;exact⟨by rw[HV.out],below_trans (below_alloc w (.cells #[.int .i64 fn,.int .i64 col] 94)) (below_alloc _ (.cells #[.int .i64 zk,.int .i64 zn,.string zs] 68))⟩
    ·have q3:=beqF h3
     by_cases h4:fn=4
     ·have q4:=beqT h4
      obtain⟨z,hz⟩: ∃z,sb[N-1]?=some z:=⟨_,List.getElem?_eq_getElem (by have:=HN.out;omega)⟩;have HV:=Lib.hid (HF4.out z h4 h3 hz);obtain⟨b3,o3,hA3,-,hc3⟩:=tl_at HSP.out HSV0.out hz;injection hA3 with hA3;injection hA3 with e1 e2;obtain⟨d0,d1,d2,-⟩:=hc3 _ (Below.refl _ _);rw[←e1,←e2]at d0 d1 d2;obtain⟨⟨zk,zn,zs⟩,zc⟩:=z;simp only at d0 d1 d2 HV;have hw:IntKind.i64.wrap ((N:Int)-1)=(N:Int)-1:=by rw[IntKind.wrap_i64];omega
      have hi0:(0:Int)≤(N:Int)-1:=by omega
      have hi1:(N:Int)-1<(N:Int):=by omega
      have hi2:((N:Int)-1).toNat=N-1:=by omega
      clear h3 h4 hz hc3 e1 e2;go_wp2;refine bodyPost_ret (v:= .agg #[.int .i64 zk,.int .i64 zn,.string zs]) (by simp[results,Tryz.results118,go_sem]) rfl ?_;exact⟨by rw[HV.out],below_trans (below_alloc w (.cells #[.int .i64 fn,.int .i64 col] 94)) (below_alloc _ (.cells #[.int .i64 zk,.int .i64 zn,.string zs] 68))⟩
     ·have q4:=beqF h4
      have HV:=Lib.hid (HF2.out h3 h4);clear h3 h4
      go_wp2_with fail
      go_loopw[7,9,51] (fun s _ i wr=> ∃k:Nat,k≤N∧i= .int .i64 k∧s= .int .i64 (sumG (sb.take k))∧Below ((w.alloc (.cells #[.int .i64 fn,.int .i64 col] 94)).alloc (.cells #[.int .i64 0,.int .i64 0,.string ⟨#[]⟩] 68)).heap.size ((w.alloc (.cells #[.int .i64 fn,.int .i64 col] 94)).alloc (.cells #[.int .i64 0,.int .i64 0,.string ⟨#[]⟩] 68)) wr) (fun _ _ i _=>N-(intOf i).toNat)
      case atStart=>exact⟨0,by omega,rfl,by simp[sumG],Below.refl _ _⟩
      case round=>
       obtain⟨k,hk,rfl,rfl,hbr⟩:=hrel;by_cases hlt:k<N
       ·obtain⟨z,hz⟩: ∃z,sb[k]?=some z:=⟨_,List.getElem?_eq_getElem (by have:=HN.out;omega)⟩
        obtain⟨b3,o3,hA3,-,hc3⟩:=tl_at HSP.out HSV0.out hz;injection hA3 with hA3;injection hA3 with e1 e2;obtain⟨d0,d1,d2,d3⟩:=hc3 _ hbr;rw[←e1,←e2]at d0 d1 d2 d3;have HSM:=Lib.hid (sumG_snoc hz);generalize sumG (sb.take k)=s0 at HSM⊢;obtain⟨⟨zk,zn,zs⟩,zc⟩:=z;simp only at d0 d1 d2 d3 HSM;have hb3:=hbr.alloc hbr.size (.cells #[.int .i64 zk,.int .i64 zn,.string zs,.int .i64 zc] 181);clear hz hc3 e1 e2;go_wp2;go_roundw
        case rel=>exact⟨k+1,by omega,by go_num,by rw[HSM.out];simp only[wrapI,IntWalk.i64_left],hb3⟩
        case measure=>simp[intOf];omega
       ·obtain rfl:k=N:=by omega
        have HSA:Hid (sb.take k=sb):=Lib.hid (List.take_of_length_le (by have:=HN.out;omega));rw[HSA.out];generalize sumG sb=s0 at HV⊢;have K9:=HK1.out.below hbr;have hBB:=below_trans HB.out hbr;have r0:=K9.cell 0 _ rfl;have r1:=K9.cell 1 _ rfl;have r2:=K9.cell 2 _ rfl;have f0:=K9.free 0;have f1:=K9.free 1;have f2:=K9.free 2;have KZ:=K9.setAll [.int .i64 2,.int .i64 s0,.string ⟨#[]⟩] rfl;have hbz:=below_setAll (l:=[.int .i64 2,.int .i64 s0,.string ⟨#[]⟩]) (i:=0) hBB (g:=w.heap.size+1) (by omega);simp only[setAll,Nat.reduceAdd]at KZ hbz;have e0:=KZ.cell 0 _ rfl;have e1:=KZ.cell 1 _ rfl;have e2:=KZ.cell 2 _ rfl;clear KZ K9 hBB hk hlt;go_wp2;refine bodyPost_ret (v:= .agg #[.int .i64 2,.int .i64 s0,.string ⟨#[]⟩]) (by simp[results,Tryz.results118,go_sem,e0,e1,e2]) rfl ?_;exact⟨by rw[HV.out],hbz⟩
end Go.Proofs.YtjhbeecmdgglgaaGreatDoor
namespace Go.Proofs.YtjhbeecmdgglgaaGreatDoor
open Go.RowKit
theorem rcApp (a b:List Val):rowCells (a++b)=rowCells a++rowCells b:=List.flatMap_append
theorem rowCells_one1 (x:Val):rowCells [x]=[.int .i64 x.k,.int .i64 x.n,.string x.s]:=rfl
set_option maxHeartbeats 8000000 in
set_option maxRecDepth 10000 in
theorem grow_any (p:Pl)(g:Gm)(w:World)(hpa:Sl w p.va p.aggs.length (aggCells p.aggs))(hg:g.ok w)(hbl:g.bags.length=p.aggs.length)(h8:g.r.length≤8)(h4:p.aggs.length≤4)(hlb: ∀q∈g.bags,q.2.length≤1099511627776):
 Calls Tryz.prog 81 #[.agg #[.int .i64 p.kind,.int .i64 p.mode,.int .i64 p.low,.int .i64 p.high,.int .i64 p.size,.int .i64 p.limit,p.vl,p.vr,p.vk,p.vq,.bool p.grouped,p.vg,p.va],g.agg] w fun e w'=> ∃v',e= .returned v'∧w'.ownsRow (w.heap.size+2) 68 3 v' (rowG p g.gp).length (rowCells (rowG p g.gp))∧Below w.heap.size w w':=by
 have HPA:=Lib.hid hpa;have HG:=Lib.hid hg;have HCL:=Lib.hid (fun W (h:Below w.heap.size w W)=>clone_own g.v g.r W (hg.row.below h) (by omega));have HFI:=Lib.hid (fun W (h:Below w.heap.size w W) (fn col:Int) (q:Value×List Tl) (hq:q∈g.bags)=>figure_any fn col g.n q.1 q.2 W ((hg.bags q hq).below h) (hlb q hq));obtain⟨Z,hZ⟩: ∃Z,rowG p g.gp=Z:=⟨_,rfl⟩;have HZ:Hid (Z=g.r++(p.aggs.zip (g.bags.map (·.2))).map fun q=>figG q.1.1 g.n q.2):=Lib.hid (by rw[←hZ];rfl);rw[hZ];clear hZ;obtain⟨A5,c5,hva,n5,m5,-⟩:=id HPA.out;obtain⟨gv,gr,gn,gvb,gbags⟩:=g;obtain⟨Ar,cr,hv,nr,mr,-⟩:=id hg.row;obtain⟨Ab,cb,hvb,nb,mb,-⟩:=id hg.sl;simp only at hv hvb nr nb hbl h8 HZ;subst hv hvb;unfold maxLen at m5 mr mb;unfold Gm.agg;rw[hva]at HPA⊢;clear hva hg hpa;simp only at HCL HFI hlb⊢;have hB:=below_trans (below_alloc w (.cells #[.int .i64 p.kind,.int .i64 p.mode,.int .i64 p.low,.int .i64 p.high,.int .i64 p.size,.int .i64 p.limit,p.vl,p.vr,p.vk,p.vq,.bool p.grouped,p.vg,.slice A5 p.aggs.length c5] 25)) (below_alloc _ (.cells #[.slice Ar gr.length cr,.int .i64 gn,.slice Ab gbags.length cb] 126));have K1:=new_second w 126 #[.slice Ar gr.length cr,.int .i64 gn,.slice Ab gbags.length cb] (.cells #[.int .i64 p.kind,.int .i64 p.mode,.int .i64 p.low,.int .i64 p.high,.int .i64 p.size,.int .i64 p.limit,p.vl,p.vr,p.vk,p.vq,.bool p.grouped,p.vg,.slice A5 p.aggs.length c5] 25);have K0:=(new_first w 25 #[.int .i64 p.kind,.int .i64 p.mode,.int .i64 p.low,.int .i64 p.high,.int .i64 p.size,.int .i64 p.limit,p.vl,p.vr,p.vk,p.vq,.bool p.grouped,p.vg,.slice A5 p.aggs.length c5] (.cells #[.slice Ar gr.length cr,.int .i64 gn,.slice Ab gbags.length cb] 126));have HBL:=Lib.hid hbl;clear hbl;go_enter Tryz.func81,Tryz.ntmps81
 go_wp2_with fail
 refine Calls.mono (by with_reducible exact HCL.out _ hB) ?_;rintro e w1 ⟨v1,rfl,hown1,hb1⟩;have hbw:=below_trans hB hb1;have HOW:=Lib.hid hown1;simp only[World.size_alloc]at HOW;have L1:=K1.below hb1;have y12:=(K0.below hb1).cell 12 _ rfl;have hs1:w.heap.size+2≤w1.heap.size:=by have:=hb1.size;simp at this;omega
 clear hown1 hB hb1 K1 K0 HCL
 go_wp2_with fail
 go_loopw[5,6,7,14] (fun ov _ _ i wr=> ∃k:Nat,k≤p.aggs.length∧i= .int .i64 k∧Hid (wr.ownsRow (w.heap.size+2) 68 3 ov (gr.length+k) (rowCells (gr++((p.aggs.zip (gbags.map (·.2))).take k).map fun q=>figG q.1.1 gn q.2)))∧Hid (Blk wr (w.heap.size+1) 126 #[.slice Ar gr.length cr,.int .i64 gn,.slice Ab gbags.length cb])∧w.heap.size+2≤wr.heap.size∧Below w.heap.size w wr) (fun _ _ _ i _=>p.aggs.length-(intOf i).toNat)
 case atStart=>exact⟨0,by omega,rfl,Lib.hid (by simpa using HOW.out),Lib.hid L1,hs1,hbw⟩
 case round=>
  clear L1 y12 HOW;obtain⟨k,hk,rfl,HO,HKG,hsr,hbr⟩:=hrel;have KG0:=HKG.out;have hBr:=hbr;by_cases hlt:k<p.aggs.length
  ·have hx:=List.getElem?_eq_getElem (l:=p.aggs) hlt
   generalize p.aggs[k]=x at hx;obtain⟨b5,o5,rfl,-,hc5⟩:=agg_at HPA.out rfl hx;obtain⟨d1,d2⟩:=hc5 _ hBr;have hlt2:k<gbags.length:=by have:=HBL.out;omega
   have hq:=List.getElem?_eq_getElem (l:=gbags) hlt2;generalize gbags[k]=q at hq;obtain⟨bb,ob,rfl,hbb,hcb⟩:=cellv_at HG.out.sl rfl hq;have HBB:=Lib.hid hbb;have HZQ:=Lib.hid (map_step (f:=fun q:(Int×Int)×List Tl=>figG q.1.1 gn q.2) (zip_at (m:=gbags.map (·.2)) hx (by rw[List.getElem?_map,hq];rfl)));have hBw1:=hBr.alloc hBr.size (.cells #[.int .i64 x.1,.int .i64 x.2] 94);have HFG:=Lib.hid (fun W h=>HFI.out W h x.1 x.2 q (List.mem_of_getElem? hq));obtain⟨fn,col⟩:=x;obtain⟨bv,bl⟩:=q;simp only at d1 d2 hcb HZQ HFG hBw1;have KX:=Blk.new wr 94 #[.int .i64 fn,.int .i64 col];have KG:=KG0.alloc (.cells #[.int .i64 fn,.int .i64 col] 94);have HSS:=Lib.hid (fun w' (h:Below (wr.alloc (.cells #[.int .i64 fn,.int .i64 col] 94)).heap.size (wr.alloc (.cells #[.int .i64 fn,.int .i64 col] 94)) w')=>And.intro ((KX.below h).cell 0 _ rfl) (And.intro ((KX.below h).cell 1 _ rfl) (And.intro ((KG.below h).cell 1 _ rfl) (And.intro ((KG.below h).cell 2 _ rfl) (hcb w' (below_trans hBw1 h))))));have HO1:=Lib.hid (HO.out.alloc (.cells #[.int .i64 fn,.int .i64 col] 94));generalize figG fn gn bl=F at HFG HZQ;obtain⟨fk,fm,fs⟩:=F;simp only at HFG HZQ;have HS2:=Lib.hid hBr;have Q1:Hid (gr.length+k+1≤maxLen):=Lib.hid (by unfold maxLen;omega);have Q2:Hid ((gr.length+k+1)*32≤140737488355328):=Lib.hid (by omega);have HSR:=Lib.hid hsr;have k1':(k:Int)<(gbags.length:Int):=by omega
   have k0':(0:Int)≤(k:Int):=by omega
   clear hx hq hlt2 HKG
   go_wp2_with fail
   refine tr (S:=(fun w'=>w'.cell? ⟨wr.heap.size,0,none⟩=some (.int .i64 fn)∧w'.cell? ⟨wr.heap.size,1,none⟩=some (.int .i64 col)∧w'.cell? ⟨w.heap.size+1,1,none⟩=some (.int .i64 gn)∧w'.cell? ⟨w.heap.size+1,2,none⟩=some (.slice (some ⟨bb,ob,none⟩) gbags.length cb)∧w'.cell? ⟨bb,ob+k,none⟩=some (bv))) (HSS.out _ (Below.refl _ (wr.alloc (.cells #[.int .i64 fn,.int .i64 col] 94))).drew) (fun hHeld=> ?_);refine tk 0 ?_;refine tk 1 ?_;refine tk 2 ?_;refine tk 3 ?_;refine tk 4 ?_;refine tk 5 ?_;refine tk 6 ?_;refine tk 7 ?_;refine tk 8 ?_;refine tc 9 ?_;intro K hK;go_simp;refine Calls.mono (by with_reducible exact HFG.out _ (below_trans hBw1 (Below.refl _ (wr.alloc (.cells #[.int .i64 fn,.int .i64 col] 94))).drew)) ?_;rintro e w2 ⟨rfl,hb2⟩;have hbw2:=below_trans (Below.refl _ (wr.alloc (.cells #[.int .i64 fn,.int .i64 col] 94))).drew hb2;have Z2:=HSS.out _ hbw2;have O2:=Lib.hid ((own_below HO1.out hbw2).alloc (.cells #[.int .i64 fk,.int .i64 fm,.string fs] 68));have B2:=Lib.hid ((below_trans hBw1 hbw2).alloc (below_trans hBw1 hbw2).size (.cells #[.int .i64 fk,.int .i64 fm,.string fs] 68));have Z3:=HSS.out _ (below_trans hbw2 (below_alloc _ (.cells #[.int .i64 fk,.int .i64 fm,.string fs] 68)));have hbw3:=below_trans hbw2 (below_alloc _ (.cells #[.int .i64 fk,.int .i64 fm,.string fs] 68));have F3:=Lib.hid (Sl.block (Blk.new w2 68 #[.int .i64 fk,.int .i64 fm,.string fs]) 1 1 (Nat.le_refl _) (by decide))
   go_wp2_with fail
   refine hK.out _ _ Z2 (fun hHeld9=> ?_);clear hK K;refine tc 10 ?_;intro K hK;go_simp;refine hK.out _ _ Z3 (fun hHeld10=> ?_);clear hK K;refine tc 11 ?_;intro K hK;refine step_app (by rfl) _ _ 43 (by rfl) (w.heap.size+2) 68 3 32 Tryz.underlying43 valJ u5 (gr.length+k) _ (by rfl) O2.out _ 1 [.int .i64 fk,.int .i64 fm,.string fs] (by rfl) F3.out rfl (by simp[Value.oneCell']) Q1.out Q2.out (by have h1:=hbw3.size;have h2:=HSR.out;simp at h1⊢;omega) ?_;intro v4 w4 hown4 hg3 hat4;have hne:=fun j hj=>own_ge HO.out j hj;have hne2:=fun j hj=>own_lt HO.out j hj;have KX2:=(KX.below hbw3).grown hg3 (fun e=>by have:=hne2 _ e;omega);have KG2:=(KG.below hbw3).grown hg3 (fun e=>by have:=hne _ e;omega);have hcb2:=hcb _ (below_trans hBw1 hbw3);have hlb:bb<(w2.alloc (.cells #[.int .i64 fk,.int .i64 fm,.string fs] 68)).heap.size:=World.block_lt_of_cell? _ _ hcb2;have hnb:u5.ownBlock≠some bb:=fun e=>by have h1:=hne _ e;have h2:=HBB.out;omega
   have Z4:=And.intro (KX2.cell 0 _ rfl) (And.intro (KX2.cell 1 _ rfl) (And.intro (KG2.cell 1 _ rfl) (And.intro (KG2.cell 2 _ rfl) ((World.cell?_of_block (hg3.block bb hlb hnb.symm)).trans hcb2))));refine hK.out _ _ Z4 (fun hHeld11=> ?_);clear hK K;refine tk 12 ?_;refine td ?_
   have H5:Hid (w4.ownsRow (w.heap.size+2) 68 3 v4 (gr.length+(k+1)) (rowCells (gr++((p.aggs.zip (gbags.map (·.2))).take (k+1)).map fun q=>figG q.1.1 gn q.2))):=Lib.hid (by
    rw[HZQ.out,←List.append_assoc,rcApp,rowCells_one1];exact hown4)
   have hb5:=below_grown B2.out hg3 (fun j hj=>by have:=own_ge HO.out j hj;omega);have hs5:w.heap.size+2≤w4.heap.size:=by have h1:=hg3.size;have h2:=hbw3.size;simp at h1 h2;have:=HSR.out;omega
   have KG5:=Lib.hid KG2;clear hown4 hg3 hat4 KX2 KG2 hne hne2 hcb2 hlb hnb Z4;go_wp2;go_roundw
   case rel=>exact⟨k+1,by omega,by go_num,H5,KG5,hs5,hb5⟩
   case measure=>simp[intOf];omega
  ·obtain rfl:k=p.aggs.length:=by omega
   have HZE:Hid ((p.aggs.zip (gbags.map (·.2))).take p.aggs.length=p.aggs.zip (gbags.map (·.2))):=Lib.hid (List.take_of_length_le (by rw[List.length_zip];omega));rw[HZE.out,←HZ.out]at HO;have hZL:Z.length=gr.length+p.aggs.length:=by have:=HBL.out;rw[HZ.out,List.length_append,List.length_map,List.length_zip,List.length_map];omega
   have HO2:=Lib.hid (show wr.ownsRow (w.heap.size+2) 68 3 u5 Z.length (rowCells Z)from by rw[hZL];exact HO.out);clear hZL HO;go_wp2;go_ret;exact⟨_,rfl,HO2.out,hbr⟩
end Go.Proofs.YtjhbeecmdgglgaaGreatDoor
namespace Go.Proofs.YtjhbeecmdgglgaaGreatDoor
open Go.RowKit Go.Maps
theorem ac_at {m:List Chn}{k:Nat}{x:Chn}(h:m[k]?=some x):(ac m).drop k=(x.k,x.r)::(ac m).drop (k+1):=by
 have h':(ac m)[k]?=some (x.k,x.r):=by unfold ac;rw[List.getElem?_map,h];rfl
 obtain⟨hk,e⟩:=List.getElem?_eq_some_iff.1 h';rw[List.drop_eq_getElem_cons hk,e]
theorem ac_end (m:List Chn):(ac m).drop m.length=[]:=List.drop_of_length_le (by unfold ac;rw[List.length_map];exact Nat.le_refl _)
set_option maxHeartbeats 4000000 in
set_option maxRecDepth 10000 in
theorem cfold_any (v vm:Value)(l:List Cnt)(m:List Chn)(w:World)(h:View w v l)(hf:FineV l)(hs:Chs w vm m)(hfm:FineC m)(hm:Mx w):
 Calls Tryz.prog 21 #[v,vm] w fun e w'=> ∃v' l',e= .returned (.tuple #[v',.int .i64 (foldS l m).2.1,.int .i64 (foldS l m).2.2])∧View w' v' l'∧av l'=(foldS l m).1∧Below w.heap.size w w':=by
 have HV:=Lib.hid h;have HF:=Lib.hid hf;have HS:=Lib.hid hs;have HFM:=Lib.hid hfm;have HM:=Lib.hid hm;have HE:Hid (foldS l m=if chkV l≠0 then([],0,chkV l)else if formC m≠0 then([],0,formC m)else foldR (av l) 0 (ac m)):=Lib.hid rfl;have HCZ:=Lib.hid (chk_zero hf);have HFZ:=Lib.hid (form_zero hfm);generalize foldS l m=R at HE⊢;obtain⟨Av,cv,rfl,-⟩:=id h.sl;obtain⟨Am,cm,rfl,hm1,hm2,-⟩:=id hs.sl;unfold maxLen at hm2;clear h hf hs hfm hm;generalize hk:chkV l=c at HE HCZ;have HK:=Lib.hid hk;generalize hy:formC m=y at HE HFZ;have HY:=Lib.hid hy;clear hk hy;go_enter Tryz.func21,Tryz.ntmps21
 go_wp2_with fail
 refine(checkView_any _ l _ HV.out HF.out HM.out).mono ?_;rw[HK.out];rintro e w1 ⟨rfl,hb1⟩;by_cases hc:c=0
 ·have HE1:=Lib.hid (HE.out.trans (if_neg (fun h=>h hc)))
  have HG:=Lib.hid (HCZ.out hc);have hc':=beqT hc;clear HE HCZ hc
  go_wp2_with fail
  refine(cform_any _ m _ (HS.out.below hb1) HFM.out (HM.out.below hb1)).mono ?_;rw[HY.out];rintro e w2 ⟨rfl,hb2⟩;have hb12:=below_trans hb1 hb2;by_cases hy:y=0
  ·have HE2:=Lib.hid (HE1.out.trans (if_neg (fun h=>h hy)))
   have HGC:=Lib.hid (HFZ.out hy);have hy':=beqT hy;clear HE1 HFZ hy
   go_wp2_with fail
   refine(of_any _ l _ (HV.out.below hb12) HF.out HG.out (HM.out.below hb12)).mono ?_;rintro e w3 ⟨M,rfl,hM,hP,hb3⟩;have hb13:=below_trans hb12 hb3;have hM2:w.heap.size≤M:=by have:=hb12.size;omega
   have hml:m.length≤4096:=HGC.out.few
   go_wp2_with fail
   go_loopw[10,11,12,13,14,29] (fun _ _ _ _ _ i wr=> ∃(k:Nat) (B:AV),k≤m.length∧i= .int .i64 k∧Hid (R=foldR B k ((ac m).drop k))∧Hid (GoodA B)∧Hid (Pile wr M (4096+k) B)∧Below w.heap.size w wr) (fun _ _ _ _ _ i _=>m.length-(intOf i).toNat)
   case atStart=>exact⟨0,av l,by omega,rfl,HE2.out,HG.out.a,hP,hb13⟩
   case round=>
    obtain⟨k,B,hk,rfl,HR,HGA,HP,hbw⟩:=hrel;by_cases hlt:k<m.length
    ·have hx:=List.getElem?_eq_getElem (l:=m) hlt
     generalize m[k]=x at hx;obtain⟨g,off,rfl,-,hcc⟩:=chn_at HS.out.sl rfl hx;obtain⟨d1,d2⟩:=hcc _ hbw;have hmem:=List.mem_of_getElem? hx;have HRW:=Lib.hid (HS.out.rows x hmem);have HFX:=Lib.hid (HFM.out.rows x hmem);have HGX:=Lib.hid (HGC.out.good x hmem).1;have hx1:=(HGC.out.good x hmem).2.1;have hx4:=(HGC.out.good x hmem).2.2;have HR1:Hid (R=foldR B k ((x.k,x.r)::(ac m).drop (k+1))):=Lib.hid (by rw[HR.out,ac_at hx]);clear hx hcc hmem HR;obtain⟨xv,xr,xk⟩:=x;simp only at d1 d2 HRW HFX HGX hx1 hx4 HR1;obtain⟨Ax,cx,rfl,-⟩:=id HRW.out;have hbw2:=hbw.alloc hbw.size (.cells #[.int .i64 xk,.slice Ax xr.length cx] 48);have HSX:=Lib.hid (HRW.out.below hbw2);have kb:=(Blk.new wr 48 #[.int .i64 xk,.slice Ax xr.length cx]);have HP2:=Lib.hid (HP.out.below (below_alloc wr (.cells #[.int .i64 xk,.slice Ax xr.length cx] 48)))
     have HKE:=Lib.hid (keyErr_ok (r:=xr) (by
      have hz:firstNZ (xr.map checkV)=0:=firstNZ_none (by intro y hy;obtain⟨z,hz,rfl⟩:=List.mem_map.1 hy;exact(HGX.out.good z hz).1);unfold keyErr;rw[if_neg (by have:=HGX.out.few;omega),hz]))
     go_wp2_with fail
     refine(key_any _ xr _ HSX.out HFX.out (HM.out.below hbw2)).mono ?_;rw[HKE.out];rintro e w4 ⟨rfl,hb4⟩;have y0:=(kb.below hb4).cell 0 _ rfl;have y1:=(kb.below hb4).cell 1 _ rfl;have HP4:=Lib.hid (HP2.out.below hb4);have hbw4:=below_trans hbw2 hb4;clear HP HP2
     go_wp2_with fail
     refine(cstep_any xk _ _ hx1 hx4).mono ?_;rintro e w5 ⟨rfl,hb5⟩;have HP5:=Lib.hid (HP4.out.below hb5);have hbw5:=below_trans hbw4 hb5;have hs2:=stepI_two xk;have hln:=look_num xr HGA.out.nums
     go_wp2_with fail
     refine(add_any (n:=stepI xk) _ HP5.out (by omega) HGA.out.rises HGX.out (by omega) (by omega)).mono ?_;rintro e w6 ⟨rfl,hP6,hg6⟩;have hb6:Below w.heap.size w w6:=hbw5.grown hg6 hbw5.size (fun j hj=>by cases hj;exact hM2);have HADD:=Lib.hid (fun h0=>GoodA.add (n:=stepI xk) HGA.out HGX.out h0);have HR2:Hid (R=if(addR B xr (stepI xk)).2=0 then foldR (addR B xr (stepI xk)).1 (k+1) ((ac m).drop (k+1))else([],k,(addR B xr (stepI xk)).2)):=HR1;have HP6:=Lib.hid hP6;clear hP6 hg6 HR1 hs2 hln;generalize addR B xr (stepI xk)=P at HADD HR2 HP6;obtain⟨B2,d⟩:=P;simp only at HADD HR2 HP6;by_cases hd:d=0
     ·have HR3:=Lib.hid (HR2.out.trans (if_pos hd))
      have HG3:=Lib.hid (HADD.out hd);have hd':=beqT hd;clear HR2 HADD hd;go_wp2;go_roundw
      case rel=>exact⟨k+1,B2,by omega,by go_num,HR3.out,HG3.out,HP6.out,hb6⟩
      case measure=>simp[intOf];omega
     ·have EE:=Lib.hid (HR2.out.trans (if_neg hd))
      have hd':=beqF hd;clear HR2 HADD hd;go_wp2
      go_ret3
      first
       |exact⟨.slice none 0 0,[],by rw[EE.out];rfl,View.nil _,by rw[EE.out];rfl,hb6⟩
       |exact⟨.slice none 0 0,by rw[EE.out];rfl,[],View.nil _,by rw[EE.out];rfl,hb6⟩
    ·obtain rfl:k=m.length:=by omega
     have EE:Hid (R=(B,0,0)):=Lib.hid (by rw[HR.out,ac_end];rfl);clear HR
     go_wp2_with fail
     refine(view_any _ HP.out HGA.out.rises (by have:=HGA.out.few;omega)).mono ?_;rintro e w5 ⟨v5,l5,rfl,hO5,ha5,hb5⟩;have HO5:=Lib.hid hO5.view;have HA5:=Lib.hid ha5;have hb6:=below_trans hbw hb5;clear hO5 ha5;go_wp2
     go_ret3
     first
      |exact⟨v5,l5,by rw[EE.out];rfl,HO5.out,by rw[EE.out];exact HA5.out,hb6⟩
      |exact⟨v5,by rw[EE.out];rfl,l5,HO5.out,by rw[EE.out];exact HA5.out,hb6⟩
  ·have EE:=Lib.hid (HE1.out.trans (if_pos hy))
   have hy':=beqF hy;clear HE1 HFZ hy;go_wp2
   go_ret3
   first
    |exact⟨.slice none 0 0,[],by rw[EE.out];rfl,View.nil _,by rw[EE.out];rfl,hb12⟩
    |exact⟨.slice none 0 0,by rw[EE.out];rfl,[],View.nil _,by rw[EE.out];rfl,hb12⟩
 ·have EE:=Lib.hid (HE.out.trans (if_pos hc))
  have hc':=beqF hc;clear HE HCZ hc;go_wp2
  go_ret3
  first
   |exact⟨.slice none 0 0,[],by rw[EE.out];rfl,View.nil _,by rw[EE.out];rfl,hb1⟩
   |exact⟨.slice none 0 0,by rw[EE.out];rfl,[],View.nil _,by rw[EE.out];rfl,hb1⟩
end Go.Proofs.YtjhbeecmdgglgaaGreatDoor
