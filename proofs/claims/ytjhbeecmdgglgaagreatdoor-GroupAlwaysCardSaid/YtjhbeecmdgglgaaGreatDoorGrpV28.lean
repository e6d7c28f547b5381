/-Groups: the keys of the third map are those of both. Groups: what the tail of Step needs: the keys of both maps, lookups in a map to groups, the two l -/
import Derived.Test.YtjhbeecmdgglgaaGreatDoorGrpV27
import Derived.Test.YtjhbeecmdgglgaaGreatDoorGrpV12
import Derived.Test.YtjhbeecmdgglgaaGreatDoorGrpV24
import Derived.Test.YtjhbeecmdgglgaaGreatDoorGrpV9
import Derived.Test.YtjhbeecmdgglgaaGreatDoorGrpV3
import Derived.Test.YtjhbeecmdgglgaaGreatDoorGrpV5
import Derived.Test.YtjhbeecmdgglgaaGreatDoorGrpV17
set_option linter.unusedSimpArgs false
set_option linter.unusedVariables false
namespace Go.Proofs.YtjhbeecmdgglgaaGreatDoor
open Go.RowKit Go.Maps
theorem has_mem_row {A:AV}(hA: ∀p∈A,GoodR p.1){r:List Val}(hr:GoodR r):hasA A r=true↔r∈A.map (·.1):=by
 induction A with
 |nil=>simp[hasA]
 |cons x t ih=>
  obtain⟨y,m⟩:=x;have hy:GoodR y:=hA (y,m) (by simp);have ih:=ih fun p hp=>hA p (by simp[hp]);show(decide (rowsF y r=0)||hasA t r)=true↔_;rw[Bool.or_eq_true,decide_eq_true_eq,ih,rowsF_zero hy hr,List.map_cons,List.mem_cons];exact⟨fun h=>h.imp Eq.symm id,fun h=>h.imp Eq.symm id⟩
theorem has_rows {A:AV}{G:List Gp}(h:A.map (·.1)=G.map (·.r))(hg: ∀g∈G,GoodR g.r){r:List Val}(hr:GoodR r):hasA A r=true↔ ∃g∈G,g.r=r:=by
 have hA: ∀p∈A,GoodR p.1:=fun p hp=>by
  have:p.1∈A.map (·.1):=List.mem_map.2 ⟨p,hp,rfl⟩;rw[h]at this;obtain⟨g,hg',e⟩:=List.mem_map.1 this;rw[←e];exact hg g hg'
 rw[has_mem_row hA hr,h,List.mem_map]
theorem keys_union {A B C:AV}{G H:List Gp}(hA:A.map (·.1)=G.map (·.r))(hB:B.map (·.1)=H.map (·.r))(gG: ∀g∈G,GoodR g.r)(gH: ∀g∈H,GoodR g.r)(hC:Rises C)(h: ∀r,GoodR r→hasA C r=(hasA A r||hasA B r)):Union G H (C.map (·.1)):=by
 refine⟨?_,fun r=> ?_⟩
 ·rw[List.pairwise_map]
  exact hC.rise
 ·constructor
  ·intro hr
   obtain⟨p,hp,rfl⟩:=List.mem_map.1 hr;have hg:=hC.good p hp;have h1:=h p.1 hg;rw[(has_mem_row hC.good hg).2 hr]at h1;rcases(Bool.or_eq_true _ _).mp h1.symm with h2|h2
   ·exact .inl ((has_rows hA gG hg).1 h2)
   ·exact .inr ((has_rows hB gH hg).1 h2)
  ·rintro(⟨g,hg,rfl⟩|⟨g,hg,rfl⟩)
   ·refine(has_mem_row hC.good (gG g hg)).1 ?_
    rw[h _ (gG g hg),(has_rows hA gG (gG g hg)).2 ⟨g,hg,rfl⟩];rfl
   ·refine(has_mem_row hC.good (gH g hg)).1 ?_
    rw[h _ (gH g hg),(has_rows hB gH (gH g hg)).2 ⟨g,hg,rfl⟩,Bool.or_true]
theorem flm_congr {α β:Type}{f g:α→Option β}: ∀ {l:List α},(∀x∈l,f x=g x)→l.filterMap f=l.filterMap g
 |[],_=>rfl
 |x::l,h=>by rw[List.filterMap_cons,List.filterMap_cons,h x (by simp),flm_congr fun y hy=>h y (by simp[hy])]
theorem union_find: ∀ {U:List (List Val)} {H:List Gp},U.Pairwise (fun a b=>rowsF a b<0)→(∀r∈U,GoodR r)→RowsG H→(∀g∈H,g.r∈U)→U.filterMap (findG H)=H
 |[],[],_,_,_,_=>rfl
 |[],g::H,_,_,_,hm=>by have:=hm g (by simp);cases this
 |u::U,[],hU,gU,hH,hm=>by
  rw[List.filterMap_cons];show U.filterMap (findG [])=[];exact union_find (List.pairwise_cons.1 hU).2 (fun r hr=>gU r (by simp[hr])) ⟨fun g hg=>by simp at hg,.nil⟩ (fun g hg=>by simp at hg)
 |u::U,g::H,hU,gU,hH,hm=>by
  obtain⟨h1,h2⟩:=List.pairwise_cons.1 hU;obtain⟨h3,h4⟩:=List.pairwise_cons.1 hH.rise;have gu:=gU u (by simp);have gg:=hH.good g (by simp);have gU': ∀r∈U,GoodR r:=fun r hr=>gU r (by simp[hr]);rcases List.mem_cons.1 (hm g (by simp))with e|hin
  ·have e0:findG (g::H) u=some g:=by
    unfold findG;rw[List.find?_cons_of_pos (by rw[e,rowsF_self gu];rfl)]
   rw[List.filterMap_cons,e0];show g::U.filterMap (findG (g::H))=g::H
   have e1:U.filterMap (findG (g::H))=U.filterMap (findG H):=flm_congr fun r hr=>by
    unfold findG;have:=h1 r hr;rw[List.find?_cons_of_neg (by rw[e];intro h;have h:=eq_of_beq h;omega)]
   rw[e1,union_find h2 gU' hH.tail fun x hx=>by
    rcases List.mem_cons.1 (hm x (by simp[hx]))with e2|h5
    ·have:=h3 x hx
     rw[e,e2,rowsF_self gu]at this;omega
    ·exact h5]
  ·have hug:=h1 _ hin
   have e0:findG (g::H) u=none:=by
    unfold findG;rw[List.find?_eq_none];intro x hx h;have h:=eq_of_beq h;have e6:=(rowsF_zero (hH.good x hx) gu).1 h;rcases List.mem_cons.1 hx with rfl|hx
    ·rw[e6,rowsF_self gu]at hug;omega
    ·have h7:=h3 x hx
     rw[e6]at h7;have:=rowsF_trans gu gg gu hug h7;rw[rowsF_self gu]at this;omega
   rw[List.filterMap_cons,e0];show U.filterMap (findG (g::H))=g::H
   exact union_find h2 gU' hH fun x hx=>by
    rcases List.mem_cons.1 (hm x hx)with e2|h5
    ·rcases List.mem_cons.1 hx with rfl|hx
     ·exact hin
     ·have h7:=h3 x hx
      rw[e2]at h7;have:=rowsF_trans gu gg gu hug h7;rw[rowsF_self gu]at this;omega
    ·exact h5
end Go.Proofs.YtjhbeecmdgglgaaGreatDoor
namespace Go.Proofs.YtjhbeecmdgglgaaGreatDoor
open Go.RowKit Go.Maps
structure KS (A B:AV) (i:Nat) (C:AV):Prop where
 rises:Rises C
 has: ∀r,GoodR r→hasA C r=((decide (1≤i)&&hasA A r)||(decide (2≤i)&&hasA B r))
 look: ∀r,GoodR r→0≤lookA C r∧lookA C r≤((5000*i:Nat):Int)
theorem KS.start (A B:AV):KS A B 0 []:=⟨Rises.nil,fun r _=>by simp[hasA],fun r _=>by simp[lookA]⟩
theorem KS.one {A B C C2:AV}{left:Lit→Bool}{m:Int}(h:KS A B 0 C)(k:KP A C C2 left m)(hl: ∀kl,left kl=false)(hm:m≤5000):KS A B 1 C2:=
 ⟨k.rises,fun r hr=>by rw[k.done hl r hr,h.has r hr];simp,fun r hr=>by have:=k.look r hr;omega⟩
theorem KS.two {A B C C2:AV}{left:Lit→Bool}{m:Int}(h:KS A B 1 C)(k:KP B C C2 left m)(hl: ∀kl,left kl=false)(hm:m≤10000):KS A B 2 C2:=
 ⟨k.rises,fun r hr=>by rw[k.done hl r hr,h.has r hr];simp,fun r hr=>by have:=k.look r hr;omega⟩
theorem KS.union {X Y:List (Nat×Gm)}{C:AV}(h:KS (ax X) (ax Y) 2 C)(gX: ∀g∈gx X,GoodR g.r)(gY: ∀g∈gx Y,GoodR g.r):Union (gx X) (gx Y) (C.map (·.1)):=
 keys_union (ax_rows X) (ax_rows Y) gX gY h.rises fun r hr=>by rw[h.has r hr];simp
def ptrV (o:Option Nat):Value:= .pointer (o.map fun b=>⟨b,0,none⟩)
theorem ptrV_of {v:Value}{y:DataW Unit×List MemPlace}(h:ptrE v=some y): ∃c,v=ptrV c:=by
 unfold ptrE at h;split at h
 ·exact⟨none,rfl⟩
 ·exact⟨some _,rfl⟩
 ·cases h
theorem bump_int {w w':World}{M n:Nat}{B:AV}{r:List Val}{ky:ByteArray}{v:Int}(hown:w.ownsMap Tryz.prog 9 (plainElem (H:=Unit) Tryz.prog 3) M n (mkD B))(hb:Below w.heap.size w w')(hky:keyOf Tryz.prog 9 (.string ky)=some (kOf r))(hB:Rises B)(hr:GoodR r)(hn:n<maxLen)(hv:(Lit.int .i64 v).wf=true):
 (Instr.lookup 104 (.map (some M)) (.string ky) false).run Tryz.prog w'= .ok (.int .i64 (lookA B r)) w'∧
 ∃w6,(Instr.mapUpdate 104 (.map (some M)) (.string ky) (.int .i64 v)).run Tryz.prog w'= .ok () w6∧w6.ownsMap Tryz.prog 9 (plainElem (H:=Unit) Tryz.prog 3) M (n+1) (mkD (putA B r v))∧w'.grownBy w6 (some M):=by
 have h2:=map_below hown hb;obtain⟨c,hrun,hat,-⟩:=h2.lookup_int (t:=104) lawS Tryz.underlying104 Tryz.underlying3 (zeroS _) hky;obtain rfl:=lit_inj (hat.symm.trans (mkD_at hB.good hr));refine⟨hrun,?_⟩;obtain⟨w6,h6,o6,g6⟩:=h2.update (t:=104) lawS Tryz.underlying104 hn hky (plainElem_int (H:=Unit) Tryz.underlying3 hv);rw[mkD_put hB hr]at o6;exact⟨w6,h6,o6,g6⟩
def findX (X:List (Nat×Gm)) (r:List Val):Option (Nat×Gm):=X.find? fun p=>rowsF p.2.r r==0
theorem findX_mem {X:List (Nat×Gm)}{r:List Val}{q:Nat×Gm}(h:findX X r=some q):q∈X:=List.mem_of_find?_eq_some h
theorem findX_gx (X:List (Nat×Gm))(r:List Val):findG (gx X) r=(findX X r).map fun q=>q.2.gp:=by
 unfold findG findX gx;rw[List.find?_map];rfl
theorem rises_split {A B:AV}{p:List Val×Int}(h:Rises (A++p::B)): ∀q∈A,rowsF q.1 p.1<0:=fun q hq=>
 (List.pairwise_append.1 h.rise).2.2 q hq p (List.mem_cons_self ..)
theorem look_find {w:World}{base M N:Nat}{X:List (Nat×Gm)}{key:List Val}(h:GMap w base M N X)(hri:Rises (ax X))(hk:GoodR key):
 (Instr.lookup 117 (.map (some M)) (.string (str (keyRow key))) false).run Tryz.prog w= .ok (ptrV ((findX X key).map (·.1))) w:=by
 have hgood: ∀q∈X,GoodR q.2.r:=fun q hq=>hri.good (q.2.r,(q.1:Int)+1) (List.mem_map.2 ⟨q,hq,rfl⟩);cases hf:findX X key with
 |none=>
  refine look_not h hri hk fun p hp e=> ?_;obtain⟨q,hq,rfl⟩:=List.mem_map.1 hp;have:=List.find?_eq_none.1 hf q hq;exact this (by simpa using e)
 |some q=>
  obtain⟨b,x⟩:=q;obtain⟨e,A,B,hX,-⟩:=List.find?_eq_some_iff_append.1 hf;have e:rowsF x.r key=0:=by simpa using e
  have e:x.r=key:=(rowsF_zero (hgood _ (findX_mem hf)) hk).1 e;rw[hX,ax_mid]at hri;have hs:=rises_split hri;have hs: ∀q∈ax A,rowsF q.1 key<0:=fun q hq=>by rw[←e];exact hs q hq
  rw[←ax_mid,←hX]at hri;exact look_has h hri hX e hk hs
theorem grpI:EInfo Tryz.prog 126 3 56:=by
 have h:(Tryz.prog.info? 126).map (fun i=>(i.zero,i.size,i.bytes))=some (some (.agg #[.slice none 0 0,.int .i64 0,.slice none 0 0]),3,56):=by kernel_rfl
 obtain⟨i,hi,h1,h2,h3⟩:=info_parts h;exact⟨i,_,hi,h1,h2,h3,rfl,by omega⟩
theorem one_gm (W:World)(x:Gm):Sl (W.alloc (.cells #[x.v,.int .i64 x.n,x.vb] 126)) (.slice (some ⟨W.heap.size,0,none⟩) 1 1) 1 x.cells:=Sl.block (Blk.new W 126 #[x.v,.int .i64 x.n,x.vb]) 1 1 (Nat.le_refl _) (by decide)
structure TwoO (w:World) (base:Nat) (gv:Value) (GL:List Gm) (ov:Value) (m:List Chn):Prop where
 grp:w.ownsRow base 126 3 gv GL.length (gmCells GL)
 out:OwnC w base ov m
 apart: ∀k,gv.ownBlock=some k→ov.ownBlock≠some k∧ ∀c∈m,c.v.ownBlock≠some k
theorem TwoO.nil (w:World)(base:Nat):TwoO w base (.slice none 0 0) [] (.slice none 0 0) []:=⟨⟨rfl,.inl ⟨rfl,rfl⟩⟩,OwnC.nil w base,fun k hk=>by cases hk⟩
theorem TwoO.below {w w':World}{base:Nat}{gv ov:Value}{GL:List Gm}{m:List Chn}(h:TwoO w base gv GL ov m)(hb:Below w.heap.size w w'):TwoO w' base gv GL ov m:=⟨own_below h.grp hb,h.out.below hb,h.apart⟩
theorem OwnC.turned {F:Nat→Prop}{w w':World}{base:Nat}{v:Value}{l:List Chn}(h:OwnC w base v l)(ht:Turned F w w')(hv: ∀k,v.ownBlock=some k→ ¬F k)(hr: ∀c∈l,∀k,c.v.ownBlock=some k→ ¬F k):OwnC w' base v l:=
 ⟨own_turned h.own ht hv,fun c hc=>sl_turned (h.rows c hc) ht (hr c hc),fun c hc k hk=>⟨(h.far c hc k hk).1,Nat.lt_of_lt_of_le (h.far c hc k hk).2.1 ht.size,(h.far c hc k hk).2.2⟩⟩
theorem TwoO.group {w w':World}{base:Nat}{gv gv' ov:Value}{GL:List Gm}{m:List Chn}{x:Gm}(h:TwoO w base gv GL ov m)(hown:w'.ownsRow base 126 3 gv' (GL.length+1) (gmCells GL++x.cells))(hg:w.grownBy w' gv.ownBlock)(hat:gv'.ownBlock=gv.ownBlock∨gv'.ownBlock=some w.heap.size):TwoO w' base gv' (GL++[x]) ov m:=by
 refine⟨?_,h.out.turned (turned_grown hg) (fun k hk e=>(h.apart k e).1 hk) (fun c hc k hk e=>(h.apart k e).2 c hc hk),fun k hk=> ?_⟩
 ·rw[gmCells_app,List.length_append]
  simpa[gmCells]using hown
 ·rcases hat with e|e
  ·exact h.apart k (e▸hk)
  ·rw[e]at hk
   injection hk with hk;subst hk;exact⟨fun e=>by have:=own_lt h.out.own _ e;omega,fun c hc e=>by have:=(h.out.far c hc _ e).2.1;omega⟩
theorem OwnC.app {w w':World}{base:Nat}{v v':Value}{l cs:List Chn}(h:OwnC w base v l)(hown:w'.ownsRow base 48 2 v' (l.length+cs.length) (chnCells l++chnCells cs))(hg:w.grownBy w' v.ownBlock)(hat:v'.ownBlock=v.ownBlock∨v'.ownBlock=some w.heap.size)
 (hc: ∀c∈cs,Sl w c.v c.r.length (rowCells c.r)∧ ∀k,c.v.ownBlock=some k→base≤k∧k<w.heap.size∧v.ownBlock≠some k):OwnC w' base v' (l++cs):=by
 have hfar: ∀d∈l++cs,Sl w d.v d.r.length (rowCells d.r)∧ ∀k,d.v.ownBlock=some k→base≤k∧k<w.heap.size∧v.ownBlock≠some k:=by
  intro d hd;rcases List.mem_append.1 hd with hd|hd
  ·exact⟨h.rows d hd,h.far d hd⟩
  ·exact hc d hd
 refine⟨?_,fun d hd=>sl_grown (hfar d hd).1 hg (fun k hk=>((hfar d hd).2 k hk).2.2),fun d hd k hk=> ?_⟩
 ·rw[chnCells_app,List.length_append]
  exact hown
 ·obtain⟨h0,h1,h2⟩:=(hfar d hd).2 k hk
  refine⟨h0,Nat.lt_of_lt_of_le h1 hg.size,fun e=> ?_⟩;rcases hat with e'|e'
  ·exact h2 (e'▸e)
  ·rw[e']at e
   injection e with e;omega
theorem TwoO.tell {w w':World}{base:Nat}{gv ov ov':Value}{GL:List Gm}{m cs:List Chn}(h:TwoO w base gv GL ov m)(hown:w'.ownsRow base 48 2 ov' (m.length+cs.length) (chnCells m++chnCells cs))(hg:w.grownBy w' ov.ownBlock)(hat:ov'.ownBlock=ov.ownBlock∨ov'.ownBlock=some w.heap.size)
 (hc: ∀c∈cs,Sl w c.v c.r.length (rowCells c.r)∧ ∀k,c.v.ownBlock=some k→base≤k∧k<w.heap.size∧ov.ownBlock≠some k∧gv.ownBlock≠some k):TwoO w' base gv GL ov' (m++cs):=by
 refine⟨own_turned h.grp (turned_grown hg) fun k hk e=>(h.apart k hk).1 e,h.out.app hown hg hat fun c hcs=>⟨(hc c hcs).1,fun k hk=>let z:=(hc c hcs).2 k hk;⟨z.1,z.2.1,z.2.2.1⟩⟩,fun k hk=>⟨fun e=> ?_,fun c hcm e=> ?_⟩⟩
 ·rcases hat with e'|e'
  ·exact(h.apart k hk).1 (e'▸e)
  ·rw[e']at e
   injection e with e;have:=own_lt h.grp k hk;omega
 ·rcases List.mem_append.1 hcm with hcm|hcm
  ·exact(h.apart k hk).2 c hcm e
  ·exact((hc c hcm).2 k e).2.2.2 hk
theorem told_keys {p:Pl}{G H:List Gp}{U:List (List Val)}(hG:RowsG G)(hH:RowsG H)(h:Union G H U):changedG p G H=U.flatMap fun r=>tellR p (findG G r) (findG H r):=changed_union p hG hH h
theorem find_step {C:AV}{i:Nat}{pc:List Val×Int}{f:List Val→Option Gp}{o:Option Gp}(hx:C[i]?=some pc)(hf:f pc.1=o):((C.take (i+1)).map (·.1)).filterMap f=((C.take i).map (·.1)).filterMap f++o.toList:=by
 rw[List.take_add_one,hx,List.map_append,List.filterMap_append]
 congr 1
 show[pc.1].filterMap f=_;rw[List.filterMap_cons,hf];cases o<;>rfl
theorem tell_step {C:AV}{i:Nat}{pc:List Val×Int}{f:List Val→List (Int×List Val)}{o:List (Int×List Val)}(hx:C[i]?=some pc)(hf:f pc.1=o):((C.take (i+1)).map (·.1)).flatMap f=((C.take i).map (·.1)).flatMap f++o:=by
 rw[List.take_add_one,hx,List.map_append,List.flatMap_append]
 congr 1
 show[pc.1].flatMap f=_;rw[List.flatMap_cons,hf];simp
theorem sl_pair {w:World}{g:Nat}{a b:Chn}(hb:w.heap[g]?=some (.cells #[.int .i64 a.k,a.v,.int .i64 b.k,b.v] 48 (0,0))):Sl w (.slice (some ⟨g,0,none⟩) 2 2) 2 (chnCells [a,b]):=Sl.block hb 2 2 (Nat.le_refl _) (by decide)
theorem chns_one {w:World}{l:List Chn}(h: ∀c∈l,∃n cs,Sl w c.v n cs): ∀u∈chnCells l,u.oneCell'=true:=by
 intro u hu;obtain⟨c,hc,hu⟩:=List.mem_flatMap.1 hu;obtain⟨n,cs,hs⟩:=h c hc;exact chn_one hs u hu
end Go.Proofs.YtjhbeecmdgglgaaGreatDoor
namespace Go.Proofs.YtjhbeecmdgglgaaGreatDoor
open Go.RowKit
structure Ones (l:List Cnt) (m:Nat) (L:List (Val×Int)):Prop where
 len:l.length=L.length
 each: ∀(k:Nat) (c:Cnt),l[k]?=some c→ ∃x,c.r[m]?=some x∧L[k]?=some (x,c.n)
theorem cnt_cells {w:World}{l:List Cnt}{v:Value}(h:Sl w v l.length (cntCells l)){A:Option Addr}{n c:Nat}(hv:v= .slice A n c){k:Nat}{x:Cnt}(hk:l[k]?=some x):
 ∃b off,A=some ⟨b,off,none⟩∧b<w.heap.size∧ ∀w',Below w.heap.size w w'→w'.cell? ⟨b,off+k*2,none⟩=some x.v∧w'.cell? ⟨b,off+k*2+1,none⟩=some (.int .i64 x.n):=by
 obtain⟨A',c',hv',h1,h2,-,h3⟩:=h;rw[hv]at hv';injection hv' with e1 e2 e3;subst e1;have a0:=flat_at Cnt.cells_len l k 0 (by omega);have a1:=flat_at Cnt.cells_len l k 1 (by omega);rw[hk]at a0 a1;simp only[Option.bind_some,Nat.add_zero]at a0 a1;obtain⟨b,off,hA,hc⟩:=h3 (by intro h0;rw[show l.flatMap Cnt.cells=cntCells l from rfl,h0]at a0;simp[Cnt.cells]at a0);have c0:=hc _ _ a0;have c1:=hc _ _ a1;exact⟨b,off,hA,World.block_lt_of_cell? w _ c0,fun w' hb=>⟨cell_below hb c0,cell_below hb c1⟩⟩
theorem blk_farAll {g h:Nat}{t:TypeId}{cs:Array Value}(hne:g≠h): ∀ {l:List Value} {w:World} {i:Nat},Blk w g t cs→Blk (setAll w h i l) g t cs
 |[],_,_,k=>k
 |v::l,w,i,k=>blk_farAll hne (l:=l) (w:=w.setCell ⟨h,i,none⟩ v) (i:=i+1) (k.far (p:=⟨h,i,none⟩) hne v)
theorem foldl_at {α β:Type}{f:β→α→β}{l:List α}{k:Nat}{x:α}{s:β}(h:l[k]?=some x):(l.drop k).foldl f s=(l.drop (k+1)).foldl f (f s x):=by
 obtain⟨hk,rfl⟩:=List.getElem?_eq_some_iff.1 h;rw[List.drop_eq_getElem_cons hk];rfl
end Go.Proofs.YtjhbeecmdgglgaaGreatDoor
