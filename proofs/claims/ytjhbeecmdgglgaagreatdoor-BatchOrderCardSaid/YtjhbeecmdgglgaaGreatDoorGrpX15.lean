/-Plain law of groups: when groups are right; a change done to groups; what is told of it; right groups stay right. Plain law of groups: figures, as the -/
import Derived.Test.YtjhbeecmdgglgaaGreatDoorGrpX14
import Derived.Test.YtjhbeecmdgglgaaGreatDoorGrpX8
import Derived.Test.YtjhbeecmdgglgaaGreatDoorGrpX1
import Derived.SizedLaws
import Derived.Deep.Fields
import Derived.Test.YtjhbeecmdgglgaaGreatDoorGrpX3
import Derived.Test.YtjhbeecmdgglgaaGreatDoorGrpX4
set_option linter.unusedSimpArgs false
set_option linter.unusedVariables false
namespace Go.Proofs.YtjhbeecmdgglgaaGreatDoor
open Go.Lib (compareBytes)
theorem cmpV_row (a b:Val):rowsF [a] [b]=cmpV a b:=by
 show(if cmpV a b≠0 then cmpV a b else 0)=_;by_cases h:cmpV a b=0
 ·rw[if_neg (fun h'=>h' h),h]
 ·rw[if_pos h]
theorem cmpV_flip {a b:Val}(ha:GoodR [a])(hb:GoodR [b]):cmpV b a= -cmpV a b:=by
 rw[←cmpV_row,←cmpV_row,rowsF_flip ha hb]
theorem cmpV_trans {a b c:Val}(ha:GoodR [a])(hb:GoodR [b])(hc:GoodR [c])(h1:cmpV a b<0)(h2:cmpV b c<0):cmpV a c<0:=by
 rw[←cmpV_row]at h1 h2⊢;exact rowsF_trans ha hb hc h1 h2
theorem good_at {r:List Val}(h:GoodR r){x:Val}(hx:x∈r):GoodR [x]:=
 ⟨fun y hy=>by rw[List.mem_singleton.1 hy];exact h.good x hx,by simp⟩
structure GoodT (t:Int) (bag:List Tl):Prop where
 vals: ∀x∈bag,GoodR [x.v]∧(x.v.k=0∨x.v.k=t)∧1≤x.n
 rise:bag.Pairwise fun a b=>cmpV a.v b.v<0
def sumT (bag:List Tl):Int:=(bag.map (·.n)).sum
theorem sumT_cons (x:Tl)(l:List Tl):sumT (x::l)=x.n+sumT l:=by simp[sumT]
def BagOk (p:Pl) (a:Int×Int) (n:Int) (bag:List Tl):Prop:=(a.1=1∧bag=[])∨(a.1≠1∧GoodT ((allT p).getD a.2.toNat 0) bag∧sumT bag=n)
structure FineG (g:Gp):Prop where
 row:Fine g.r
 num: -9223372036854775808≤g.n∧g.n≤9223372036854775807
 bags: ∀b∈g.bags,∀x∈b,Fine [x.v]∧(-9223372036854775808≤x.n∧x.n≤9223372036854775807)
structure GoodG1 (p:Pl) (g:Gp):Prop where
 row:GoodR g.r
 len:g.r.length=(ownT p).length
 fit:((ownT p).zip g.r).all fitOne=true
 num:1≤g.n∧g.n≤1073741824
 bl:g.bags.length=p.aggs.length
 bags: ∀q∈p.aggs.zip g.bags,BagOk p q.1 g.n q.2
structure GoodGs (p:Pl) (G:List Gp):Prop where
 few:G.length≤4096
 each: ∀g∈G,GoodG1 p g
 rise:G.Pairwise fun a b=>rowsF a.r b.r<0
def cellsG (p:Pl) (r:List Val):List Val:=p.group.map fun c=>r.getD c.toNat nullG
def tallyG:List Tl→Val→Int→List Tl×Bool
 |[],v,n=>([⟨v,n⟩],decide (0<n))
 |x::l,v,n=>if cmpV x.v v<0 then(x::(tallyG l v n).1,(tallyG l v n).2)else if cmpV x.v v=0 then(if x.n+n=0 then l else⟨x.v,x.n+n⟩::l,true)else(⟨v,n⟩::x::l,decide (0<n))
def bagsG (r:List Val) (n:Int):List (Int×Int)→List (List Tl)→List (List Tl)×Bool
 |a::al,b::bs=>if a.1=1 then(b::(bagsG r n al bs).1,(bagsG r n al bs).2)
  else if(tallyG b (r.getD a.2.toNat nullG) n).2=true then((tallyG b (r.getD a.2.toNat nullG) n).1::(bagsG r n al bs).1,(bagsG r n al bs).2)else([],false)
 |_,_=>([],true)
def placeG (G:List Gp) (key:List Val):Nat:=(G.takeWhile fun g=>decide (rowsF g.r key<0)).length
def hasG (G:List Gp) (key:List Val):Bool:=match G[placeG G key]? with
 |some g=>rowsF g.r key==0
 |none=>false
def gp0 (p:Pl) (key:List Val):Gp:=⟨key,0,p.aggs.map fun _=>[]⟩
def turnG (p:Pl) (G:List Gp) (c:Int×List Val):List Gp×Int:=
 if hasG G (cellsG p c.2)=true then
  if 0<stepI c.1∧(G.getD (placeG G (cellsG p c.2)) (gp0 p [])).n=1073741824 then([],2)
  else if(bagsG c.2 (stepI c.1) p.aggs (G.getD (placeG G (cellsG p c.2)) (gp0 p [])).bags).2=true then
   (G.take (placeG G (cellsG p c.2))++((if(G.getD (placeG G (cellsG p c.2)) (gp0 p [])).n+stepI c.1=0 then[]else
    [⟨(G.getD (placeG G (cellsG p c.2)) (gp0 p [])).r,(G.getD (placeG G (cellsG p c.2)) (gp0 p [])).n+stepI c.1,(bagsG c.2 (stepI c.1) p.aggs (G.getD (placeG G (cellsG p c.2)) (gp0 p [])).bags).1⟩])++G.drop (placeG G (cellsG p c.2)+1)),0)
  else([],9)
 else if stepI c.1<0 then([],9)else if G.length=4096 then([],2)
 else if(bagsG c.2 (stepI c.1) p.aggs (gp0 p []).bags).2=true then
  (G.take (placeG G (cellsG p c.2))++⟨cellsG p c.2,stepI c.1,(bagsG c.2 (stepI c.1) p.aggs (gp0 p []).bags).1⟩::G.drop (placeG G (cellsG p c.2)),0)
 else([],9)
def tellG (p:Pl) (a b:Gp):List (Int×List Val):=if rowsF (rowG p a) (rowG p b)=0 then[]else[(3,rowG p a),(4,rowG p b)]
def changedG (p:Pl):List Gp→List Gp→List (Int×List Val)
 |[],[]=>[]
 |a::al,[]=>(2,rowG p a)::changedG p al []
 |[],b::bs=>(1,rowG p b)::changedG p [] bs
 |a::al,b::bs=>if rowsF a.r b.r<0 then(2,rowG p a)::changedG p al (b::bs)else if 0<rowsF a.r b.r then(1,rowG p b)::changedG p (a::al) bs else tellG p a b++changedG p al bs
def fitE (t:List Int) (r:List Val):Int:=if r.length≠t.length then 2 else if allB fitOne (t.zip r)then 0 else 5
theorem tally_vals {t:Int}{bag:List Tl}{v:Val}{n:Int}(h:GoodT t bag)(hv:GoodR [v])(hk:v.k=0∨v.k=t)(hn:n=1∨n= -1)(h0:(tallyG bag v n).2=true):
 (∀x∈(tallyG bag v n).1,GoodR [x.v]∧(x.v.k=0∨x.v.k=t)∧1≤x.n)∧(tallyG bag v n).1.Pairwise (fun a b=>cmpV a.v b.v<0)∧sumT (tallyG bag v n).1=sumT bag+n∧
 ∀u:Val,GoodR [u]→cmpV u v<0→(∀x∈bag,cmpV u x.v<0)→ ∀x∈(tallyG bag v n).1,cmpV u x.v<0:=by
 induction bag with
 |nil=>
  unfold tallyG at h0⊢;have h1:0<n:=of_decide_eq_true h0;refine⟨fun x hx=> ?_,by simp,by simp[sumT],fun u _ hu _ x hx=> ?_⟩
  ·rw[List.mem_singleton.1 hx];exact⟨hv,hk,by show 1≤n;omega⟩
  ·rw[List.mem_singleton.1 hx];exact hu
 |cons x l ih=>
  have hx:=h.vals x (by simp);have hl:GoodT t l:=⟨fun y hy=>h.vals y (by simp[hy]),(List.pairwise_cons.1 h.rise).2⟩;have hxl:=(List.pairwise_cons.1 h.rise).1;unfold tallyG at h0⊢;by_cases h1:cmpV x.v v<0
  ·rw[if_pos h1]at h0⊢
   obtain⟨a1,a2,a3,a4⟩:=ih hl h0;refine⟨fun y hy=> ?_,List.pairwise_cons.2 ⟨fun y hy=>a4 x.v hx.1 h1 hxl y hy,a2⟩,by rw[sumT_cons,sumT_cons,a3];omega,fun u gu hu hub y hy=> ?_⟩
   ·rcases List.mem_cons.1 hy with rfl|hy
    ·exact hx
    ·exact a1 y hy
   ·rcases List.mem_cons.1 hy with rfl|hy
    ·exact hub y (by simp)
    ·exact a4 u gu hu (fun z hz=>hub z (by simp[hz])) y hy
  ·rw[if_neg h1]at h0⊢
   by_cases h2:cmpV x.v v=0
   ·rw[if_pos h2]
    show(∀y∈(if x.n+n=0 then l else⟨x.v,x.n+n⟩::l),_)∧(if x.n+n=0 then l else⟨x.v,x.n+n⟩::l).Pairwise _∧sumT (if x.n+n=0 then l else⟨x.v,x.n+n⟩::l)=_∧ ∀u:Val,_→_→_→ ∀y∈(if x.n+n=0 then l else⟨x.v,x.n+n⟩::l),_;have h3:=hx.2.2;by_cases h4:x.n+n=0
    ·rw[if_pos h4]
     exact⟨hl.vals,hl.rise,by rw[sumT_cons];omega,fun u _ _ hub y hy=>hub y (by simp[hy])⟩
    ·rw[if_neg h4]
     refine⟨fun y hy=> ?_,List.pairwise_cons.2 ⟨fun y hy=>hxl y hy,hl.rise⟩,by rw[sumT_cons,sumT_cons];show x.n+n+_=_;omega,fun u _ hu hub y hy=> ?_⟩
     ·rcases List.mem_cons.1 hy with rfl|hy
      ·exact⟨hx.1,hx.2.1,by show 1≤x.n+n;omega⟩
      ·exact hl.vals y hy
     ·rcases List.mem_cons.1 hy with rfl|hy
      ·exact hub x (by simp)
      ·exact hub y (by simp[hy])
   ·rw[if_neg h2]at h0⊢
    have h3:0<n:=of_decide_eq_true h0;have h4:cmpV v x.v<0:=by rw[cmpV_flip hx.1 hv];omega
    refine⟨fun y hy=> ?_,List.pairwise_cons.2 ⟨fun y hy=> ?_,h.rise⟩,by rw[sumT_cons];show n+_=_;omega,fun u _ hu hub y hy=> ?_⟩
    ·rcases List.mem_cons.1 hy with rfl|hy
     ·exact⟨hv,hk,by show 1≤n;omega⟩
     ·exact h.vals y hy
    ·rcases List.mem_cons.1 hy with rfl|hy
     ·exact h4
     ·exact cmpV_trans hv hx.1 (h.vals y (by simp[hy])).1 h4 (hxl y hy)
    ·rcases List.mem_cons.1 hy with rfl|hy
     ·exact hu
     ·exact hub y hy
theorem tally_good {t:Int}{bag:List Tl}{v:Val}{n:Int}(h:GoodT t bag)(hv:GoodR [v])(hk:v.k=0∨v.k=t)(hn:n=1∨n= -1)(h0:(tallyG bag v n).2=true):GoodT t (tallyG bag v n).1∧sumT (tallyG bag v n).1=sumT bag+n:=
 ⟨⟨(tally_vals h hv hk hn h0).1,(tally_vals h hv hk hn h0).2.1⟩,(tally_vals h hv hk hn h0).2.2.1⟩
theorem bags_good {p:Pl}{r:List Val}{n m:Int}(hr: ∀x∈r,GoodR [x])(hn:n=1∨n= -1): ∀ {al:List (Int×Int)} {bs:List (List Tl)},bs.length=al.length→(∀a∈al,a.1≠1→ ∃x,r[a.2.toNat]?=some x∧(x.k=0∨x.k=(allT p).getD a.2.toNat 0))→
 (∀q∈al.zip bs,BagOk p q.1 m q.2)→(bagsG r n al bs).2=true→(bagsG r n al bs).1.length=al.length∧ ∀q∈al.zip (bagsG r n al bs).1,BagOk p q.1 (m+n) q.2:=by
 intro al
 induction al with
 |nil=>intro bs _ _ _ _;cases bs<;>simp[bagsG]
 |cons a al ih=>
  intro bs hl ha hb h0;cases bs with
  |nil=>simp at hl
  |cons b bs=>
   have hq:=hb (a,b) (by simp);have ih:=ih (bs:=bs) (by simpa using hl) (fun x hx=>ha x (by simp[hx])) (fun q hq=>hb q (by rw[List.zip_cons_cons];exact List.mem_cons_of_mem _ hq));unfold bagsG at h0⊢;by_cases h1:a.1=1
   ·rw[if_pos h1]at h0⊢
    obtain⟨i1,i2⟩:=ih h0;refine⟨by simp[i1],fun q hq'=> ?_⟩;rw[List.zip_cons_cons]at hq';rcases List.mem_cons.1 hq' with rfl|hq'
    ·rcases hq with hq|hq
     ·exact .inl hq
     ·exact absurd h1 hq.1
    ·exact i2 q hq'
   ·rw[if_neg h1]at h0⊢
    by_cases h2:(tallyG b (r.getD a.2.toNat nullG) n).2=true
    ·rw[if_pos h2]at h0⊢
     obtain⟨i1,i2⟩:=ih h0;refine⟨by simp[i1],fun q hq'=> ?_⟩;rw[List.zip_cons_cons]at hq';rcases List.mem_cons.1 hq' with rfl|hq'
     ·rcases hq with hq|⟨-,hq,hs⟩
      ·exact absurd hq.1 h1
      ·obtain⟨x,hx,hk⟩:=ha a (by simp) h1
       have ex:r.getD a.2.toNat nullG=x:=by simp[List.getD,hx]
       rw[ex]at h2⊢;obtain⟨g1,g2⟩:=tally_good hq (hr x (List.mem_of_getElem? hx)) hk hn h2;exact .inr ⟨h1,g1,by show sumT _=_;rw[g2,hs]⟩
     ·exact i2 q hq'
    ·rw[if_neg h2]at h0
     cases h0
theorem placeG_cons (g:Gp)(G:List Gp)(key:List Val):placeG (g::G) key=if rowsF g.r key<0 then placeG G key+1 else 0:=by
 unfold placeG;rw[List.takeWhile_cons];by_cases h:rowsF g.r key<0
 ·rw[if_pos h,if_pos (decide_eq_true h)];rfl
 ·rw[if_neg h,if_neg (by simpa using h)];rfl
theorem placeG_le (G:List Gp)(key:List Val):placeG G key≤G.length:=by
 induction G with
 |nil=>exact Nat.le_refl _
 |cons g G ih=>
  rw[placeG_cons];split
  ·simpa using ih
  ·omega
theorem hasG_cons {g:Gp}{G:List Gp}{key:List Val}(h:rowsF g.r key<0):hasG (g::G) key=hasG G key:=by
 unfold hasG;rw[placeG_cons,if_pos h,List.getElem?_cons_succ]
theorem place_split {G:List Gp}{key:List Val}(hr:G.Pairwise fun a b=>rowsF a.r b.r<0)(hg: ∀g∈G,GoodR g.r)(hk:GoodR key):
 (∀g∈G.take (placeG G key),rowsF g.r key<0)∧(hasG G key=true→ ∃g,G[placeG G key]?=some g∧g.r=key∧ ∀x∈G.drop (placeG G key+1),0<rowsF x.r key)∧(hasG G key=false→ ∀x∈G.drop (placeG G key),0<rowsF x.r key):=by
 induction G with
 |nil=>exact⟨fun g h=>by simp at h,fun h=>by simp[hasG]at h,fun _ x hx=>by simp at hx⟩
 |cons g G ih=>
  have ih:=ih (List.pairwise_cons.1 hr).2 fun x hx=>hg x (by simp[hx]);by_cases h:rowsF g.r key<0
  ·rw[hasG_cons h,placeG_cons,if_pos h]
   refine⟨fun x hx=> ?_,fun h2=> ?_,fun h2 x hx=> ?_⟩
   ·rw[List.take_succ_cons]at hx
    rcases List.mem_cons.1 hx with rfl|hx
    ·exact h
    ·exact ih.1 x hx
   ·obtain⟨y,h3,h4,h5⟩:=ih.2.1 h2
    exact⟨y,by rw[List.getElem?_cons_succ];exact h3,h4,fun x hx=>h5 x (by simpa using hx)⟩
   ·exact ih.2.2 h2 x (by simpa using hx)
  ·have hp:placeG (g::G) key=0:=by rw[placeG_cons,if_neg h]
   have hh:hasG (g::G) key=(rowsF g.r key==0):=by unfold hasG;rw[hp];rfl
   rw[hh,hp];have hgr:=hg g (by simp);refine⟨fun x hx=>by simp at hx,fun h2=>⟨g,rfl,(rowsF_zero hgr hk).1 (by simpa using h2),fun x hx=> ?_⟩,fun h2 x hx=> ?_⟩
   ·have e:=(rowsF_zero hgr hk).1 (by simpa using h2)
    have hx:x∈G:=by simpa using hx
    have h3:=(List.pairwise_cons.1 hr).1 x hx;rw[e]at h3;rw[rowsF_flip hk (hg x (by simp[hx]))];omega
   ·have h2:rowsF g.r key≠0:=by simpa using h2
    rw[List.drop_zero]at hx;rcases List.mem_cons.1 hx with rfl|hx
    ·omega
    ·have h3:=(List.pairwise_cons.1 hr).1 x hx
     have h4:rowsF key g.r<0:=by rw[rowsF_flip hgr hk];omega
     have h5:=rowsF_trans hk hgr (hg x (by simp[hx])) h4 h3;rw[rowsF_flip hk (hg x (by simp[hx]))];omega
theorem pair_put {L1 L2:List Gp}{g:Gp}(h1:L1.Pairwise fun a b=>rowsF a.r b.r<0)(h2:L2.Pairwise fun a b=>rowsF a.r b.r<0)(hg: ∀x∈L1++g::L2,GoodR x.r)(ha: ∀x∈L1,rowsF x.r g.r<0)(hb: ∀x∈L2,0<rowsF x.r g.r):
 (L1++g::L2).Pairwise fun a b=>rowsF a.r b.r<0:=by
 have gg:=hg g (by simp)
 have hb': ∀x∈L2,rowsF g.r x.r<0:=fun x hx=>by
  have:=hb x hx;rw[rowsF_flip (hg x (by simp[hx])) gg];omega
 refine List.pairwise_append.2 ⟨h1,List.pairwise_cons.2 ⟨hb',h2⟩,fun x hx y hy=> ?_⟩;rcases List.mem_cons.1 hy with rfl|hy
 ·exact ha x hx
 ·exact rowsF_trans (hg x (by simp[hx])) gg (hg y (by simp[hy])) (ha x hx) (hb' y hy)
structure TypedG (p:Pl) (r:List Val):Prop where
 good:GoodR r
 len:r.length=(allT p).length
 fit:allB fitOne ((allT p).zip r)=true
theorem typed_at {p:Pl}{r:List Val}(h:TypedG p r){c:Int}(h0:0≤c)(h1:c<(allT p).length): ∃x,r[c.toNat]?=some x∧(x.k=0∨x.k=(allT p).getD c.toNat 0):=by
 have hl:c.toNat<r.length:=by have:=h.len;omega
 have hl2:c.toNat<(allT p).length:=by omega
 refine⟨r[c.toNat],List.getElem?_eq_getElem hl,?_⟩;have h2:=List.all_eq_true.1 h.fit ((allT p)[c.toNat],r[c.toNat]) (List.mem_iff_getElem?.2 ⟨c.toNat,by rw[List.getElem?_zip_eq_some];exact⟨List.getElem?_eq_getElem hl2,List.getElem?_eq_getElem hl⟩⟩);unfold fitOne at h2;rw[Bool.or_eq_true,beq_iff_eq,beq_iff_eq]at h2;simpa[List.getD,hl2]using h2
theorem group_few {p:Pl}(hp:checkP p=0)(hg:p.grouped=true):p.group.length+p.aggs.length≤8∧1≤p.aggs.length∧p.aggs.length≤4:=by
 have h:=(check_ok hp).2.2.1;unfold countsB at h;rw[Bool.and_eq_true,if_pos hg,Bool.and_eq_true]at h;have h1:=btw_of h.2.1;have h2:=of_decide_eq_true h.2.2;omega
theorem cells_good {p:Pl}{r:List Val}(hp:checkP p=0)(hg:p.grouped=true)(h:TypedG p r):GoodR (cellsG p r)∧(cellsG p r).length=(ownT p).length∧((ownT p).zip (cellsG p r)).all fitOne=true:=by
 have hgr:=form_group (check_ok hp).2.2.2.2
 have hx: ∀c∈p.group,∃x,r[c.toNat]?=some x∧r.getD c.toNat nullG=x∧(x.k=0∨x.k=(allT p).getD c.toNat 0):=fun c hc=>by
  obtain⟨x,h1,h2⟩:=typed_at h (hgr c hc).1 (hgr c hc).2;exact⟨x,h1,by simp[List.getD,h1],h2⟩
 refine⟨⟨fun y hy=> ?_,?_⟩,by simp[cellsG,ownT],?_⟩
 ·obtain⟨c,hc,rfl⟩:=List.mem_map.1 hy
  obtain⟨x,h1,h2,-⟩:=hx c hc;rw[h2];exact h.good.good x (List.mem_of_getElem? h1)
 ·have:=group_few hp hg
  simp only[cellsG,List.length_map];omega
 ·rw[List.all_eq_true]
  intro q hq;unfold cellsG ownT at hq;rw[List.zip_map']at hq;obtain⟨c,hc,rfl⟩:=List.mem_map.1 hq;obtain⟨x,-,h2,h3⟩:=hx c hc;unfold fitOne;rw[h2,Bool.or_eq_true,beq_iff_eq,beq_iff_eq];exact h3
theorem aggs_at {p:Pl}{r:List Val}(hp:checkP p=0)(h:TypedG p r): ∀a∈p.aggs,a.1≠1→ ∃x,r[a.2.toNat]?=some x∧(x.k=0∨x.k=(allT p).getD a.2.toNat 0):=fun a ha h1=>
 have:=form_aggs (check_ok hp).2.2.2.2 a ha h1
 typed_at h this.1 this.2
theorem bags_none (p:Pl):(gp0 p []).bags.length=p.aggs.length∧ ∀q∈p.aggs.zip (gp0 p []).bags,BagOk p q.1 0 q.2:=by
 refine⟨by simp[gp0],fun q hq=> ?_⟩
 have:q.2=[]:=by
  have h1:=(List.of_mem_zip hq).2;unfold gp0 at h1;obtain⟨a,-,e⟩:=List.mem_map.1 h1;exact e.symm
 unfold BagOk;rw[this];by_cases h:q.1.1=1
 ·exact .inl ⟨h,rfl⟩
 ·exact .inr ⟨h,⟨nofun,.nil⟩,by simp[sumT]⟩
theorem turn_good {p:Pl}{G:List Gp}{c:Int×List Val}(hp:checkP p=0)(hg:p.grouped=true)(hG:GoodGs p G)(hc:TypedG p c.2)(h0:(turnG p G c).2=0):GoodGs p (turnG p G c).1:=by
 obtain⟨k1,k2,k3⟩:=cells_good hp hg hc;have hn:=stepI_two c.1;have hrow: ∀x∈c.2,GoodR [x]:=fun x hx=>good_at hc.good hx;obtain⟨s1,s2,s3⟩:=place_split hG.rise (fun g hg=>(hG.each g hg).row) k1;have hle:=placeG_le G (cellsG p c.2);unfold turnG at h0⊢;generalize cellsG p c.2=key at h0⊢k1 k2 k3 s1 s2 s3 hle;generalize placeG G key=i at h0⊢s1 s2 s3 hle
 have hfull: ∀L2:List Gp,(∀x∈L2,x∈G)→L2.Pairwise (fun a b=>rowsF a.r b.r<0)→(∀x∈L2,0<rowsF x.r key)→ ∀g':Gp,GoodG1 p g'→g'.r=key→(G.take i++g'::L2).length≤4096→GoodGs p (G.take i++g'::L2):=by
  intro L2 hm hr2 hb g' hg' er hlen
  have hall: ∀x∈G.take i++g'::L2,GoodG1 p x:=fun x hx=>by
   rcases List.mem_append.1 hx with hx|hx
   ·exact hG.each x (List.mem_of_mem_take hx)
   ·rcases List.mem_cons.1 hx with rfl|hx
    ·exact hg'
    ·exact hG.each x (hm x hx)
  exact⟨hlen,hall,pair_put (hG.rise.sublist (List.take_sublist i G)) hr2 (fun x hx=>(hall x hx).row) (by rw[er];exact s1) (by rw[er];exact hb)⟩
 cases hh:hasG G key with
 |true=>
  obtain⟨g,e1,e2,e3⟩:=s2 hh;have hi:=(List.getElem?_eq_some_iff.1 e1).1;have eg:G.getD i (gp0 p [])=g:=by simp[List.getD,e1]
  have hgm:g∈G:=List.mem_of_getElem? e1;have gg:=hG.each g hgm;rw[hh]at h0 s2;rw[if_pos rfl,eg]at h0⊢;by_cases h1:0<stepI c.1∧g.n=1073741824
  ·rw[if_pos h1]at h0;cases h0
  ·rw[if_neg h1]at h0⊢
   by_cases h2:(bagsG c.2 (stepI c.1) p.aggs g.bags).2=true
   ·rw[if_pos h2]
    obtain⟨b1,b2⟩:=bags_good hrow hn gg.bl (aggs_at hp hc) gg.bags h2;have hnum:=gg.num;by_cases h3:g.n+stepI c.1=0
    ·rw[if_pos h3]
     show GoodGs p (G.take i++G.drop (i+1))
     have hsub:(G.take i++G.drop (i+1)).Sublist G:=by
      conv=>rhs;rw[←List.take_append_drop i G]
      exact List.Sublist.append (List.Sublist.refl _) (by rw[←List.drop_drop];exact List.drop_sublist 1 _)
     exact⟨Nat.le_trans hsub.length_le hG.few,fun x hx=>hG.each x (hsub.mem hx),hG.rise.sublist hsub⟩
    ·rw[if_neg h3]
     show GoodGs p (G.take i++_::G.drop (i+1));refine hfull _ (fun x hx=>List.mem_of_mem_drop hx) (hG.rise.sublist (List.drop_sublist _ _)) e3 ⟨g.r,g.n+stepI c.1,(bagsG c.2 (stepI c.1) p.aggs g.bags).1⟩ ⟨gg.row,gg.len,gg.fit,?_,b1,b2⟩ e2 ?_
     ·show 1≤g.n+stepI c.1∧g.n+stepI c.1≤1073741824
      rcases hn with hn|hn<;>rw[hn]at h1 h3⊢ <;>omega
     ·have:=hG.few
      simp only[List.length_append,List.length_take,List.length_cons,List.length_drop];omega
   ·rw[if_neg h2]at h0;cases h0
 |false=>
  rw[hh]at h0;rw[if_neg (by simp)]at h0⊢;by_cases h1:stepI c.1<0
  ·rw[if_pos h1]at h0;cases h0
  ·rw[if_neg h1]at h0⊢
   by_cases h2:G.length=4096
   ·rw[if_pos h2]at h0;cases h0
   ·rw[if_neg h2]at h0⊢
    by_cases h3:(bagsG c.2 (stepI c.1) p.aggs (gp0 p []).bags).2=true
    ·rw[if_pos h3]
     obtain⟨b0,b00⟩:=bags_none p;obtain⟨b1,b2⟩:=bags_good hrow hn b0 (aggs_at hp hc) b00 h3;have hn1:stepI c.1=1:=by omega
     refine hfull _ (fun x hx=>List.mem_of_mem_drop hx) (hG.rise.sublist (List.drop_sublist _ _)) (s3 hh) ⟨key,stepI c.1,_⟩ ⟨k1,k2,k3,?_,b1,?_⟩ rfl ?_
     ·show 1≤stepI c.1∧stepI c.1≤1073741824
      omega
     ·intro q hq
      have:=b2 q hq;rw[Int.zero_add]at this;exact this
     ·have:=hG.few
      simp only[List.length_append,List.length_take,List.length_cons,List.length_drop];omega
    ·rw[if_neg h3]at h0;cases h0
end Go.Proofs.YtjhbeecmdgglgaaGreatDoor
namespace Go.Proofs.YtjhbeecmdgglgaaGreatDoor
open Go.Lib (compareBytes)
def stepF (fn:Int) (out:Val) (q:Val×Int):Val:=
 if q.1.k=0 then out else if fn=2 then⟨2,wrapI (out.n+wrapI (q.1.n*q.2)),⟨#[]⟩⟩else if out.k=0∨(fn=3∧cmpV q.1 out<0)∨(fn=4∧0<cmpV q.1 out)then q.1 else out
def cntF (n:Int) (q:Val×Int):Int:=wrapI (n+q.2)
def figF (fn:Int) (l:List (Val×Int)):Val:=if fn=1 then⟨2,l.foldl cntF 0,⟨#[]⟩⟩else l.foldl (stepF fn) nullG
theorem fm_congr {α β:Type}{f g:α→List β}: ∀ {l:List α},(∀a∈l,f a=g a)→l.flatMap f=l.flatMap g
 |[],_=>rfl
 |a::l,h=>by rw[List.flatMap_cons,List.flatMap_cons,h a (by simp),fm_congr fun b hb=>h b (by simp[hb])]
def findG (G:List Gp) (r:List Val):Option Gp:=G.find? fun g=>rowsF g.r r==0
def tellR (p:Pl):Option Gp→Option Gp→List (Int×List Val)
 |none,none=>[]
 |none,some b=>[(1,rowG p b)]
 |some a,none=>[(2,rowG p a)]
 |some a,some b=>tellG p a b
structure RowsG (G:List Gp):Prop where
 good: ∀g∈G,GoodR g.r
 rise:G.Pairwise fun a b=>rowsF a.r b.r<0
theorem RowsG.tail {g:Gp}{G:List Gp}(h:RowsG (g::G)):RowsG G:=⟨fun x hx=>h.good x (by simp[hx]),(List.pairwise_cons.1 h.rise).2⟩
theorem RowsG.less {g:Gp}{G:List Gp}(h:RowsG (g::G)){x:Gp}(hx:x∈G):rowsF g.r x.r<0:=(List.pairwise_cons.1 h.rise).1 x hx
theorem find_head {g:Gp}{G:List Gp}(h:RowsG (g::G)):findG (g::G) g.r=some g:=by
 unfold findG;rw[List.find?_cons,rowsF_self (h.good g (by simp))];rfl
theorem find_tail {g:Gp}{G:List Gp}{r:List Val}(h:rowsF g.r r<0):findG (g::G) r=findG G r:=by
 unfold findG;rw[List.find?_cons];have:(rowsF g.r r==0)=false:=by simp;omega
 rw[this]
theorem find_low {G:List Gp}{r:List Val}(h: ∀g∈G,0<rowsF g.r r):findG G r=none:=by
 unfold findG;rw[List.find?_eq_none];intro g hg;have:=h g hg;simp;omega
structure Union (G H:List Gp) (U:List (List Val)):Prop where
 rise:U.Pairwise fun a b=>rowsF a b<0
 mem: ∀r,r∈U↔(∃g∈G,g.r=r)∨ ∃g∈H,g.r=r
theorem Union.good {G H:List Gp}{U:List (List Val)}(h:Union G H U)(hG:RowsG G)(hH:RowsG H){r:List Val}(hr:r∈U):GoodR r:=by
 rcases(h.mem r).1 hr with⟨g,hg,rfl⟩|⟨g,hg,rfl⟩
 ·exact hG.good g hg
 ·exact hH.good g hg
theorem rise_ext: ∀ {U V:List (List Val)},(∀r∈U,GoodR r)→(∀r∈V,GoodR r)→U.Pairwise (fun a b=>rowsF a b<0)→V.Pairwise (fun a b=>rowsF a b<0)→(∀r,r∈U↔r∈V)→U=V
 |[],[],_,_,_,_,_=>rfl
 |[],v::V,_,_,_,_,h=>by have:=(h v).2 (by simp);cases this
 |u::U,[],_,_,_,_,h=>by have:=(h u).1 (by simp);cases this
 |u::U,v::V,gU,gV,hU,hV,h=>by
  have gu:=gU u (by simp);have gv:=gV v (by simp)
  have e:u=v:=by
   rcases List.mem_cons.1 ((h u).1 (by simp))with e|h1
   ·exact e
   ·rcases List.mem_cons.1 ((h v).2 (by simp))with e|h2
    ·exact e.symm
    ·have a1:=(List.pairwise_cons.1 hV).1 u h1
     have a2:=(List.pairwise_cons.1 hU).1 v h2;rw[rowsF_flip gu gv]at a1;omega
  subst e
  have notin: ∀ {L:List (List Val)},(∀x∈L,rowsF u x<0)→u∉L:=fun hL hm=>by
   have:=hL u hm;rw[rowsF_self gu]at this;omega
  rw[rise_ext (fun r hr=>gU r (by simp[hr])) (fun r hr=>gV r (by simp[hr])) (List.pairwise_cons.1 hU).2 (List.pairwise_cons.1 hV).2 fun r=> ?_];constructor
  ·intro hr
   rcases List.mem_cons.1 ((h r).1 (by simp[hr]))with rfl|h1
   ·exact absurd hr (notin (List.pairwise_cons.1 hU).1)
   ·exact h1
  ·intro hr
   rcases List.mem_cons.1 ((h r).2 (by simp[hr]))with rfl|h1
   ·exact absurd hr (notin (List.pairwise_cons.1 hV).1)
   ·exact h1
def mergeR:List Gp→List Gp→List (List Val)
 |[],H=>H.map (·.r)
 |a::G,[]=>a.r::mergeR G []
 |a::G,b::H=>if rowsF a.r b.r<0 then a.r::mergeR G (b::H)else if 0<rowsF a.r b.r then b.r::mergeR (a::G) H else a.r::mergeR G H
termination_by G H=>G.length+H.length
theorem mergeG_mem (G H:List Gp)(hG:RowsG G)(hH:RowsG H): ∀r,r∈mergeR G H↔(∃g∈G,g.r=r)∨ ∃g∈H,g.r=r:=by
 induction G,H using mergeR.induct with
 |case1 H=>intro r;unfold mergeR;simp
 |case2 a G ih=>intro r;unfold mergeR;simp[ih hG.tail hH,eq_comm]
 |case3 a G b H h1 ih=>intro r;unfold mergeR;rw[if_pos h1];simp[ih hG.tail hH,eq_comm,or_assoc]
 |case4 a G b H h1 h2 ih=>intro r;unfold mergeR;rw[if_neg h1,if_pos h2];simp[ih hG hH.tail,eq_comm,or_left_comm]
 |case5 a G b H h1 h2 ih=>
  intro r;unfold mergeR;have e:=(rowsF_zero (hG.good a (by simp)) (hH.good b (by simp))).1 (by omega);rw[if_neg h1,if_neg h2];rw[List.mem_cons,ih hG.tail hH.tail];constructor
  ·rintro(rfl|⟨g,hg,h⟩|⟨g,hg,h⟩)
   ·exact .inl ⟨a,by simp,rfl⟩
   ·exact .inl ⟨g,by simp[hg],h⟩
   ·exact .inr ⟨g,by simp[hg],h⟩
  ·rintro(⟨g,hg,h⟩|⟨g,hg,h⟩)
   ·rcases List.mem_cons.1 hg with rfl|hg
    ·exact .inl h.symm
    ·exact .inr (.inl ⟨g,hg,h⟩)
   ·rcases List.mem_cons.1 hg with rfl|hg
    ·exact .inl (by rw[e];exact h.symm)
    ·exact .inr (.inr ⟨g,hg,h⟩)
theorem merge_rise (G H:List Gp)(hG:RowsG G)(hH:RowsG H):(mergeR G H).Pairwise fun a b=>rowsF a b<0:=by
 induction G,H using mergeR.induct with
 |case1 H=>unfold mergeR;rw[List.pairwise_map];exact hH.rise
 |case2 a G ih=>
  unfold mergeR;refine List.pairwise_cons.2 ⟨fun r hr=> ?_,ih hG.tail hH⟩;rcases(mergeG_mem _ _ hG.tail hH r).1 hr with⟨g,hg,rfl⟩|⟨g,hg,rfl⟩
  ·exact hG.less hg
  ·cases hg
 |case3 a G b H h1 ih=>
  unfold mergeR;rw[if_pos h1];refine List.pairwise_cons.2 ⟨fun r hr=> ?_,ih hG.tail hH⟩;rcases(mergeG_mem _ _ hG.tail hH r).1 hr with⟨g,hg,rfl⟩|⟨g,hg,rfl⟩
  ·exact hG.less hg
  ·rcases List.mem_cons.1 hg with rfl|hg
   ·exact h1
   ·exact rowsF_trans (hG.good a (by simp)) (hH.good b (by simp)) (hH.good g (by simp[hg])) h1 (hH.less hg)
 |case4 a G b H h1 h2 ih=>
  unfold mergeR;rw[if_neg h1,if_pos h2];have h3:rowsF b.r a.r<0:=by rw[rowsF_flip (hG.good a (by simp)) (hH.good b (by simp))];omega
  refine List.pairwise_cons.2 ⟨fun r hr=> ?_,ih hG hH.tail⟩;rcases(mergeG_mem _ _ hG hH.tail r).1 hr with⟨g,hg,rfl⟩|⟨g,hg,rfl⟩
  ·rcases List.mem_cons.1 hg with rfl|hg
   ·exact h3
   ·exact rowsF_trans (hH.good b (by simp)) (hG.good a (by simp)) (hG.good g (by simp[hg])) h3 (hG.less hg)
  ·exact hH.less hg
 |case5 a G b H h1 h2 ih=>
  unfold mergeR;rw[if_neg h1,if_neg h2];have e:=(rowsF_zero (hG.good a (by simp)) (hH.good b (by simp))).1 (by omega);refine List.pairwise_cons.2 ⟨fun r hr=> ?_,ih hG.tail hH.tail⟩;rcases(mergeG_mem _ _ hG.tail hH.tail r).1 hr with⟨g,hg,rfl⟩|⟨g,hg,rfl⟩
  ·exact hG.less hg
  ·rw[e];exact hH.less hg
theorem union_merge {G H:List Gp}(hG:RowsG G)(hH:RowsG H){U:List (List Val)}(h:Union G H U):U=mergeR G H:=
 rise_ext (fun r hr=>h.good hG hH hr) (fun r hr=>by
  rcases(mergeG_mem G H hG hH r).1 hr with⟨g,hg,rfl⟩|⟨g,hg,rfl⟩
  ·exact hG.good g hg
  ·exact hH.good g hg) h.rise (merge_rise G H hG hH) fun r=>by rw[h.mem,mergeG_mem G H hG hH]
theorem gt_of {a b:List Val}(ha:GoodR a)(hb:GoodR b)(h:rowsF a b<0):0<rowsF b a:=by rw[rowsF_flip ha hb];omega
theorem changed_merge (p:Pl)(G H:List Gp)(hG:RowsG G)(hH:RowsG H):changedG p G H=(mergeR G H).flatMap fun r=>tellR p (findG G r) (findG H r):=by
 induction G,H using mergeR.induct with
 |case1 H=>
  unfold mergeR
  induction H with
  |nil=>simp[changedG]
  |cons b H ih=>
   rw[changedG,ih hH.tail,List.map_cons,List.flatMap_cons,find_head hH];show _::_=[_]++_;rw[List.singleton_append]
   congr 1
   refine fm_congr fun r hr=> ?_;obtain⟨g,hg,rfl⟩:=List.mem_map.1 hr;rw[find_tail (hH.less hg)]
 |case2 a G ih=>
  rw[changedG,ih hG.tail hH,mergeR,List.flatMap_cons,find_head hG];show _::_=[_]++_;rw[List.singleton_append]
  congr 1
  refine fm_congr fun r hr=> ?_;rcases(mergeG_mem _ _ hG.tail hH r).1 hr with⟨g,hg,rfl⟩|⟨g,hg,rfl⟩
  ·rw[find_tail (hG.less hg)]
  ·cases hg
 |case3 a G b H h1 ih=>
  have ga:=hG.good a (by simp);have gb:=hH.good b (by simp)
  have hlow: ∀g∈b::H,rowsF a.r g.r<0:=fun g hg=>by
   rcases List.mem_cons.1 hg with rfl|hg
   ·exact h1
   ·exact rowsF_trans ga gb (hH.good g (by simp[hg])) h1 (hH.less hg)
  rw[changedG,if_pos h1,ih hG.tail hH,mergeR,if_pos h1,List.flatMap_cons,find_head hG,find_low (G:=b::H) fun g hg=>gt_of ga (hH.good g hg) (hlow g hg)];show _::_=[_]++_;rw[List.singleton_append]
  congr 1
  refine fm_congr fun r hr=> ?_;rcases(mergeG_mem _ _ hG.tail hH r).1 hr with⟨g,hg,rfl⟩|⟨g,hg,rfl⟩
  ·rw[find_tail (hG.less hg)]
  ·rw[find_tail (hlow g hg)]
 |case4 a G b H h1 h2 ih=>
  have ga:=hG.good a (by simp);have gb:=hH.good b (by simp);have h3:rowsF b.r a.r<0:=by rw[rowsF_flip ga gb];omega
  have hlow: ∀g∈a::G,rowsF b.r g.r<0:=fun g hg=>by
   rcases List.mem_cons.1 hg with rfl|hg
   ·exact h3
   ·exact rowsF_trans gb ga (hG.good g (by simp[hg])) h3 (hG.less hg)
  rw[changedG,if_neg h1,if_pos h2,ih hG hH.tail,mergeR,if_neg h1,if_pos h2,List.flatMap_cons,find_head hH,find_low (G:=a::G) fun g hg=>gt_of gb (hG.good g hg) (hlow g hg)];show _::_=[_]++_;rw[List.singleton_append]
  congr 1
  refine fm_congr fun r hr=> ?_;rcases(mergeG_mem _ _ hG hH.tail r).1 hr with⟨g,hg,rfl⟩|⟨g,hg,rfl⟩
  ·rw[find_tail (G:=H) (hlow g hg)]
  ·rw[find_tail (hH.less hg)]
 |case5 a G b H h1 h2 ih=>
  have e:=(rowsF_zero (hG.good a (by simp)) (hH.good b (by simp))).1 (by omega);rw[changedG,if_neg h1,if_neg h2,ih hG.tail hH.tail,mergeR,if_neg h1,if_neg h2,List.flatMap_cons,find_head hG,e,find_head hH];show _++_=tellG p a b++_
  congr 1
  refine fm_congr fun r hr=> ?_;rcases(mergeG_mem _ _ hG.tail hH.tail r).1 hr with⟨g,hg,rfl⟩|⟨g,hg,rfl⟩
  ·rw[find_tail (hG.less hg),find_tail (by rw[←e];exact hG.less hg)]
  ·rw[find_tail (hH.less hg),find_tail (by rw[e];exact hH.less hg)]
theorem changed_union (p:Pl){G H:List Gp}(hG:RowsG G)(hH:RowsG H){U:List (List Val)}(h:Union G H U):changedG p G H=U.flatMap fun r=>tellR p (findG G r) (findG H r):=by
 rw[union_merge hG hH h];exact changed_merge p G H hG hH
end Go.Proofs.YtjhbeecmdgglgaaGreatDoor
namespace Go.Proofs.YtjhbeecmdgglgaaGreatDoor
open Go.ChangeShapes Go.WideShapes Go.RowKit Go.Deep
section
variable {H:Type} {enc:TypeId×Value→H} {P:Program} {w:World} {base:Nat} {spare:Nat→Bool} {held:Bool}
end
end Go.Proofs.YtjhbeecmdgglgaaGreatDoor
namespace Go.Proofs.YtjhbeecmdgglgaaGreatDoor
open Go.RowKit
def Tl.cells (x:Tl):List Value:=[.int .i64 x.v.k,.int .i64 x.v.n,.string x.v.s,.int .i64 x.n]
theorem Tl.cells_len (x:Tl):x.cells.length=4:=rfl
def tlCells (l:List Tl):List Value:=l.flatMap Tl.cells
def Tl.agg (x:Tl):Value:= .agg #[.int .i64 x.v.k,.int .i64 x.v.n,.string x.v.s,.int .i64 x.n]
theorem tlCells_app (a b:List Tl):tlCells (a++b)=tlCells a++tlCells b:=List.flatMap_append
structure Gm where
 v:Value
 r:List Val
 n:Int
 vb:Value
 bags:List (Value×List Tl)
def Gm.gp (x:Gm):Gp:=⟨x.r,x.n,x.bags.map (·.2)⟩
def Gm.cells (x:Gm):List Value:=[x.v,.int .i64 x.n,x.vb]
theorem Gm.cells_len (x:Gm):x.cells.length=3:=rfl
def gmCells (l:List Gm):List Value:=l.flatMap Gm.cells
theorem gmCells_app (a b:List Gm):gmCells (a++b)=gmCells a++gmCells b:=List.flatMap_append
def Gm.agg (x:Gm):Value:= .agg #[x.v,.int .i64 x.n,x.vb]
structure Gm.ok (w:World) (x:Gm):Prop where
 row:Sl w x.v x.r.length (rowCells x.r)
 sl:Sl w x.vb x.bags.length (x.bags.map (·.1))
 bags: ∀q∈x.bags,Sl w q.1 q.2.length (tlCells q.2)
theorem Gm.ok.below {w w':World}{x:Gm}(h:x.ok w)(hb:Below w.heap.size w w'):x.ok w':=⟨h.row.below hb,h.sl.below hb,fun q hq=>(h.bags q hq).below hb⟩
theorem Gm.ok.drew {w:World}{x:Gm}(h:x.ok w):x.ok w.drew:=⟨h.row,h.sl,h.bags⟩
structure Gms (w:World) (v:Value) (l:List Gm):Prop where
 sl:Sl w v l.length (gmCells l)
 each: ∀x∈l,x.ok w
theorem Gms.below {w w':World}{v:Value}{l:List Gm}(h:Gms w v l)(hb:Below w.heap.size w w'):Gms w' v l:=⟨h.sl.below hb,fun x hx=>(h.each x hx).below hb⟩
theorem Gms.drew {w:World}{v:Value}{l:List Gm}(h:Gms w v l):Gms w.drew v l:=⟨h.sl,fun x hx=>(h.each x hx).drew⟩
theorem Gms.nil (w:World):Gms w (.slice none 0 0) []:=⟨Sl.nil_ w,nofun⟩
structure Gm.fit (x:Gm):Prop where
 fine:FineG x.gp
 lbag: ∀q∈x.bags,q.2.length≤4398046511104
 lbags:x.bags.length≤5864062014806
 len:x.r.length≤4398046511104
section
open Go.ChangeShapes Go.WideShapes Go.Deep
variable {H:Type} {enc:TypeId×Value→H} {w:World} {base:Nat} {spare:Nat→Bool} {held:Bool}
end
end Go.Proofs.YtjhbeecmdgglgaaGreatDoor
namespace Go.Proofs.YtjhbeecmdgglgaaGreatDoor
open Go.RowKit Go.Maps
end Go.Proofs.YtjhbeecmdgglgaaGreatDoor
namespace Go.Proofs.YtjhbeecmdgglgaaGreatDoor
open Go.RowKit
section
variable {P:Program} {ops:Array Oper} {Q:Exit→Act→World→Prop} {md:Region.Mode} {S:World→Prop}
theorem tk (i:Nat){oi:Oper}{v:Value}{fuel:Nat}{listed listed':Array Bool}{a a':Act}{w:World}
 (h:wpAnyH P md ops Q S fuel listed' a' w)
 (hi:ops[i]?=some oi:=by simp only[List.getElem?_toArray,List.getElem?_cons_succ,List.getElem?_cons_zero];rfl)
 (hs:Region.noSelect ops=true:=by kernel_rfl) (hf:Region.free md ops listed i=true:=by kernel_rfl) (hr:(Region.ready md ops listed).contains i=true:=by kernel_rfl)
 (hQ: ∀c a w,Q (.panic c) (a.put oi.dst v) w→Q (.panic c) a w:=by intro _ _ _ h;exact h)
 (hw:Region.wanted oi (yielded ops a.tmps)=true:=by kernel_rfl)
 (hy: ∀w,S w→(execOp a.eval oi).run P w= .ok (.value v) w:=by(intro w hSw;(try dsimp only at hSw);go_simp;try with_reducible rfl))
 (hS:S w:=by assumption)
 (hl:listed.setIfInBounds i true=listed':=by(try simp only[List.setIfInBounds_toArray,List.set_cons_zero,List.set_cons_succ]);exact rfl)
 (ha:a.put oi.dst v=a':=by(try simp only[Act.put,List.setIfInBounds_toArray,List.set_cons_zero,List.set_cons_succ]);exact rfl):wpAnyH P md ops Q S (fuel+1) listed a w:=
 wpAnyH_take hi hs hf hr hQ (.inl ⟨hw,hy⟩) hS (hl▸ha▸h)
theorem tn (i:Nat){oi:Oper}{fuel:Nat}{listed listed':Array Bool}{a a':Act}{w:World}
 (h:wpAnyH P md ops Q S fuel listed' a' w)
 (hi:ops[i]?=some oi:=by simp only[List.getElem?_toArray,List.getElem?_cons_succ,List.getElem?_cons_zero];rfl)
 (hs:Region.noSelect ops=true:=by kernel_rfl) (hf:Region.free md ops listed i=true:=by kernel_rfl) (hr:(Region.ready md ops listed).contains i=true:=by kernel_rfl)
 (hQ: ∀c a w,Q (.panic c) (a.put oi.dst undef) w→Q (.panic c) a w:=by intro _ _ _ h;exact h)
 (hw:Region.wanted oi (yielded ops a.tmps)=false:=by kernel_rfl)
 (hS:S w:=by assumption)
 (hl:listed.setIfInBounds i true=listed':=by(try simp only[List.setIfInBounds_toArray,List.set_cons_zero,List.set_cons_succ]);exact rfl)
 (ha:a.put oi.dst undef=a':=by(try simp only[Act.put,List.setIfInBounds_toArray,List.set_cons_zero,List.set_cons_succ]);exact rfl):wpAnyH P md ops Q S (fuel+1) listed a w:=
 wpAnyH_take hi hs hf hr hQ (.inr ⟨hw,rfl⟩) hS (hl▸ha▸h)
theorem tc (i:Nat){oi:Oper}{fuel:Nat}{listed listed':Array Bool}{a:Act}{w:World}
 (h: ∀K,Hid (∀a' w',S w'→(S w'→wpAnyH P md ops Q S fuel listed' a' w')→K a' w')→(if Region.wanted oi (yielded ops a.tmps)=true then oi.wp P a w K Q else K (a.put oi.dst undef) w))
 (hi:ops[i]?=some oi:=by simp only[List.getElem?_toArray,List.getElem?_cons_succ,List.getElem?_cons_zero];rfl)
 (hr:Region.ready md ops listed=[i]:=by kernel_rfl)
 (hl:listed.setIfInBounds i true=listed':=by(try simp only[List.setIfInBounds_toArray,List.set_cons_zero,List.set_cons_succ]);exact rfl):wpAnyH P md ops Q S (fuel+1) listed a w:=by
 refine wpAnyH_ready (rs:=[i]) hr (by simp) (AllReadyH.cons hi (fun K hK=> ?_) AllReadyH.nil);exact h K (Lib.hid fun a' w' h1 h2=>hK.out _ _ h1 (fun h3=>hl▸h2 h3))
theorem tc2 (i j:Nat){oi oj:Oper}{fuel:Nat}{listed l1 l2:Array Bool}{a:Act}{w:World}
 (h1: ∀K,Hid (∀a' w',S w'→(S w'→wpAnyH P md ops Q S fuel l1 a' w')→K a' w')→(if Region.wanted oi (yielded ops a.tmps)=true then oi.wp P a w K Q else K (a.put oi.dst undef) w))
 (h2: ∀K,Hid (∀a' w',S w'→(S w'→wpAnyH P md ops Q S fuel l2 a' w')→K a' w')→(if Region.wanted oj (yielded ops a.tmps)=true then oj.wp P a w K Q else K (a.put oj.dst undef) w))
 (hi:ops[i]?=some oi:=by simp only[List.getElem?_toArray,List.getElem?_cons_succ,List.getElem?_cons_zero];rfl)
 (hj:ops[j]?=some oj:=by simp only[List.getElem?_toArray,List.getElem?_cons_succ,List.getElem?_cons_zero];rfl)
 (hr:Region.ready md ops listed=[i,j]:=by kernel_rfl)
 (e1:listed.setIfInBounds i true=l1:=by(try simp only[List.setIfInBounds_toArray,List.set_cons_zero,List.set_cons_succ]);exact rfl)
 (e2:listed.setIfInBounds j true=l2:=by(try simp only[List.setIfInBounds_toArray,List.set_cons_zero,List.set_cons_succ]);exact rfl):wpAnyH P md ops Q S (fuel+1) listed a w:=by
 refine wpAnyH_ready (rs:=[i,j]) hr (by simp) (AllReadyH.cons hi (fun K hK=> ?_) (AllReadyH.cons hj (fun K hK=> ?_) AllReadyH.nil))
 ·exact h1 K (Lib.hid fun a' w' h1 h2=>hK.out _ _ h1 (fun h3=>e1▸h2 h3))
 ·exact h2 K (Lib.hid fun a' w' h1 h2=>hK.out _ _ h1 (fun h3=>e2▸h2 h3))
theorem td {fuel:Nat}{listed:Array Bool}{a:Act}{w:World}(h:Q .normal a w)(hr:Region.ready md ops listed=[]:=by kernel_rfl):wpAnyH P md ops Q S fuel listed a w:=wpAnyH_done hr h _
end
theorem tr {P:Program}{ops:Array Oper}{Q:Exit→Act→World→Prop}(S:World→Prop){id:Nat}{a:Act}{w:World}(hS:S w.drew)(h:S w.drew→wpAnyH P .any ops Q S ops.size (Array.replicate ops.size false) a w.drew)(hm:P.follows .mixedOrders=true:=by kernel_rfl):(Code.region id ops true).wp P Q a w:=
 wp_region_held_drew hm hS h
end Go.Proofs.YtjhbeecmdgglgaaGreatDoor
namespace Go.Proofs.YtjhbeecmdgglgaaGreatDoor
open Go.RowKit
end Go.Proofs.YtjhbeecmdgglgaaGreatDoor
namespace Go.Proofs.YtjhbeecmdgglgaaGreatDoor
open Go.RowKit
end Go.Proofs.YtjhbeecmdgglgaaGreatDoor
