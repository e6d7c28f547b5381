/-Plain law of groups: when groups are right; a change done to groups; what is told of it; right groups stay right. -/
import Derived.Test.YtjhbeecmdgglgaaGreatDoorGrpV10
import Derived.Test.YtjhbeecmdgglgaaGreatDoorGrpV6
set_option linter.unusedSimpArgs false
set_option linter.unusedVariables false
namespace Go.Proofs.YtjhbeecmdgglgaaGreatDoor
open Go.Lib (compareBytes)
theorem cmpV_row (a b:Val):rowsF [a] [b]=cmpV a b:=by
 show(if cmpV a b≠0 then cmpV a b else 0)=_;by_cases h:cmpV a b=0
 ·rw[if_neg (fun h'=>h' h),h]
 ·rw[if_pos h]
theorem cmpV_zero {a b:Val}(ha:GoodR [a])(hb:GoodR [b]):cmpV a b=0↔a=b:=by
 rw[←cmpV_row,rowsF_zero ha hb];simp
theorem cmpV_flip {a b:Val}(ha:GoodR [a])(hb:GoodR [b]):cmpV b a= -cmpV a b:=by
 rw[←cmpV_row,←cmpV_row,rowsF_flip ha hb]
theorem cmpV_trans {a b c:Val}(ha:GoodR [a])(hb:GoodR [b])(hc:GoodR [c])(h1:cmpV a b<0)(h2:cmpV b c<0):cmpV a c<0:=by
 rw[←cmpV_row]at h1 h2⊢;exact rowsF_trans ha hb hc h1 h2
theorem good_one {x:Val}(hf:Fine [x])(h:checkV x=0):GoodR [x]:=
 ⟨fun y hy=>by rw[List.mem_singleton.1 hy];exact⟨h,hf.nums x (by simp)⟩,by simp⟩
theorem good_at {r:List Val}(h:GoodR r){x:Val}(hx:x∈r):GoodR [x]:=
 ⟨fun y hy=>by rw[List.mem_singleton.1 hy];exact h.good x hx,by simp⟩
theorem good_check {x:Val}(h:GoodR [x]):checkV x=0:=(h.good x (by simp)).1
structure GoodT (t:Int) (bag:List Tl):Prop where
 vals: ∀x∈bag,GoodR [x.v]∧(x.v.k=0∨x.v.k=t)∧1≤x.n
 rise:bag.Pairwise fun a b=>cmpV a.v b.v<0
def sumT (bag:List Tl):Int:=(bag.map (·.n)).sum
theorem sumT_cons (x:Tl)(l:List Tl):sumT (x::l)=x.n+sumT l:=by simp[sumT]
theorem sumT_len {t:Int}{bag:List Tl}(h: ∀x∈bag,GoodR [x.v]∧(x.v.k=0∨x.v.k=t)∧1≤x.n):(bag.length:Int)≤sumT bag:=by
 induction bag with
 |nil=>simp[sumT]
 |cons x l ih=>
  have:=(h x (by simp)).2.2;have:=ih fun y hy=>h y (by simp[hy]);rw[sumT_cons];simp only[List.length_cons];omega
theorem sumT_le {t:Int}{bag:List Tl}(h: ∀x∈bag,GoodR [x.v]∧(x.v.k=0∨x.v.k=t)∧1≤x.n){x:Tl}(hx:x∈bag):x.n≤sumT bag:=by
 induction bag with
 |nil=>cases hx
 |cons y l ih=>
  rw[sumT_cons];have h1:=(h y (by simp)).2.2;have h2:=sumT_len (t:=t) fun y hy=>h y (List.mem_cons_of_mem _ hy);rcases List.mem_cons.1 hx with rfl|hx
  ·omega
  ·have:=ih (fun y hy=>h y (by simp[hy])) hx
   omega
def headOk (prev:Option Val) (l:List Tl):Prop:= ∀y,prev=some y→ ∀x,l.head?=some x→cmpV y x.v<0
theorem bagG_iff {t:Int}{bag:List Tl}(hf: ∀x∈bag,Fine [x.v]): ∀ {prev:Option Val} {left:Int},bagG t prev left bag=true↔GoodT t bag∧sumT bag=left∧headOk prev bag:=by
 induction bag with
 |nil=>
  intro prev left;simp only[bagG,beq_iff_eq];constructor
  ·rintro rfl;exact⟨⟨nofun,.nil⟩,by simp[sumT],by intro y _ x hx;cases hx⟩
  ·rintro⟨-,h,-⟩;rw[←h];simp[sumT]
 |cons x l ih=>
  intro prev left;have ih:=fun prev left=>ih (fun y hy=>hf y (by simp[hy])) (prev:=prev) (left:=left);have hx:=hf x (by simp);unfold bagG;simp only[Bool.and_eq_true,beq_iff_eq,Bool.or_eq_true,decide_eq_true_eq];rw[ih]
  have hpr:prevOk prev x.v=true↔headOk prev (x::l):=by
   cases prev with
   |none=>simp[headOk,prevOk]
   |some y=>simp[headOk,prevOk]
  rw[hpr,sumT_cons];constructor
  ·rintro⟨h1,h2,h3,h4,h5,h6,h7,h8⟩
   have hgx:=good_one hx h1;refine⟨⟨fun y hy=> ?_,List.pairwise_cons.2 ⟨fun y hy=> ?_,h6.rise⟩⟩,by omega,h5⟩
   ·rcases List.mem_cons.1 hy with rfl|hy
    ·exact⟨hgx,h2,h3⟩
    ·exact h6.vals y hy
   ·cases l with
    |nil=>cases hy
    |cons z l=>
     have hz:=h8 x.v rfl z rfl;rcases List.mem_cons.1 hy with rfl|hy
     ·exact hz
     ·exact cmpV_trans hgx (h6.vals z (by simp)).1 (h6.vals y (by simp[hy])).1 hz ((List.pairwise_cons.1 h6.rise).1 y hy)
  ·rintro⟨h1,h2,h3⟩
   have h4:=h1.vals x (by simp);have h5:=sumT_len (t:=t) fun y hy=>h1.vals y (List.mem_cons_of_mem _ hy);refine⟨good_check h4.1,h4.2.1,h4.2.2,by omega,h3,⟨fun y hy=>h1.vals y (by simp[hy]),(List.pairwise_cons.1 h1.rise).2⟩,by omega,fun y hy z hz=> ?_⟩;cases hy
   cases l with
   |nil=>cases hz
   |cons a l=>cases hz;exact(List.pairwise_cons.1 h1.rise).1 _ (by simp)
def BagOk (p:Pl) (a:Int×Int) (n:Int) (bag:List Tl):Prop:=(a.1=1∧bag=[])∨(a.1≠1∧GoodT ((allT p).getD a.2.toNat 0) bag∧sumT bag=n)
theorem bagB_iff {p:Pl}{a:Int×Int}{n:Int}{bag:List Tl}(hf: ∀x∈bag,Fine [x.v]):bagB p a n bag=true↔BagOk p a n bag:=by
 unfold bagB BagOk;by_cases h:a.1=1
 ·rw[if_pos h]
  simp[h]
 ·rw[if_neg h,bagG_iff hf]
  simp[h,headOk]
structure FineG (g:Gp):Prop where
 row:Fine g.r
 num: -9223372036854775808≤g.n∧g.n≤9223372036854775807
 bags: ∀b∈g.bags,∀x∈b,Fine [x.v]∧(-9223372036854775808≤x.n∧x.n≤9223372036854775807)
structure GoodG1 (p:Pl) (g:Gp):Prop where
 row:GoodR g.r
 len:g.r.length=(ownT p).length
 fit:((ownT p).zip g.r).all fitOne=true
 num:1≤g.n∧g.n≤1073741824
 bl:g.bags.length=p.aggs.length
 bags: ∀q∈p.aggs.zip g.bags,BagOk p q.1 g.n q.2
theorem groupB_iff {p:Pl}{g:Gp}(hf:FineG g):groupB p g=true↔GoodG1 p g:=by
 unfold groupB;simp only[Bool.and_eq_true,beq_iff_eq,List.all_eq_true (p:=fun q:(Int×Int)×List Tl=>bagB p q.1 g.n q.2)];have hb: ∀q∈p.aggs.zip g.bags,(bagB p q.1 g.n q.2=true↔BagOk p q.1 g.n q.2):=fun q hq=>bagB_iff fun x hx=>(hf.bags q.2 (List.of_mem_zip hq).2 x hx).1;constructor
 ·rintro⟨h1,h2,h3,h4,h5,h6⟩
  exact⟨goodR_of hf.row h1,h2,h3,btw_of h4,h5,fun q hq=>(hb q hq).1 (h6 q hq)⟩
 ·rintro⟨h1,h2,h3,h4,h5,h6⟩
  refine⟨?_,h2,h3,btw_yes h4.1 h4.2,h5,fun q hq=>(hb q hq).2 (h6 q hq)⟩;unfold keyErr;rw[if_neg (by have:=h1.few;omega)]
  exact firstNZ_none fun x hx=>by
   obtain⟨y,hy,rfl⟩:=List.mem_map.1 hx;exact(h1.good y hy).1
structure GoodGs (p:Pl) (G:List Gp):Prop where
 few:G.length≤4096
 each: ∀g∈G,GoodG1 p g
 rise:G.Pairwise fun a b=>rowsF a.r b.r<0
theorem chain_rise {α:Type}{R:α→α→Prop}{S:α→Prop}(tr: ∀ {a b c:α},S a→S b→S c→R a b→R b c→R a c): ∀ {l:List α},(∀x∈l,S x)→(∀i a b,l[i]?=some a→l[i+1]?=some b→R a b)→l.Pairwise R
 |[],_,_=> .nil
 |x::l,hs,h=>by
  have ih:=chain_rise tr (l:=l) (fun y hy=>hs y (by simp[hy])) fun i a b h1 h2=>h (i+1) a b (by simpa using h1) (by simpa using h2);refine List.pairwise_cons.2 ⟨fun y hy=> ?_,ih⟩;cases l with
  |nil=>cases hy
  |cons z l=>
   have hz:=h 0 x z rfl rfl;rcases List.mem_cons.1 hy with rfl|hy
   ·exact hz
   ·exact tr (hs x (by simp)) (hs z (by simp)) (hs y (by simp[hy])) hz ((List.pairwise_cons.1 ih).1 y hy)
theorem risesG_iff {p:Pl}{G:List Gp}(hg: ∀g∈G,GoodG1 p g):risesG G=true↔G.Pairwise fun a b=>rowsF a.r b.r<0:=by
 unfold risesG;rw[List.all_eq_true];constructor
 ·intro h
  refine chain_rise (S:=fun g:Gp=>GoodR g.r) (fun ha hb hc h1 h2=>rowsF_trans ha hb hc h1 h2) (fun g hg'=>(hg g hg').row) fun i a b ha hb=> ?_;have h1:=h i (List.mem_range.2 (List.getElem?_eq_some_iff.1 ha).1);rw[ha,hb]at h1;exact of_decide_eq_true h1
 ·intro h i hi
  have hi:=List.mem_range.1 hi;rw[List.getElem?_eq_getElem hi];rcases Nat.lt_or_ge (i+1) G.length with h2|h2
  ·rw[List.getElem?_eq_getElem h2]
   exact decide_eq_true (List.pairwise_iff_getElem.1 h i (i+1) hi h2 (by omega))
  ·rw[List.getElem?_eq_none h2]
theorem check_zeroG {p:Pl}{G:List Gp}(hf: ∀g∈G,FineG g):checkG p G=0↔checkP p=0∧p.grouped=true∧GoodGs p G:=by
 unfold checkG;by_cases h1:checkP p=0
 ·rw[if_neg (fun h=>h h1)]
  cases h2:p.grouped with
  |false=>simp
  |true=>
   rw[if_neg (by simp)];by_cases h3:4096<G.length
   ·rw[if_pos h3]
    exact⟨fun h=>by omega,fun h=>absurd h.2.2.few (by omega)⟩
   ·rw[if_neg h3]
    by_cases h4:(G.all (groupB p)&&risesG G)=true
    ·rw[if_pos h4]
     rw[Bool.and_eq_true,List.all_eq_true]at h4;have h5: ∀g∈G,GoodG1 p g:=fun g hg=>(groupB_iff (hf g hg)).1 (h4.1 g hg);exact⟨fun _=>⟨h1,rfl,by omega,h5,(risesG_iff h5).1 h4.2⟩,fun _=>rfl⟩
    ·rw[if_neg h4]
     refine⟨fun h=>by omega,fun h=>absurd ?_ h4⟩;rw[Bool.and_eq_true,List.all_eq_true];exact⟨fun g hg=>(groupB_iff (hf g hg)).2 (h.2.2.each g hg),(risesG_iff h.2.2.each).2 h.2.2.rise⟩
 ·rw[if_pos h1]
  exact⟨fun h=>absurd h h1,fun h=>absurd h.1 h1⟩
def cellsG (p:Pl) (r:List Val):List Val:=p.group.map fun c=>r.getD c.toNat nullG
def tallyG:List Tl→Val→Int→List Tl×Bool
 |[],v,n=>([⟨v,n⟩],decide (0<n))
 |x::l,v,n=>if cmpV x.v v<0 then(x::(tallyG l v n).1,(tallyG l v n).2)else if cmpV x.v v=0 then(if x.n+n=0 then l else⟨x.v,x.n+n⟩::l,true)else(⟨v,n⟩::x::l,decide (0<n))
def bagsG (r:List Val) (n:Int):List (Int×Int)→List (List Tl)→List (List Tl)×Bool
 |a::al,b::bs=>if a.1=1 then(b::(bagsG r n al bs).1,(bagsG r n al bs).2)
  else if(tallyG b (r.getD a.2.toNat nullG) n).2=true then((tallyG b (r.getD a.2.toNat nullG) n).1::(bagsG r n al bs).1,(bagsG r n al bs).2)else([],false)
 |_,_=>([],true)
def placeG (G:List Gp) (key:List Val):Nat:=(G.takeWhile fun g=>decide (rowsF g.r key<0)).length
def hasG (G:List Gp) (key:List Val):Bool:=match G[placeG G key]? with
 |some g=>rowsF g.r key==0
 |none=>false
def gp0 (p:Pl) (key:List Val):Gp:=⟨key,0,p.aggs.map fun _=>[]⟩
def turnG (p:Pl) (G:List Gp) (c:Int×List Val):List Gp×Int:=
 if hasG G (cellsG p c.2)=true then
  if 0<stepI c.1∧(G.getD (placeG G (cellsG p c.2)) (gp0 p [])).n=1073741824 then([],2)
  else if(bagsG c.2 (stepI c.1) p.aggs (G.getD (placeG G (cellsG p c.2)) (gp0 p [])).bags).2=true then
   (G.take (placeG G (cellsG p c.2))++((if(G.getD (placeG G (cellsG p c.2)) (gp0 p [])).n+stepI c.1=0 then[]else
    [⟨(G.getD (placeG G (cellsG p c.2)) (gp0 p [])).r,(G.getD (placeG G (cellsG p c.2)) (gp0 p [])).n+stepI c.1,(bagsG c.2 (stepI c.1) p.aggs (G.getD (placeG G (cellsG p c.2)) (gp0 p [])).bags).1⟩])++G.drop (placeG G (cellsG p c.2)+1)),0)
  else([],9)
 else if stepI c.1<0 then([],9)else if G.length=4096 then([],2)
 else if(bagsG c.2 (stepI c.1) p.aggs (gp0 p []).bags).2=true then
  (G.take (placeG G (cellsG p c.2))++⟨cellsG p c.2,stepI c.1,(bagsG c.2 (stepI c.1) p.aggs (gp0 p []).bags).1⟩::G.drop (placeG G (cellsG p c.2)),0)
 else([],9)
def turnAll (p:Pl):List Gp→List (Int×List Val)→List Gp×Int
 |G,[]=>(G,0)
 |G,c::l=>if(turnG p G c).2=0 then turnAll p (turnG p G c).1 l else([],(turnG p G c).2)
def tellG (p:Pl) (a b:Gp):List (Int×List Val):=if rowsF (rowG p a) (rowG p b)=0 then[]else[(3,rowG p a),(4,rowG p b)]
def changedG (p:Pl):List Gp→List Gp→List (Int×List Val)
 |[],[]=>[]
 |a::al,[]=>(2,rowG p a)::changedG p al []
 |[],b::bs=>(1,rowG p b)::changedG p [] bs
 |a::al,b::bs=>if rowsF a.r b.r<0 then(2,rowG p a)::changedG p al (b::bs)else if 0<rowsF a.r b.r then(1,rowG p b)::changedG p (a::al) bs else tellG p a b++changedG p al bs
def fitE (t:List Int) (r:List Val):Int:=if r.length≠t.length then 2 else if allB fitOne (t.zip r)then 0 else 5
def typesG (p:Pl) (l:List (Int×List Val)):Int:=firstNZ (l.map fun c=>fitE (allT p) c.2)
theorem tally_vals {t:Int}{bag:List Tl}{v:Val}{n:Int}(h:GoodT t bag)(hv:GoodR [v])(hk:v.k=0∨v.k=t)(hn:n=1∨n= -1)(h0:(tallyG bag v n).2=true):
 (∀x∈(tallyG bag v n).1,GoodR [x.v]∧(x.v.k=0∨x.v.k=t)∧1≤x.n)∧(tallyG bag v n).1.Pairwise (fun a b=>cmpV a.v b.v<0)∧sumT (tallyG bag v n).1=sumT bag+n∧
 ∀u:Val,GoodR [u]→cmpV u v<0→(∀x∈bag,cmpV u x.v<0)→ ∀x∈(tallyG bag v n).1,cmpV u x.v<0:=by
 induction bag with
 |nil=>
  unfold tallyG at h0⊢;have h1:0<n:=of_decide_eq_true h0;refine⟨fun x hx=> ?_,by simp,by simp[sumT],fun u _ hu _ x hx=> ?_⟩
  ·rw[List.mem_singleton.1 hx];exact⟨hv,hk,by show 1≤n;omega⟩
  ·rw[List.mem_singleton.1 hx];exact hu
 |cons x l ih=>
  have hx:=h.vals x (by simp);have hl:GoodT t l:=⟨fun y hy=>h.vals y (by simp[hy]),(List.pairwise_cons.1 h.rise).2⟩;have hxl:=(List.pairwise_cons.1 h.rise).1;unfold tallyG at h0⊢;by_cases h1:cmpV x.v v<0
  ·rw[if_pos h1]at h0⊢
   obtain⟨a1,a2,a3,a4⟩:=ih hl h0;refine⟨fun y hy=> ?_,List.pairwise_cons.2 ⟨fun y hy=>a4 x.v hx.1 h1 hxl y hy,a2⟩,by rw[sumT_cons,sumT_cons,a3];omega,fun u gu hu hub y hy=> ?_⟩
   ·rcases List.mem_cons.1 hy with rfl|hy
    ·exact hx
    ·exact a1 y hy
   ·rcases List.mem_cons.1 hy with rfl|hy
    ·exact hub y (by simp)
    ·exact a4 u gu hu (fun z hz=>hub z (by simp[hz])) y hy
  ·rw[if_neg h1]at h0⊢
   by_cases h2:cmpV x.v v=0
   ·rw[if_pos h2]
    show(∀y∈(if x.n+n=0 then l else⟨x.v,x.n+n⟩::l),_)∧(if x.n+n=0 then l else⟨x.v,x.n+n⟩::l).Pairwise _∧sumT (if x.n+n=0 then l else⟨x.v,x.n+n⟩::l)=_∧ ∀u:Val,_→_→_→ ∀y∈(if x.n+n=0 then l else⟨x.v,x.n+n⟩::l),_;have h3:=hx.2.2;by_cases h4:x.n+n=0
    ·rw[if_pos h4]
     exact⟨hl.vals,hl.rise,by rw[sumT_cons];omega,fun u _ _ hub y hy=>hub y (by simp[hy])⟩
    ·rw[if_neg h4]
     refine⟨fun y hy=> ?_,List.pairwise_cons.2 ⟨fun y hy=>hxl y hy,hl.rise⟩,by rw[sumT_cons,sumT_cons];show x.n+n+_=_;omega,fun u _ hu hub y hy=> ?_⟩
     ·rcases List.mem_cons.1 hy with rfl|hy
      ·exact⟨hx.1,hx.2.1,by show 1≤x.n+n;omega⟩
      ·exact hl.vals y hy
     ·rcases List.mem_cons.1 hy with rfl|hy
      ·exact hub x (by simp)
      ·exact hub y (by simp[hy])
   ·rw[if_neg h2]at h0⊢
    have h3:0<n:=of_decide_eq_true h0;have h4:cmpV v x.v<0:=by rw[cmpV_flip hx.1 hv];omega
    refine⟨fun y hy=> ?_,List.pairwise_cons.2 ⟨fun y hy=> ?_,h.rise⟩,by rw[sumT_cons];show n+_=_;omega,fun u _ hu hub y hy=> ?_⟩
    ·rcases List.mem_cons.1 hy with rfl|hy
     ·exact⟨hv,hk,by show 1≤n;omega⟩
     ·exact h.vals y hy
    ·rcases List.mem_cons.1 hy with rfl|hy
     ·exact h4
     ·exact cmpV_trans hv hx.1 (h.vals y (by simp[hy])).1 h4 (hxl y hy)
    ·rcases List.mem_cons.1 hy with rfl|hy
     ·exact hu
     ·exact hub y hy
theorem tally_good {t:Int}{bag:List Tl}{v:Val}{n:Int}(h:GoodT t bag)(hv:GoodR [v])(hk:v.k=0∨v.k=t)(hn:n=1∨n= -1)(h0:(tallyG bag v n).2=true):GoodT t (tallyG bag v n).1∧sumT (tallyG bag v n).1=sumT bag+n:=
 ⟨⟨(tally_vals h hv hk hn h0).1,(tally_vals h hv hk hn h0).2.1⟩,(tally_vals h hv hk hn h0).2.2.1⟩
theorem bags_good {p:Pl}{r:List Val}{n m:Int}(hr: ∀x∈r,GoodR [x])(hn:n=1∨n= -1): ∀ {al:List (Int×Int)} {bs:List (List Tl)},bs.length=al.length→(∀a∈al,a.1≠1→ ∃x,r[a.2.toNat]?=some x∧(x.k=0∨x.k=(allT p).getD a.2.toNat 0))→
 (∀q∈al.zip bs,BagOk p q.1 m q.2)→(bagsG r n al bs).2=true→(bagsG r n al bs).1.length=al.length∧ ∀q∈al.zip (bagsG r n al bs).1,BagOk p q.1 (m+n) q.2:=by
 intro al
 induction al with
 |nil=>intro bs _ _ _ _;cases bs<;>simp[bagsG]
 |cons a al ih=>
  intro bs hl ha hb h0;cases bs with
  |nil=>simp at hl
  |cons b bs=>
   have hq:=hb (a,b) (by simp);have ih:=ih (bs:=bs) (by simpa using hl) (fun x hx=>ha x (by simp[hx])) (fun q hq=>hb q (by rw[List.zip_cons_cons];exact List.mem_cons_of_mem _ hq));unfold bagsG at h0⊢;by_cases h1:a.1=1
   ·rw[if_pos h1]at h0⊢
    obtain⟨i1,i2⟩:=ih h0;refine⟨by simp[i1],fun q hq'=> ?_⟩;rw[List.zip_cons_cons]at hq';rcases List.mem_cons.1 hq' with rfl|hq'
    ·rcases hq with hq|hq
     ·exact .inl hq
     ·exact absurd h1 hq.1
    ·exact i2 q hq'
   ·rw[if_neg h1]at h0⊢
    by_cases h2:(tallyG b (r.getD a.2.toNat nullG) n).2=true
    ·rw[if_pos h2]at h0⊢
     obtain⟨i1,i2⟩:=ih h0;refine⟨by simp[i1],fun q hq'=> ?_⟩;rw[List.zip_cons_cons]at hq';rcases List.mem_cons.1 hq' with rfl|hq'
     ·rcases hq with hq|⟨-,hq,hs⟩
      ·exact absurd hq.1 h1
      ·obtain⟨x,hx,hk⟩:=ha a (by simp) h1
       have ex:r.getD a.2.toNat nullG=x:=by simp[List.getD,hx]
       rw[ex]at h2⊢;obtain⟨g1,g2⟩:=tally_good hq (hr x (List.mem_of_getElem? hx)) hk hn h2;exact .inr ⟨h1,g1,by show sumT _=_;rw[g2,hs]⟩
     ·exact i2 q hq'
    ·rw[if_neg h2]at h0
     cases h0
theorem placeG_cons (g:Gp)(G:List Gp)(key:List Val):placeG (g::G) key=if rowsF g.r key<0 then placeG G key+1 else 0:=by
 unfold placeG;rw[List.takeWhile_cons];by_cases h:rowsF g.r key<0
 ·rw[if_pos h,if_pos (decide_eq_true h)];rfl
 ·rw[if_neg h,if_neg (by simpa using h)];rfl
theorem placeG_le (G:List Gp)(key:List Val):placeG G key≤G.length:=by
 induction G with
 |nil=>exact Nat.le_refl _
 |cons g G ih=>
  rw[placeG_cons];split
  ·simpa using ih
  ·omega
theorem hasG_cons {g:Gp}{G:List Gp}{key:List Val}(h:rowsF g.r key<0):hasG (g::G) key=hasG G key:=by
 unfold hasG;rw[placeG_cons,if_pos h,List.getElem?_cons_succ]
theorem place_split {G:List Gp}{key:List Val}(hr:G.Pairwise fun a b=>rowsF a.r b.r<0)(hg: ∀g∈G,GoodR g.r)(hk:GoodR key):
 (∀g∈G.take (placeG G key),rowsF g.r key<0)∧(hasG G key=true→ ∃g,G[placeG G key]?=some g∧g.r=key∧ ∀x∈G.drop (placeG G key+1),0<rowsF x.r key)∧(hasG G key=false→ ∀x∈G.drop (placeG G key),0<rowsF x.r key):=by
 induction G with
 |nil=>exact⟨fun g h=>by simp at h,fun h=>by simp[hasG]at h,fun _ x hx=>by simp at hx⟩
 |cons g G ih=>
  have ih:=ih (List.pairwise_cons.1 hr).2 fun x hx=>hg x (by simp[hx]);by_cases h:rowsF g.r key<0
  ·rw[hasG_cons h,placeG_cons,if_pos h]
   refine⟨fun x hx=> ?_,fun h2=> ?_,fun h2 x hx=> ?_⟩
   ·rw[List.take_succ_cons]at hx
    rcases List.mem_cons.1 hx with rfl|hx
    ·exact h
    ·exact ih.1 x hx
   ·obtain⟨y,h3,h4,h5⟩:=ih.2.1 h2
    exact⟨y,by rw[List.getElem?_cons_succ];exact h3,h4,fun x hx=>h5 x (by simpa using hx)⟩
   ·exact ih.2.2 h2 x (by simpa using hx)
  ·have hp:placeG (g::G) key=0:=by rw[placeG_cons,if_neg h]
   have hh:hasG (g::G) key=(rowsF g.r key==0):=by unfold hasG;rw[hp];rfl
   rw[hh,hp];have hgr:=hg g (by simp);refine⟨fun x hx=>by simp at hx,fun h2=>⟨g,rfl,(rowsF_zero hgr hk).1 (by simpa using h2),fun x hx=> ?_⟩,fun h2 x hx=> ?_⟩
   ·have e:=(rowsF_zero hgr hk).1 (by simpa using h2)
    have hx:x∈G:=by simpa using hx
    have h3:=(List.pairwise_cons.1 hr).1 x hx;rw[e]at h3;rw[rowsF_flip hk (hg x (by simp[hx]))];omega
   ·have h2:rowsF g.r key≠0:=by simpa using h2
    rw[List.drop_zero]at hx;rcases List.mem_cons.1 hx with rfl|hx
    ·omega
    ·have h3:=(List.pairwise_cons.1 hr).1 x hx
     have h4:rowsF key g.r<0:=by rw[rowsF_flip hgr hk];omega
     have h5:=rowsF_trans hk hgr (hg x (by simp[hx])) h4 h3;rw[rowsF_flip hk (hg x (by simp[hx]))];omega
theorem pair_put {L1 L2:List Gp}{g:Gp}(h1:L1.Pairwise fun a b=>rowsF a.r b.r<0)(h2:L2.Pairwise fun a b=>rowsF a.r b.r<0)(hg: ∀x∈L1++g::L2,GoodR x.r)(ha: ∀x∈L1,rowsF x.r g.r<0)(hb: ∀x∈L2,0<rowsF x.r g.r):
 (L1++g::L2).Pairwise fun a b=>rowsF a.r b.r<0:=by
 have gg:=hg g (by simp)
 have hb': ∀x∈L2,rowsF g.r x.r<0:=fun x hx=>by
  have:=hb x hx;rw[rowsF_flip (hg x (by simp[hx])) gg];omega
 refine List.pairwise_append.2 ⟨h1,List.pairwise_cons.2 ⟨hb',h2⟩,fun x hx y hy=> ?_⟩;rcases List.mem_cons.1 hy with rfl|hy
 ·exact ha x hx
 ·exact rowsF_trans (hg x (by simp[hx])) gg (hg y (by simp[hy])) (ha x hx) (hb' y hy)
structure TypedG (p:Pl) (r:List Val):Prop where
 good:GoodR r
 len:r.length=(allT p).length
 fit:allB fitOne ((allT p).zip r)=true
theorem typed_at {p:Pl}{r:List Val}(h:TypedG p r){c:Int}(h0:0≤c)(h1:c<(allT p).length): ∃x,r[c.toNat]?=some x∧(x.k=0∨x.k=(allT p).getD c.toNat 0):=by
 have hl:c.toNat<r.length:=by have:=h.len;omega
 have hl2:c.toNat<(allT p).length:=by omega
 refine⟨r[c.toNat],List.getElem?_eq_getElem hl,?_⟩;have h2:=List.all_eq_true.1 h.fit ((allT p)[c.toNat],r[c.toNat]) (List.mem_iff_getElem?.2 ⟨c.toNat,by rw[List.getElem?_zip_eq_some];exact⟨List.getElem?_eq_getElem hl2,List.getElem?_eq_getElem hl⟩⟩);unfold fitOne at h2;rw[Bool.or_eq_true,beq_iff_eq,beq_iff_eq]at h2;simpa[List.getD,hl2]using h2
theorem group_few {p:Pl}(hp:checkP p=0)(hg:p.grouped=true):p.group.length+p.aggs.length≤8∧1≤p.aggs.length∧p.aggs.length≤4:=by
 have h:=(check_ok hp).2.2.1;unfold countsB at h;rw[Bool.and_eq_true,if_pos hg,Bool.and_eq_true]at h;have h1:=btw_of h.2.1;have h2:=of_decide_eq_true h.2.2;omega
theorem cells_good {p:Pl}{r:List Val}(hp:checkP p=0)(hg:p.grouped=true)(h:TypedG p r):GoodR (cellsG p r)∧(cellsG p r).length=(ownT p).length∧((ownT p).zip (cellsG p r)).all fitOne=true:=by
 have hgr:=form_group (check_ok hp).2.2.2.2
 have hx: ∀c∈p.group,∃x,r[c.toNat]?=some x∧r.getD c.toNat nullG=x∧(x.k=0∨x.k=(allT p).getD c.toNat 0):=fun c hc=>by
  obtain⟨x,h1,h2⟩:=typed_at h (hgr c hc).1 (hgr c hc).2;exact⟨x,h1,by simp[List.getD,h1],h2⟩
 refine⟨⟨fun y hy=> ?_,?_⟩,by simp[cellsG,ownT],?_⟩
 ·obtain⟨c,hc,rfl⟩:=List.mem_map.1 hy
  obtain⟨x,h1,h2,-⟩:=hx c hc;rw[h2];exact h.good.good x (List.mem_of_getElem? h1)
 ·have:=group_few hp hg
  simp only[cellsG,List.length_map];omega
 ·rw[List.all_eq_true]
  intro q hq;unfold cellsG ownT at hq;rw[List.zip_map']at hq;obtain⟨c,hc,rfl⟩:=List.mem_map.1 hq;obtain⟨x,-,h2,h3⟩:=hx c hc;unfold fitOne;rw[h2,Bool.or_eq_true,beq_iff_eq,beq_iff_eq];exact h3
theorem aggs_at {p:Pl}{r:List Val}(hp:checkP p=0)(h:TypedG p r): ∀a∈p.aggs,a.1≠1→ ∃x,r[a.2.toNat]?=some x∧(x.k=0∨x.k=(allT p).getD a.2.toNat 0):=fun a ha h1=>
 have:=form_aggs (check_ok hp).2.2.2.2 a ha h1
 typed_at h this.1 this.2
theorem bags_none (p:Pl):(gp0 p []).bags.length=p.aggs.length∧ ∀q∈p.aggs.zip (gp0 p []).bags,BagOk p q.1 0 q.2:=by
 refine⟨by simp[gp0],fun q hq=> ?_⟩
 have:q.2=[]:=by
  have h1:=(List.of_mem_zip hq).2;unfold gp0 at h1;obtain⟨a,-,e⟩:=List.mem_map.1 h1;exact e.symm
 unfold BagOk;rw[this];by_cases h:q.1.1=1
 ·exact .inl ⟨h,rfl⟩
 ·exact .inr ⟨h,⟨nofun,.nil⟩,by simp[sumT]⟩
theorem turn_good {p:Pl}{G:List Gp}{c:Int×List Val}(hp:checkP p=0)(hg:p.grouped=true)(hG:GoodGs p G)(hc:TypedG p c.2)(h0:(turnG p G c).2=0):GoodGs p (turnG p G c).1:=by
 obtain⟨k1,k2,k3⟩:=cells_good hp hg hc;have hn:=stepI_two c.1;have hrow: ∀x∈c.2,GoodR [x]:=fun x hx=>good_at hc.good hx;obtain⟨s1,s2,s3⟩:=place_split hG.rise (fun g hg=>(hG.each g hg).row) k1;have hle:=placeG_le G (cellsG p c.2);unfold turnG at h0⊢;generalize cellsG p c.2=key at h0⊢k1 k2 k3 s1 s2 s3 hle;generalize placeG G key=i at h0⊢s1 s2 s3 hle
 have hfull: ∀L2:List Gp,(∀x∈L2,x∈G)→L2.Pairwise (fun a b=>rowsF a.r b.r<0)→(∀x∈L2,0<rowsF x.r key)→ ∀g':Gp,GoodG1 p g'→g'.r=key→(G.take i++g'::L2).length≤4096→GoodGs p (G.take i++g'::L2):=by
  intro L2 hm hr2 hb g' hg' er hlen
  have hall: ∀x∈G.take i++g'::L2,GoodG1 p x:=fun x hx=>by
   rcases List.mem_append.1 hx with hx|hx
   ·exact hG.each x (List.mem_of_mem_take hx)
   ·rcases List.mem_cons.1 hx with rfl|hx
    ·exact hg'
    ·exact hG.each x (hm x hx)
  exact⟨hlen,hall,pair_put (hG.rise.sublist (List.take_sublist i G)) hr2 (fun x hx=>(hall x hx).row) (by rw[er];exact s1) (by rw[er];exact hb)⟩
 cases hh:hasG G key with
 |true=>
  obtain⟨g,e1,e2,e3⟩:=s2 hh;have hi:=(List.getElem?_eq_some_iff.1 e1).1;have eg:G.getD i (gp0 p [])=g:=by simp[List.getD,e1]
  have hgm:g∈G:=List.mem_of_getElem? e1;have gg:=hG.each g hgm;rw[hh]at h0 s2;rw[if_pos rfl,eg]at h0⊢;by_cases h1:0<stepI c.1∧g.n=1073741824
  ·rw[if_pos h1]at h0;cases h0
  ·rw[if_neg h1]at h0⊢
   by_cases h2:(bagsG c.2 (stepI c.1) p.aggs g.bags).2=true
   ·rw[if_pos h2]
    obtain⟨b1,b2⟩:=bags_good hrow hn gg.bl (aggs_at hp hc) gg.bags h2;have hnum:=gg.num;by_cases h3:g.n+stepI c.1=0
    ·rw[if_pos h3]
     show GoodGs p (G.take i++G.drop (i+1))
     have hsub:(G.take i++G.drop (i+1)).Sublist G:=by
      conv=>rhs;rw[←List.take_append_drop i G]
      exact List.Sublist.append (List.Sublist.refl _) (by rw[←List.drop_drop];exact List.drop_sublist 1 _)
     exact⟨Nat.le_trans hsub.length_le hG.few,fun x hx=>hG.each x (hsub.mem hx),hG.rise.sublist hsub⟩
    ·rw[if_neg h3]
     show GoodGs p (G.take i++_::G.drop (i+1));refine hfull _ (fun x hx=>List.mem_of_mem_drop hx) (hG.rise.sublist (List.drop_sublist _ _)) e3 ⟨g.r,g.n+stepI c.1,(bagsG c.2 (stepI c.1) p.aggs g.bags).1⟩ ⟨gg.row,gg.len,gg.fit,?_,b1,b2⟩ e2 ?_
     ·show 1≤g.n+stepI c.1∧g.n+stepI c.1≤1073741824
      rcases hn with hn|hn<;>rw[hn]at h1 h3⊢ <;>omega
     ·have:=hG.few
      simp only[List.length_append,List.length_take,List.length_cons,List.length_drop];omega
   ·rw[if_neg h2]at h0;cases h0
 |false=>
  rw[hh]at h0;rw[if_neg (by simp)]at h0⊢;by_cases h1:stepI c.1<0
  ·rw[if_pos h1]at h0;cases h0
  ·rw[if_neg h1]at h0⊢
   by_cases h2:G.length=4096
   ·rw[if_pos h2]at h0;cases h0
   ·rw[if_neg h2]at h0⊢
    by_cases h3:(bagsG c.2 (stepI c.1) p.aggs (gp0 p []).bags).2=true
    ·rw[if_pos h3]
     obtain⟨b0,b00⟩:=bags_none p;obtain⟨b1,b2⟩:=bags_good hrow hn b0 (aggs_at hp hc) b00 h3;have hn1:stepI c.1=1:=by omega
     refine hfull _ (fun x hx=>List.mem_of_mem_drop hx) (hG.rise.sublist (List.drop_sublist _ _)) (s3 hh) ⟨key,stepI c.1,_⟩ ⟨k1,k2,k3,?_,b1,?_⟩ rfl ?_
     ·show 1≤stepI c.1∧stepI c.1≤1073741824
      omega
     ·intro q hq
      have:=b2 q hq;rw[Int.zero_add]at this;exact this
     ·have:=hG.few
      simp only[List.length_append,List.length_take,List.length_cons,List.length_drop];omega
    ·rw[if_neg h3]at h0;cases h0
end Go.Proofs.YtjhbeecmdgglgaaGreatDoor
