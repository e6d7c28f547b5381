/-Plain law of groups: figures, as the reference counts them; what is told of changed groups, row by row. Plain law of groups: their rows are good; the  -/
import Derived.Test.YtjhbeecmdgglgaaGreatDoorGrpV11
import Derived.Test.YtjhbeecmdgglgaaGreatDoorGrpV9
import Derived.Test.YtjhbeecmdgglgaaGreatDoorGrpV1
import Derived.SizedLaws
import Derived.Deep.Fields
import Derived.Test.YtjhbeecmdgglgaaGreatDoorGrpV6
import Derived.Test.YtjhbeecmdgglgaaGreatDoorGrpV10
set_option linter.unusedSimpArgs false
set_option linter.unusedVariables false
namespace Go.Proofs.YtjhbeecmdgglgaaGreatDoor
open Go.Lib (compareBytes)
def stepF (fn:Int) (out:Val) (q:Val×Int):Val:=
 if q.1.k=0 then out else if fn=2 then⟨2,wrapI (out.n+wrapI (q.1.n*q.2)),⟨#[]⟩⟩else if out.k=0∨(fn=3∧cmpV q.1 out<0)∨(fn=4∧0<cmpV q.1 out)then q.1 else out
def cntF (n:Int) (q:Val×Int):Int:=wrapI (n+q.2)
def figF (fn:Int) (l:List (Val×Int)):Val:=if fn=1 then⟨2,l.foldl cntF 0,⟨#[]⟩⟩else l.foldl (stepF fn) nullG
def tls (bag:List Tl):List (Val×Int):=bag.map fun x=>(x.v,x.n)
theorem null_of {x:Val}(h:GoodR [x])(hk:x.k=0):x=nullG:=by
 have h1:=good_check h;unfold checkV at h1;rw[if_pos hk]at h1;split at h1
 ·cases h1
 ·rename_i h2
  obtain⟨k,n,s⟩:=x;simp only[not_or,Decidable.not_not]at h2
  have hs:s.toList=[]:=by
   have:=h2.2;simpa using this
  have hs2:s=⟨#[]⟩:=by rw[←str_of s,hs];rfl
  simp only at hk;rw[hk,h2.1,hs2];rfl
theorem kind_less {x y:Val}(hx:GoodR [x])(hk:x.k=0)(hy:y.k≠0)(hyk:GoodR [y]):cmpV x y<0:=by
 have h1:0≤y.k:=by
  have h:=good_check hyk;unfold checkV at h;split at h
  ·omega
  ·split at h
   ·omega
   ·split at h
    ·omega
    ·split at h<;>omega
 unfold cmpV ordI;rw[hk,if_pos (by omega)];rw[firstNZ_hit (k:=0) (n:= -1) (by simp) rfl (by omega)];omega
theorem solid_cons (x:Tl)(l:List Tl):solid (x::l)=if x.v.k=0 then l else x::l:=rfl
theorem fold_solid {fn:Int}(hfn:fn≠1){t:Int}{bag:List Tl}(h:GoodT t bag):figF fn (tls bag)=figF fn (tls (solid bag))∧(∀x∈solid bag,x.v.k≠0)∧GoodT t (solid bag):=by
 cases bag with
 |nil=>exact⟨rfl,nofun,h⟩
 |cons x l=>
  have hl:GoodT t l:=⟨fun y hy=>h.vals y (by simp[hy]),(List.pairwise_cons.1 h.rise).2⟩;have hx:=h.vals x (by simp);have hxl:=(List.pairwise_cons.1 h.rise).1
  have hne: ∀y∈l,y.v.k≠0:=fun y hy hk=>by
   have hy1:=(hl.vals y hy).1;have e:=hxl y hy;by_cases hxk:x.v.k=0
   ·have:cmpV x.v y.v=0:=(cmpV_zero hx.1 hy1).2 (by rw[null_of hx.1 hxk,null_of hy1 hk])
    omega
   ·have h1:=kind_less hy1 hk hxk hx.1
    rw[cmpV_flip hx.1 hy1]at h1;omega
  rw[solid_cons];by_cases hxk:x.v.k=0
  ·rw[if_pos hxk]
   refine⟨?_,hne,hl⟩;unfold figF;rw[if_neg hfn,if_neg hfn];show(tls l).foldl (stepF fn) (stepF fn nullG (x.v,x.n))=_;unfold stepF;rw[if_pos hxk]
  ·rw[if_neg hxk]
   refine⟨rfl,fun y hy=> ?_,h⟩;rcases List.mem_cons.1 hy with rfl|hy
   ·exact hxk
   ·exact hne y hy
theorem fold_sum {bag:List Tl}(h: ∀x∈bag,x.v.k≠0): ∀s:Val,s.k=2→s.s=⟨#[]⟩→(tls bag).foldl (stepF 2) s=⟨2,bag.foldl (fun s x=>wrapI (s+wrapI (x.v.n*x.n))) s.n,⟨#[]⟩⟩:=by
 induction bag with
 |nil=>rintro⟨k,n,s⟩ h1 h2;simp only at h1 h2;rw[h1,h2];rfl
 |cons x l ih=>
  intro s h1 h2;show(tls l).foldl (stepF 2) (stepF 2 s (x.v,x.n))=_
  have e:stepF 2 s (x.v,x.n)=⟨2,wrapI (s.n+wrapI (x.v.n*x.n)),⟨#[]⟩⟩:=by
   unfold stepF;rw[if_neg (h x (by simp)),if_pos rfl]
  rw[e,ih (fun y hy=>h y (by simp[hy])) _ rfl rfl];rfl
theorem fold_min {bag:List Tl}(h: ∀x∈bag,x.v.k≠0)(s:Val)(hs:s.k≠0)(hm: ∀x∈bag,¬cmpV x.v s<0):(tls bag).foldl (stepF 3) s=s:=by
 induction bag with
 |nil=>rfl
 |cons x l ih=>
  show(tls l).foldl (stepF 3) (stepF 3 s (x.v,x.n))=_
  have e:stepF 3 s (x.v,x.n)=s:=by
   unfold stepF;rw[if_neg (h x (by simp)),if_neg (by decide),if_neg];rintro(h1|⟨-,h1⟩|⟨h1,-⟩)
   ·exact hs h1
   ·exact hm x (by simp) h1
   ·exact absurd h1 (by decide)
  rw[e];exact ih (fun y hy=>h y (by simp[hy])) (fun y hy=>hm y (by simp[hy]))
theorem fold_max {bag:List Tl}(h: ∀x∈bag,x.v.k≠0)(hr:bag.Pairwise fun a b=>cmpV a.v b.v<0)(hg: ∀x∈bag,GoodR [x.v])(s:Val)(gs:GoodR [s])(hs:s.k≠0)(hm: ∀x∈bag,cmpV s x.v<0):(tls bag).foldl (stepF 4) s=((bag.map (·.v)).getLast?).getD s:=by
 induction bag generalizing s with
 |nil=>rfl
 |cons x l ih=>
  show(tls l).foldl (stepF 4) (stepF 4 s (x.v,x.n))=_
  have e:stepF 4 s (x.v,x.n)=x.v:=by
   unfold stepF;rw[if_neg (h x (by simp)),if_neg (by decide),if_pos];refine .inr (.inr ⟨rfl,?_⟩);have:=hm x (by simp);rw[cmpV_flip gs (hg x (by simp))];show 0< -cmpV s x.v;omega
  rw[e,ih (fun y hy=>h y (by simp[hy])) (List.pairwise_cons.1 hr).2 (fun y hy=>hg y (by simp[hy])) x.v (hg x (by simp)) (h x (by simp)) (fun y hy=>(List.pairwise_cons.1 hr).1 y hy)];cases l with
  |nil=>rfl
  |cons y l=>simp[List.getLast?_cons_cons,List.getLast?_cons]
theorem fig_eq {fn n t:Int}(hfn:fn=1∨fn=2∨fn=3∨fn=4){bag:List Tl}(h:fn≠1→GoodT t bag):figG fn n bag=if fn=1 then⟨2,n,⟨#[]⟩⟩else figF fn (tls bag):=by
 unfold figG;by_cases h1:fn=1
 ·rw[if_pos h1,if_pos h1]
 ·rw[if_neg h1,if_neg h1]
  obtain⟨e,hne,hg⟩:=fold_solid h1 (h h1);rw[e];unfold figF;rw[if_neg h1];generalize solid bag=b at hne hg⊢;cases b with
  |nil=>rfl
  |cons x l=>
   have hx:=hne x (by simp);have gx:=(hg.vals x (by simp)).1;show _=(tls l).foldl (stepF fn) (stepF fn nullG (x.v,x.n));rcases hfn with h2|h2|h2|h2
   ·exact absurd h2 h1
   ·subst h2
    have e:stepF 2 nullG (x.v,x.n)=⟨2,wrapI (0+wrapI (x.v.n*x.n)),⟨#[]⟩⟩:=by
     unfold stepF;rw[if_neg hx,if_pos rfl];rfl
    rw[e,fold_sum (fun y hy=>hne y (by simp[hy])) _ rfl rfl];rfl
   ·subst h2
    have e:stepF 3 nullG (x.v,x.n)=x.v:=by
     unfold stepF;rw[if_neg hx,if_neg (by decide),if_pos (.inl rfl)]
    rw[e,fold_min (fun y hy=>hne y (by simp[hy])) _ hx fun y hy=> ?_]
    ·rfl
    ·have:=(List.pairwise_cons.1 hg.rise).1 y hy
     rw[cmpV_flip gx (hg.vals y (by simp[hy])).1];omega
   ·subst h2
    have e:stepF 4 nullG (x.v,x.n)=x.v:=by
     unfold stepF;rw[if_neg hx,if_neg (by decide),if_pos (.inl rfl)]
    rw[e,fold_max (fun y hy=>hne y (by simp[hy])) (List.pairwise_cons.1 hg.rise).2 (fun y hy=>(hg.vals y (by simp[hy])).1) _ gx hx (fun y hy=>(List.pairwise_cons.1 hg.rise).1 y hy)];show((x::l).getLast _).v=_;cases l with
    |nil=>rfl
    |cons y l=>
     rw[List.getLast_cons (by simp)];rw[List.map_cons,List.getLast?_eq_some_getLast (by simp)];exact(List.getLast_map (f:=fun x:Tl=>x.v) (l:=y::l) (by simp)).symm
theorem fm_congr {α β:Type}{f g:α→List β}: ∀ {l:List α},(∀a∈l,f a=g a)→l.flatMap f=l.flatMap g
 |[],_=>rfl
 |a::l,h=>by rw[List.flatMap_cons,List.flatMap_cons,h a (by simp),fm_congr fun b hb=>h b (by simp[hb])]
def findG (G:List Gp) (r:List Val):Option Gp:=G.find? fun g=>rowsF g.r r==0
def tellR (p:Pl):Option Gp→Option Gp→List (Int×List Val)
 |none,none=>[]
 |none,some b=>[(1,rowG p b)]
 |some a,none=>[(2,rowG p a)]
 |some a,some b=>tellG p a b
structure RowsG (G:List Gp):Prop where
 good: ∀g∈G,GoodR g.r
 rise:G.Pairwise fun a b=>rowsF a.r b.r<0
theorem RowsG.tail {g:Gp}{G:List Gp}(h:RowsG (g::G)):RowsG G:=⟨fun x hx=>h.good x (by simp[hx]),(List.pairwise_cons.1 h.rise).2⟩
theorem RowsG.less {g:Gp}{G:List Gp}(h:RowsG (g::G)){x:Gp}(hx:x∈G):rowsF g.r x.r<0:=(List.pairwise_cons.1 h.rise).1 x hx
theorem find_head {g:Gp}{G:List Gp}(h:RowsG (g::G)):findG (g::G) g.r=some g:=by
 unfold findG;rw[List.find?_cons,rowsF_self (h.good g (by simp))];rfl
theorem find_tail {g:Gp}{G:List Gp}{r:List Val}(h:rowsF g.r r<0):findG (g::G) r=findG G r:=by
 unfold findG;rw[List.find?_cons];have:(rowsF g.r r==0)=false:=by simp;omega
 rw[this]
theorem find_low {G:List Gp}{r:List Val}(h: ∀g∈G,0<rowsF g.r r):findG G r=none:=by
 unfold findG;rw[List.find?_eq_none];intro g hg;have:=h g hg;simp;omega
structure Union (G H:List Gp) (U:List (List Val)):Prop where
 rise:U.Pairwise fun a b=>rowsF a b<0
 mem: ∀r,r∈U↔(∃g∈G,g.r=r)∨ ∃g∈H,g.r=r
theorem Union.good {G H:List Gp}{U:List (List Val)}(h:Union G H U)(hG:RowsG G)(hH:RowsG H){r:List Val}(hr:r∈U):GoodR r:=by
 rcases(h.mem r).1 hr with⟨g,hg,rfl⟩|⟨g,hg,rfl⟩
 ·exact hG.good g hg
 ·exact hH.good g hg
theorem rise_ext: ∀ {U V:List (List Val)},(∀r∈U,GoodR r)→(∀r∈V,GoodR r)→U.Pairwise (fun a b=>rowsF a b<0)→V.Pairwise (fun a b=>rowsF a b<0)→(∀r,r∈U↔r∈V)→U=V
 |[],[],_,_,_,_,_=>rfl
 |[],v::V,_,_,_,_,h=>by have:=(h v).2 (by simp);cases this
 |u::U,[],_,_,_,_,h=>by have:=(h u).1 (by simp);cases this
 |u::U,v::V,gU,gV,hU,hV,h=>by
  have gu:=gU u (by simp);have gv:=gV v (by simp)
  have e:u=v:=by
   rcases List.mem_cons.1 ((h u).1 (by simp))with e|h1
   ·exact e
   ·rcases List.mem_cons.1 ((h v).2 (by simp))with e|h2
    ·exact e.symm
    ·have a1:=(List.pairwise_cons.1 hV).1 u h1
     have a2:=(List.pairwise_cons.1 hU).1 v h2;rw[rowsF_flip gu gv]at a1;omega
  subst e
  have notin: ∀ {L:List (List Val)},(∀x∈L,rowsF u x<0)→u∉L:=fun hL hm=>by
   have:=hL u hm;rw[rowsF_self gu]at this;omega
  rw[rise_ext (fun r hr=>gU r (by simp[hr])) (fun r hr=>gV r (by simp[hr])) (List.pairwise_cons.1 hU).2 (List.pairwise_cons.1 hV).2 fun r=> ?_];constructor
  ·intro hr
   rcases List.mem_cons.1 ((h r).1 (by simp[hr]))with rfl|h1
   ·exact absurd hr (notin (List.pairwise_cons.1 hU).1)
   ·exact h1
  ·intro hr
   rcases List.mem_cons.1 ((h r).2 (by simp[hr]))with rfl|h1
   ·exact absurd hr (notin (List.pairwise_cons.1 hV).1)
   ·exact h1
def mergeR:List Gp→List Gp→List (List Val)
 |[],H=>H.map (·.r)
 |a::G,[]=>a.r::mergeR G []
 |a::G,b::H=>if rowsF a.r b.r<0 then a.r::mergeR G (b::H)else if 0<rowsF a.r b.r then b.r::mergeR (a::G) H else a.r::mergeR G H
termination_by G H=>G.length+H.length
theorem mergeG_mem (G H:List Gp)(hG:RowsG G)(hH:RowsG H): ∀r,r∈mergeR G H↔(∃g∈G,g.r=r)∨ ∃g∈H,g.r=r:=by
 induction G,H using mergeR.induct with
 |case1 H=>intro r;unfold mergeR;simp
 |case2 a G ih=>intro r;unfold mergeR;simp[ih hG.tail hH,eq_comm]
 |case3 a G b H h1 ih=>intro r;unfold mergeR;rw[if_pos h1];simp[ih hG.tail hH,eq_comm,or_assoc]
 |case4 a G b H h1 h2 ih=>intro r;unfold mergeR;rw[if_neg h1,if_pos h2];simp[ih hG hH.tail,eq_comm,or_left_comm]
 |case5 a G b H h1 h2 ih=>
  intro r;unfold mergeR;have e:=(rowsF_zero (hG.good a (by simp)) (hH.good b (by simp))).1 (by omega);rw[if_neg h1,if_neg h2];rw[List.mem_cons,ih hG.tail hH.tail];constructor
  ·rintro(rfl|⟨g,hg,h⟩|⟨g,hg,h⟩)
   ·exact .inl ⟨a,by simp,rfl⟩
   ·exact .inl ⟨g,by simp[hg],h⟩
   ·exact .inr ⟨g,by simp[hg],h⟩
  ·rintro(⟨g,hg,h⟩|⟨g,hg,h⟩)
   ·rcases List.mem_cons.1 hg with rfl|hg
    ·exact .inl h.symm
    ·exact .inr (.inl ⟨g,hg,h⟩)
   ·rcases List.mem_cons.1 hg with rfl|hg
    ·exact .inl (by rw[e];exact h.symm)
    ·exact .inr (.inr ⟨g,hg,h⟩)
theorem merge_rise (G H:List Gp)(hG:RowsG G)(hH:RowsG H):(mergeR G H).Pairwise fun a b=>rowsF a b<0:=by
 induction G,H using mergeR.induct with
 |case1 H=>unfold mergeR;rw[List.pairwise_map];exact hH.rise
 |case2 a G ih=>
  unfold mergeR;refine List.pairwise_cons.2 ⟨fun r hr=> ?_,ih hG.tail hH⟩;rcases(mergeG_mem _ _ hG.tail hH r).1 hr with⟨g,hg,rfl⟩|⟨g,hg,rfl⟩
  ·exact hG.less hg
  ·cases hg
 |case3 a G b H h1 ih=>
  unfold mergeR;rw[if_pos h1];refine List.pairwise_cons.2 ⟨fun r hr=> ?_,ih hG.tail hH⟩;rcases(mergeG_mem _ _ hG.tail hH r).1 hr with⟨g,hg,rfl⟩|⟨g,hg,rfl⟩
  ·exact hG.less hg
  ·rcases List.mem_cons.1 hg with rfl|hg
   ·exact h1
   ·exact rowsF_trans (hG.good a (by simp)) (hH.good b (by simp)) (hH.good g (by simp[hg])) h1 (hH.less hg)
 |case4 a G b H h1 h2 ih=>
  unfold mergeR;rw[if_neg h1,if_pos h2];have h3:rowsF b.r a.r<0:=by rw[rowsF_flip (hG.good a (by simp)) (hH.good b (by simp))];omega
  refine List.pairwise_cons.2 ⟨fun r hr=> ?_,ih hG hH.tail⟩;rcases(mergeG_mem _ _ hG hH.tail r).1 hr with⟨g,hg,rfl⟩|⟨g,hg,rfl⟩
  ·rcases List.mem_cons.1 hg with rfl|hg
   ·exact h3
   ·exact rowsF_trans (hH.good b (by simp)) (hG.good a (by simp)) (hG.good g (by simp[hg])) h3 (hG.less hg)
  ·exact hH.less hg
 |case5 a G b H h1 h2 ih=>
  unfold mergeR;rw[if_neg h1,if_neg h2];have e:=(rowsF_zero (hG.good a (by simp)) (hH.good b (by simp))).1 (by omega);refine List.pairwise_cons.2 ⟨fun r hr=> ?_,ih hG.tail hH.tail⟩;rcases(mergeG_mem _ _ hG.tail hH.tail r).1 hr with⟨g,hg,rfl⟩|⟨g,hg,rfl⟩
  ·exact hG.less hg
  ·rw[e];exact hH.less hg
theorem union_merge {G H:List Gp}(hG:RowsG G)(hH:RowsG H){U:List (List Val)}(h:Union G H U):U=mergeR G H:=
 rise_ext (fun r hr=>h.good hG hH hr) (fun r hr=>by
  rcases(mergeG_mem G H hG hH r).1 hr with⟨g,hg,rfl⟩|⟨g,hg,rfl⟩
  ·exact hG.good g hg
  ·exact hH.good g hg) h.rise (merge_rise G H hG hH) fun r=>by rw[h.mem,mergeG_mem G H hG hH]
theorem gt_of {a b:List Val}(ha:GoodR a)(hb:GoodR b)(h:rowsF a b<0):0<rowsF b a:=by rw[rowsF_flip ha hb];omega
theorem changed_merge (p:Pl)(G H:List Gp)(hG:RowsG G)(hH:RowsG H):changedG p G H=(mergeR G H).flatMap fun r=>tellR p (findG G r) (findG H r):=by
 induction G,H using mergeR.induct with
 |case1 H=>
  unfold mergeR
  induction H with
  |nil=>simp[changedG]
  |cons b H ih=>
   rw[changedG,ih hH.tail,List.map_cons,List.flatMap_cons,find_head hH];show _::_=[_]++_;rw[List.singleton_append]
   congr 1
   refine fm_congr fun r hr=> ?_;obtain⟨g,hg,rfl⟩:=List.mem_map.1 hr;rw[find_tail (hH.less hg)]
 |case2 a G ih=>
  rw[changedG,ih hG.tail hH,mergeR,List.flatMap_cons,find_head hG];show _::_=[_]++_;rw[List.singleton_append]
  congr 1
  refine fm_congr fun r hr=> ?_;rcases(mergeG_mem _ _ hG.tail hH r).1 hr with⟨g,hg,rfl⟩|⟨g,hg,rfl⟩
  ·rw[find_tail (hG.less hg)]
  ·cases hg
 |case3 a G b H h1 ih=>
  have ga:=hG.good a (by simp);have gb:=hH.good b (by simp)
  have hlow: ∀g∈b::H,rowsF a.r g.r<0:=fun g hg=>by
   rcases List.mem_cons.1 hg with rfl|hg
   ·exact h1
   ·exact rowsF_trans ga gb (hH.good g (by simp[hg])) h1 (hH.less hg)
  rw[changedG,if_pos h1,ih hG.tail hH,mergeR,if_pos h1,List.flatMap_cons,find_head hG,find_low (G:=b::H) fun g hg=>gt_of ga (hH.good g hg) (hlow g hg)];show _::_=[_]++_;rw[List.singleton_append]
  congr 1
  refine fm_congr fun r hr=> ?_;rcases(mergeG_mem _ _ hG.tail hH r).1 hr with⟨g,hg,rfl⟩|⟨g,hg,rfl⟩
  ·rw[find_tail (hG.less hg)]
  ·rw[find_tail (hlow g hg)]
 |case4 a G b H h1 h2 ih=>
  have ga:=hG.good a (by simp);have gb:=hH.good b (by simp);have h3:rowsF b.r a.r<0:=by rw[rowsF_flip ga gb];omega
  have hlow: ∀g∈a::G,rowsF b.r g.r<0:=fun g hg=>by
   rcases List.mem_cons.1 hg with rfl|hg
   ·exact h3
   ·exact rowsF_trans gb ga (hG.good g (by simp[hg])) h3 (hG.less hg)
  rw[changedG,if_neg h1,if_pos h2,ih hG hH.tail,mergeR,if_neg h1,if_pos h2,List.flatMap_cons,find_head hH,find_low (G:=a::G) fun g hg=>gt_of gb (hG.good g hg) (hlow g hg)];show _::_=[_]++_;rw[List.singleton_append]
  congr 1
  refine fm_congr fun r hr=> ?_;rcases(mergeG_mem _ _ hG hH.tail r).1 hr with⟨g,hg,rfl⟩|⟨g,hg,rfl⟩
  ·rw[find_tail (G:=H) (hlow g hg)]
  ·rw[find_tail (hH.less hg)]
 |case5 a G b H h1 h2 ih=>
  have e:=(rowsF_zero (hG.good a (by simp)) (hH.good b (by simp))).1 (by omega);rw[changedG,if_neg h1,if_neg h2,ih hG.tail hH.tail,mergeR,if_neg h1,if_neg h2,List.flatMap_cons,find_head hG,e,find_head hH];show _++_=tellG p a b++_
  congr 1
  refine fm_congr fun r hr=> ?_;rcases(mergeG_mem _ _ hG.tail hH.tail r).1 hr with⟨g,hg,rfl⟩|⟨g,hg,rfl⟩
  ·rw[find_tail (hG.less hg),find_tail (by rw[←e];exact hG.less hg)]
  ·rw[find_tail (hH.less hg),find_tail (by rw[e];exact hH.less hg)]
theorem changed_union (p:Pl){G H:List Gp}(hG:RowsG G)(hH:RowsG H){U:List (List Val)}(h:Union G H U):changedG p G H=U.flatMap fun r=>tellR p (findG G r) (findG H r):=by
 rw[union_merge hG hH h];exact changed_merge p G H hG hH
end Go.Proofs.YtjhbeecmdgglgaaGreatDoor
namespace Go.Proofs.YtjhbeecmdgglgaaGreatDoor
theorem wrapI_range (n:Int): -9223372036854775808≤wrapI n∧wrapI n≤9223372036854775807:=by
 unfold wrapI;rw[IntKind.wrap_i64];omega
theorem int_good {n:Int}(h: -9223372036854775808≤n∧n≤9223372036854775807):GoodR [(⟨2,n,⟨#[]⟩⟩:Val)]:=⟨fun x hx=>by
 rw[List.mem_singleton.1 hx];exact⟨by unfold checkV;simp[ByteArray.toList_eq],h⟩,by simp⟩
theorem null_good:GoodR [nullG]:=⟨fun x hx=>by
 rw[List.mem_singleton.1 hx];exact⟨by unfold checkV nullG;simp[ByteArray.toList_eq],by unfold nullG;simp⟩,by simp⟩
theorem sum_range (l:List Tl): ∀s:Int,(-9223372036854775808≤s∧s≤9223372036854775807)→ -9223372036854775808≤l.foldl (fun s x=>wrapI (s+wrapI (x.v.n*x.n))) s∧l.foldl (fun s x=>wrapI (s+wrapI (x.v.n*x.n))) s≤9223372036854775807:=by
 induction l with
 |nil=>intro s h;exact h
 |cons x l ih=>intro s _;exact ih _ (wrapI_range _)
theorem fig_good {fn n:Int}{bag:List Tl}(hn: -9223372036854775808≤n∧n≤9223372036854775807)(h: ∀x∈bag,GoodR [x.v]):GoodR [figG fn n bag]:=by
 unfold figG;by_cases h1:fn=1
 ·rw[if_pos h1];exact int_good hn
 ·rw[if_neg h1]
  have hs: ∀x∈solid bag,GoodR [x.v]:=by
   cases bag with
   |nil=>exact h
   |cons x l=>
    rw[solid_cons];split
    ·exact fun y hy=>h y (by simp[hy])
    ·exact h
  generalize solid bag=sb at hs;cases sb with
  |nil=>exact null_good
  |cons x l=>
   simp only;by_cases h3:fn=3
   ·rw[if_pos h3];exact hs x (by simp)
   ·rw[if_neg h3]
    by_cases h4:fn=4
    ·rw[if_pos h4];exact hs _ (List.getLast_mem _)
    ·rw[if_neg h4];exact int_good (sum_range _ 0 (by omega))
theorem bag_vals {p:Pl}{a:Int×Int}{n:Int}{b:List Tl}(h:BagOk p a n b): ∀x∈b,GoodR [x.v]:=by
 rcases h with⟨-,rfl⟩|⟨-,h,-⟩
 ·nofun
 ·exact fun x hx=>(h.vals x hx).1
theorem row_good {p:Pl}{g:Gp}(hp:checkP p=0)(hg:p.grouped=true)(h:GoodG1 p g):GoodR (rowG p g):=by
 have h8:=group_few hp hg;refine⟨fun x hx=> ?_,?_⟩
 ·rcases List.mem_append.1 hx with hx|hx
  ·exact h.row.good x hx
  ·obtain⟨q,hq,rfl⟩:=List.mem_map.1 hx
   have hn:=h.num;exact(fig_good (fn:=q.1.1) (n:=g.n) (by omega) (bag_vals (h.bags q hq))).good _ (by simp)
 ·have h1:=h.len
  have h2:=h.bl;have h3:(ownT p).length=p.group.length:=by simp[ownT]
  unfold rowG;rw[List.length_append,List.length_map,List.length_zip];omega
theorem fine_good {r:List Val}(h:GoodR r):Fine r:=⟨fun x hx=>Nat.le_trans (good_size (h.good x hx).1) (by omega),fun x hx=>(h.good x hx).2⟩
theorem keyErr_goodG {r:List Val}(h:GoodR r):keyErr r=0:=by
 unfold keyErr;rw[if_neg (by have:=h.few;omega)]
 exact firstNZ_none fun x hx=>by
  obtain⟨y,hy,rfl⟩:=List.mem_map.1 hx;exact(h.good y hy).1
def insG (p:Pl) (G:List Gp):List (Int×List Val):=G.map fun g=>(1,rowG p g)
def viewG (p:Pl) (G:List Gp):AV:=(foldR [] 0 (insG p G)).1
theorem look_range {A:AV}{r:List Val}{m:Int}(hm:0≤m)(h: ∀q∈A,1≤q.2∧q.2≤m):0≤lookA A r∧lookA A r≤m:=by
 induction A with
 |nil=>unfold lookA;omega
 |cons q A ih=>
  unfold lookA;split
  ·have:=h q (by simp);omega
  ·exact ih fun x hx=>h x (by simp[hx])
theorem put_len {A:AV}{r:List Val}{n:Int}:(putA A r n).length≤A.length+1:=by
 induction A with
 |nil=>simp[putA]
 |cons q A ih=>
  obtain⟨x,m⟩:=q;unfold putA;split
  ·simp
  ·split<;>simp<;>omega
theorem fold_ins: ∀ {l:List (Int×List Val)} {A:AV} {m:Nat} {i:Int},(∀c∈l,c.1=1)→(∀q∈A,1≤q.2∧q.2≤(m:Int))→A.length≤m→m+l.length≤4096→(foldR A i l).2=(0,0)
 |[],_,_,_,_,_,_,_=>rfl
 |c::l,A,m,i,hk,hq,hA,hl=>by
  have h1:stepI c.1=1:=by rw[hk c (by simp)];rfl
  simp only[List.length_cons]at hl;have hlk:=look_range (r:=c.2) (m:=m) (by omega) hq
  have e:addR A c.2 1=(putA A c.2 (lookA A c.2+1),0):=by
   unfold addR;rw[if_neg (by omega),if_neg (by rintro(h|⟨-,-,h⟩)<;>omega),if_neg (by omega)]
  unfold foldR;rw[h1,e];show(if(0:Int)=0 then _ else _:AV×Int×Int).2=_;rw[if_pos rfl];refine fold_ins (m:=m+1) (fun d hd=>hk d (by simp[hd])) (fun q hq'=> ?_) (Nat.le_trans put_len (by omega)) (by omega);rcases put_mem2 hq' with h|h
  ·have:=hq q h;omega
  ·rw[h];omega
theorem err_ins {l:List Chn}(hk: ∀c∈l,c.k=1)(hg: ∀c∈l,GoodR c.r)(hl:l.length≤4096):formC l=0:=by
 unfold formC;rw[if_neg (by omega)];refine firstNZ_none fun x hx=> ?_;obtain⟨i,hi,rfl⟩:=List.mem_map.1 hx;have e:=List.getElem?_eq_getElem (l:=l) (List.mem_range.1 hi);have h1:=hk _ (List.getElem_mem (List.mem_range.1 hi));exact err_no e (by omega) (by omega) (keyErr_goodG (hg _ (List.getElem_mem (List.mem_range.1 hi)))) (by rw[h1];omega)
end Go.Proofs.YtjhbeecmdgglgaaGreatDoor
namespace Go.Proofs.YtjhbeecmdgglgaaGreatDoor
open Go.ChangeShapes Go.WideShapes Go.RowKit Go.Deep
section
variable {H:Type} {enc:TypeId×Value→H} {P:Program} {w:World} {base:Nat} {spare:Nat→Bool} {held:Bool}
end
end Go.Proofs.YtjhbeecmdgglgaaGreatDoor
namespace Go.Proofs.YtjhbeecmdgglgaaGreatDoor
open Go.RowKit
def Tl.cells (x:Tl):List Value:=[.int .i64 x.v.k,.int .i64 x.v.n,.string x.v.s,.int .i64 x.n]
theorem Tl.cells_len (x:Tl):x.cells.length=4:=rfl
def tlCells (l:List Tl):List Value:=l.flatMap Tl.cells
def Tl.agg (x:Tl):Value:= .agg #[.int .i64 x.v.k,.int .i64 x.v.n,.string x.v.s,.int .i64 x.n]
theorem tlCells_len (l:List Tl):(tlCells l).length=l.length*4:=flat_len Tl.cells_len l
theorem tlCells_app (a b:List Tl):tlCells (a++b)=tlCells a++tlCells b:=List.flatMap_append
theorem tl_at {w:World}{l:List Tl}{v:Value}(h:Sl w v l.length (tlCells l)){A:Option Addr}{n c:Nat}(hv:v= .slice A n c){k:Nat}{x:Tl}(hk:l[k]?=some x):
 ∃b off,A=some ⟨b,off,none⟩∧b<w.heap.size∧ ∀w',Below w.heap.size w w'→
  w'.cell? ⟨b,off+k*4,none⟩=some (.int .i64 x.v.k)∧w'.cell? ⟨b,off+k*4+1,none⟩=some (.int .i64 x.v.n)∧w'.cell? ⟨b,off+k*4+2,none⟩=some (.string x.v.s)∧w'.cell? ⟨b,off+k*4+3,none⟩=some (.int .i64 x.n):=by
 obtain⟨A',c',hv',h1,h2,-,h3⟩:=h;rw[hv]at hv';injection hv' with e1 e2 e3;subst e1;have a0:=flat_at Tl.cells_len l k 0 (by omega);have a1:=flat_at Tl.cells_len l k 1 (by omega);have a2:=flat_at Tl.cells_len l k 2 (by omega);have a3:=flat_at Tl.cells_len l k 3 (by omega);rw[hk]at a0 a1 a2 a3;simp only[Option.bind_some,Nat.add_zero]at a0 a1 a2 a3;obtain⟨b,off,hA,hc⟩:=h3 (by intro h0;rw[show l.flatMap Tl.cells=tlCells l from rfl,h0]at a0;simp[Tl.cells]at a0);have c0:=hc _ _ a0;have c1:=hc _ _ a1;have c2:=hc _ _ a2;have c3:=hc _ _ a3;exact⟨b,off,hA,World.block_lt_of_cell? w _ c0,fun w' hb=>⟨cell_below hb c0,cell_below hb c1,cell_below hb c2,cell_below hb c3⟩⟩
structure Gm where
 v:Value
 r:List Val
 n:Int
 vb:Value
 bags:List (Value×List Tl)
def Gm.gp (x:Gm):Gp:=⟨x.r,x.n,x.bags.map (·.2)⟩
def Gm.cells (x:Gm):List Value:=[x.v,.int .i64 x.n,x.vb]
theorem Gm.cells_len (x:Gm):x.cells.length=3:=rfl
def gmCells (l:List Gm):List Value:=l.flatMap Gm.cells
theorem gmCells_app (a b:List Gm):gmCells (a++b)=gmCells a++gmCells b:=List.flatMap_append
def Gm.agg (x:Gm):Value:= .agg #[x.v,.int .i64 x.n,x.vb]
def gps (l:List Gm):List Gp:=l.map Gm.gp
theorem gps_len (l:List Gm):(gps l).length=l.length:=List.length_map ..
theorem gps_at {l:List Gm}{k:Nat}{x:Gm}(h:l[k]?=some x):(gps l)[k]?=some x.gp:=by simp[gps,h]
structure Gm.ok (w:World) (x:Gm):Prop where
 row:Sl w x.v x.r.length (rowCells x.r)
 sl:Sl w x.vb x.bags.length (x.bags.map (·.1))
 bags: ∀q∈x.bags,Sl w q.1 q.2.length (tlCells q.2)
theorem Gm.ok.below {w w':World}{x:Gm}(h:x.ok w)(hb:Below w.heap.size w w'):x.ok w':=⟨h.row.below hb,h.sl.below hb,fun q hq=>(h.bags q hq).below hb⟩
theorem Gm.ok.drew {w:World}{x:Gm}(h:x.ok w):x.ok w.drew:=⟨h.row,h.sl,h.bags⟩
structure Gms (w:World) (v:Value) (l:List Gm):Prop where
 sl:Sl w v l.length (gmCells l)
 each: ∀x∈l,x.ok w
theorem Gms.below {w w':World}{v:Value}{l:List Gm}(h:Gms w v l)(hb:Below w.heap.size w w'):Gms w' v l:=⟨h.sl.below hb,fun x hx=>(h.each x hx).below hb⟩
theorem Gms.drew {w:World}{v:Value}{l:List Gm}(h:Gms w v l):Gms w.drew v l:=⟨h.sl,fun x hx=>(h.each x hx).drew⟩
theorem Gms.nil (w:World):Gms w (.slice none 0 0) []:=⟨Sl.nil_ w,nofun⟩
theorem gm_at {w:World}{l:List Gm}{v:Value}(h:Sl w v l.length (gmCells l)){A:Option Addr}{n c:Nat}(hv:v= .slice A n c){k:Nat}{x:Gm}(hk:l[k]?=some x):
 ∃b off,A=some ⟨b,off,none⟩∧b<w.heap.size∧ ∀w',Below w.heap.size w w'→
  w'.cell? ⟨b,off+k*3,none⟩=some x.v∧w'.cell? ⟨b,off+k*3+1,none⟩=some (.int .i64 x.n)∧w'.cell? ⟨b,off+k*3+2,none⟩=some x.vb:=by
 obtain⟨A',c',hv',h1,h2,-,h3⟩:=h;rw[hv]at hv';injection hv' with e1 e2 e3;subst e1;have a0:=flat_at Gm.cells_len l k 0 (by omega);have a1:=flat_at Gm.cells_len l k 1 (by omega);have a2:=flat_at Gm.cells_len l k 2 (by omega);rw[hk]at a0 a1 a2;simp only[Option.bind_some,Nat.add_zero]at a0 a1 a2;obtain⟨b,off,hA,hc⟩:=h3 (by intro h0;rw[show l.flatMap Gm.cells=gmCells l from rfl,h0]at a0;simp[Gm.cells]at a0);have c0:=hc _ _ a0;have c1:=hc _ _ a1;have c2:=hc _ _ a2;exact⟨b,off,hA,World.block_lt_of_cell? w _ c0,fun w' hb=>⟨cell_below hb c0,cell_below hb c1,cell_below hb c2⟩⟩
theorem cellv_at {w:World}{α:Type}{l:List α}{f:α→Value}{v:Value}(h:Sl w v l.length (l.map f)){A:Option Addr}{n c:Nat}(hv:v= .slice A n c){k:Nat}{x:α}(hk:l[k]?=some x):
 ∃b off,A=some ⟨b,off,none⟩∧b<w.heap.size∧ ∀w',Below w.heap.size w w'→w'.cell? ⟨b,off+k,none⟩=some (f x):=by
 obtain⟨A',c',hv',h1,h2,-,h3⟩:=h;rw[hv]at hv';injection hv' with e1 e2 e3;subst e1;have a1:(l.map f)[k]?=some (f x):=by simp[hk]
 obtain⟨b,off,hA,hc⟩:=h3 (by intro h0;rw[h0]at a1;simp at a1);have c1:=hc _ _ a1;exact⟨b,off,hA,World.block_lt_of_cell? w _ c1,fun w' hb=>cell_below hb c1⟩
structure Gm.fit (x:Gm):Prop where
 fine:FineG x.gp
 lbag: ∀q∈x.bags,q.2.length≤4398046511104
 lbags:x.bags.length≤5864062014806
 len:x.r.length≤4398046511104
section
open Go.ChangeShapes Go.WideShapes Go.Deep
variable {H:Type} {enc:TypeId×Value→H} {w:World} {base:Nat} {spare:Nat→Bool} {held:Bool}
end
end Go.Proofs.YtjhbeecmdgglgaaGreatDoor
namespace Go.Proofs.YtjhbeecmdgglgaaGreatDoor
open Go.RowKit Go.Maps
set_option maxHeartbeats 4000000 in
set_option maxRecDepth 10000 in
theorem typesFit_any (v vt:Value)(r:List Val)(t:List Int)(w:World)(hr:Sl w v r.length (rowCells r))(ht:Sl w vt t.length (intCells t))(hl:r.length=t.length):
 Calls Tryz.prog 77 #[v,vt] w fun e w'=>e= .returned (.bool (allB fitOne (t.zip r)))∧Below w.heap.size w w':=by
 have HTT:=Lib.hid ht;have HV:=Lib.hid hr;obtain⟨A0,c0,rfl,n0,m0,-⟩:=ht;obtain⟨A,c,rfl,n2,m2,-⟩:=hr;unfold maxLen at m0 m2;obtain⟨R,hR⟩: ∃R:Bool,R=allB fitOne (t.zip r):=⟨_,rfl⟩;rw[←hR];have HR:=Lib.hid hR;have HLE:=Lib.hid hl;have hle:r.length≤t.length:=by omega
 clear hl hR;go_enter Tryz.func77,Tryz.ntmps77
 go_wp2_with fail
 go_loopw[5,6,9] (fun _ _ i wr=> ∃k:Nat,k≤r.length∧i= .int .i64 k∧Hid (∀x∈(t.zip r).take k,fitOne x=true)∧Below w.heap.size w wr) (fun _ _ i _=>r.length-(intOf i).toNat)
 case atStart=>exact⟨0,by omega,rfl,by simp[Hid],Below.refl _ _⟩
 case round=>
  obtain⟨k,hk,rfl,H,hbw⟩:=hrel;by_cases hlt:k<r.length
  ·have hx:=List.getElem?_eq_getElem (l:=r) hlt
   generalize r[k]=x at hx;obtain⟨g,off,rfl,-,hc⟩:=val_at HV.out rfl hx;obtain⟨d1,d2,d3⟩:=hc _ hbw;have hlt2:k<t.length:=by omega
   obtain⟨bt,ot,hAt,-,hct⟩:=int_at HTT.out rfl hlt2;have hbw2:=hbw.alloc hbw.size (.cells #[.int .i64 x.k,.int .i64 x.n,.string x.s] 68);have d4:=hct _ hbw2;have gt:t[k]?=some (t.getD k 0):=by simp[hlt2]
   generalize t.getD k 0=y at d4 gt;have HG:=Lib.hid (show(t.zip r)[k]?=some (y,x)from by rw[List.getElem?_zip_eq_some];exact⟨gt,hx⟩);have HFO:=Lib.hid (show fitOne (y,x)=(x.k==0||x.k==y)from rfl);clear hx hc hct gt;subst hAt;have k0:(0:Int)≤(k:Int):=by omega
   have k1:(k:Int)<(t.length:Int):=by omega
   cases hq:(x.k==0)
   ·have hq2:=bne_of hq
    simp only[Bool.not_false]at hq2;cases hz:(x.k==y)
    ·have hz2:=bne_of hz
     simp only[Bool.not_false]at hz2;have e1:=Lib.hid (all_no (f:=fitOne) HG.out (by rw[HFO.out,hq,hz];rfl));have EE:Hid (R=false):=Lib.hid (by rw[HR.out,e1.out])
     go_wp2_with fail
     go_quiet (fail)
     go_wp2;go_ret;exact⟨by rw[EE.out];rfl,below_drewN hbw2 _⟩
    ·have hz2:=bne_of hz
     simp only[Bool.not_true]at hz2;have e1:=Lib.hid (all_step (f:=fitOne) H.out HG.out (by rw[HFO.out,hz,Bool.or_true]))
     go_wp2_with fail
     go_quiet (fail)
     go_wp2;go_roundw
     case rel=>exact⟨k+1,by omega,by go_num,e1.out,below_drewN hbw2 _⟩
     case measure=>simp[intOf];omega
   ·have hq2:=bne_of hq
    simp only[Bool.not_true]at hq2;have e1:=Lib.hid (all_step (f:=fitOne) H.out HG.out (by rw[HFO.out,hq,Bool.true_or]))
    go_wp2_with fail
    go_quiet (fail)
    go_wp2;go_roundw
    case rel=>exact⟨k+1,by omega,by go_num,e1.out,below_drewN hbw2 _⟩
    case measure=>simp[intOf];omega
  ·obtain rfl:k=r.length:=by omega
   have e1:=Lib.hid (show allB fitOne (t.zip r)=true from all_yes (by
    have hzl:(t.zip r).length=r.length:=by rw[List.length_zip];omega
    rw[hzl];exact H.out))
   have EE:Hid (R=true):=Lib.hid (by rw[HR.out,e1.out]);go_wp2;go_ret;exact⟨by rw[EE.out];rfl,hbw⟩
end Go.Proofs.YtjhbeecmdgglgaaGreatDoor
