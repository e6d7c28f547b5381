/-Plain law of groups: figures, as the reference counts them; what is told of changed groups, row by row. Groups: the keys of the third map are those of -/
import Derived.Test.YtblhidmkalleoaaGreatDoorGrpT12
import Derived.Test.YtblhidmkalleoaaGreatDoorGrpT10
import Derived.Test.YtblhidmkalleoaaGreatDoorGrpT1
import Derived.SizedLaws
import Derived.Deep.Fields
import Derived.Test.YtblhidmkalleoaaGreatDoorGrpT4
import Derived.Test.YtblhidmkalleoaaGreatDoorGrpT11
set_option linter.unusedSimpArgs false
set_option linter.unusedVariables false
namespace Go.Proofs.YtblhidmkalleoaaGreatDoor
open Go.Lib (compareBytes)
def stepF (fn:Int) (out:Val) (q:Val×Int):Val:=
 if q.1.k=0 then out else if fn=2 then⟨2,wrapI (out.n+wrapI (q.1.n*q.2)),⟨#[]⟩⟩else if out.k=0∨(fn=3∧cmpV q.1 out<0)∨(fn=4∧0<cmpV q.1 out)then q.1 else out
def cntF (n:Int) (q:Val×Int):Int:=wrapI (n+q.2)
def figF (fn:Int) (l:List (Val×Int)):Val:=if fn=1 then⟨2,l.foldl cntF 0,⟨#[]⟩⟩else l.foldl (stepF fn) nullG
def tls (bag:List Tl):List (Val×Int):=bag.map fun x=>(x.v,x.n)
theorem null_of {x:Val}(h:GoodR [x])(hk:x.k=0):x=nullG:=by
 have h1:=good_check h;unfold checkV at h1;rw[if_pos hk]at h1;split at h1
 ·cases h1
 ·rename_i h2
  obtain⟨k,n,s⟩:=x;simp only[not_or,Decidable.not_not]at h2
  have hs:s.toList=[]:=by
   have:=h2.2;simpa using this
  have hs2:s=⟨#[]⟩:=by rw[←str_of s,hs];rfl
  simp only at hk;rw[hk,h2.1,hs2];rfl
theorem kind_less {x y:Val}(hx:GoodR [x])(hk:x.k=0)(hy:y.k≠0)(hyk:GoodR [y]):cmpV x y<0:=by
 have h1:0≤y.k:=by
  have h:=good_check hyk;unfold checkV at h;split at h
  ·omega
  ·split at h
   ·omega
   ·split at h
    ·omega
    ·split at h<;>omega
 unfold cmpV ordI;rw[hk,if_pos (by omega)];rw[firstNZ_hit (k:=0) (n:= -1) (by simp) rfl (by omega)];omega
theorem solid_cons (x:Tl)(l:List Tl):solid (x::l)=if x.v.k=0 then l else x::l:=rfl
theorem fold_solid {fn:Int}(hfn:fn≠1){t:Int}{bag:List Tl}(h:GoodT t bag):figF fn (tls bag)=figF fn (tls (solid bag))∧(∀x∈solid bag,x.v.k≠0)∧GoodT t (solid bag):=by
 cases bag with
 |nil=>exact⟨rfl,nofun,h⟩
 |cons x l=>
  have hl:GoodT t l:=⟨fun y hy=>h.vals y (by simp[hy]),(List.pairwise_cons.1 h.rise).2⟩;have hx:=h.vals x (by simp);have hxl:=(List.pairwise_cons.1 h.rise).1
  have hne: ∀y∈l,y.v.k≠0:=fun y hy hk=>by
   have hy1:=(hl.vals y hy).1;have e:=hxl y hy;by_cases hxk:x.v.k=0
   ·have:cmpV x.v y.v=0:=(cmpV_zero hx.1 hy1).2 (by rw[null_of hx.1 hxk,null_of hy1 hk])
    omega
   ·have h1:=kind_less hy1 hk hxk hx.1
    rw[cmpV_flip hx.1 hy1]at h1;omega
  rw[solid_cons];by_cases hxk:x.v.k=0
  ·rw[if_pos hxk]
   refine⟨?_,hne,hl⟩;unfold figF;rw[if_neg hfn,if_neg hfn];show(tls l).foldl (stepF fn) (stepF fn nullG (x.v,x.n))=_;unfold stepF;rw[if_pos hxk]
  ·rw[if_neg hxk]
   refine⟨rfl,fun y hy=> ?_,h⟩;rcases List.mem_cons.1 hy with rfl|hy
   ·exact hxk
   ·exact hne y hy
theorem fold_sum {bag:List Tl}(h: ∀x∈bag,x.v.k≠0): ∀s:Val,s.k=2→s.s=⟨#[]⟩→(tls bag).foldl (stepF 2) s=⟨2,bag.foldl (fun s x=>wrapI (s+wrapI (x.v.n*x.n))) s.n,⟨#[]⟩⟩:=by
 induction bag with
 |nil=>rintro⟨k,n,s⟩ h1 h2;simp only at h1 h2;rw[h1,h2];rfl
 |cons x l ih=>
  intro s h1 h2;show(tls l).foldl (stepF 2) (stepF 2 s (x.v,x.n))=_
  have e:stepF 2 s (x.v,x.n)=⟨2,wrapI (s.n+wrapI (x.v.n*x.n)),⟨#[]⟩⟩:=by
   unfold stepF;rw[if_neg (h x (by simp)),if_pos rfl]
  rw[e,ih (fun y hy=>h y (by simp[hy])) _ rfl rfl];rfl
theorem fold_min {bag:List Tl}(h: ∀x∈bag,x.v.k≠0)(s:Val)(hs:s.k≠0)(hm: ∀x∈bag,¬cmpV x.v s<0):(tls bag).foldl (stepF 3) s=s:=by
 induction bag with
 |nil=>rfl
 |cons x l ih=>
  show(tls l).foldl (stepF 3) (stepF 3 s (x.v,x.n))=_
  have e:stepF 3 s (x.v,x.n)=s:=by
   unfold stepF;rw[if_neg (h x (by simp)),if_neg (by decide),if_neg];rintro(h1|⟨-,h1⟩|⟨h1,-⟩)
   ·exact hs h1
   ·exact hm x (by simp) h1
   ·exact absurd h1 (by decide)
  rw[e];exact ih (fun y hy=>h y (by simp[hy])) (fun y hy=>hm y (by simp[hy]))
theorem fold_max {bag:List Tl}(h: ∀x∈bag,x.v.k≠0)(hr:bag.Pairwise fun a b=>cmpV a.v b.v<0)(hg: ∀x∈bag,GoodR [x.v])(s:Val)(gs:GoodR [s])(hs:s.k≠0)(hm: ∀x∈bag,cmpV s x.v<0):(tls bag).foldl (stepF 4) s=((bag.map (·.v)).getLast?).getD s:=by
 induction bag generalizing s with
 |nil=>rfl
 |cons x l ih=>
  show(tls l).foldl (stepF 4) (stepF 4 s (x.v,x.n))=_
  have e:stepF 4 s (x.v,x.n)=x.v:=by
   unfold stepF;rw[if_neg (h x (by simp)),if_neg (by decide),if_pos];refine .inr (.inr ⟨rfl,?_⟩);have:=hm x (by simp);rw[cmpV_flip gs (hg x (by simp))];show 0< -cmpV s x.v;omega
  rw[e,ih (fun y hy=>h y (by simp[hy])) (List.pairwise_cons.1 hr).2 (fun y hy=>hg y (by simp[hy])) x.v (hg x (by simp)) (h x (by simp)) (fun y hy=>(List.pairwise_cons.1 hr).1 y hy)];cases l with
  |nil=>rfl
  |cons y l=>simp[List.getLast?_cons_cons,List.getLast?_cons]
theorem fig_eq {fn n t:Int}(hfn:fn=1∨fn=2∨fn=3∨fn=4){bag:List Tl}(h:fn≠1→GoodT t bag):figG fn n bag=if fn=1 then⟨2,n,⟨#[]⟩⟩else figF fn (tls bag):=by
 unfold figG;by_cases h1:fn=1
 ·rw[if_pos h1,if_pos h1]
 ·rw[if_neg h1,if_neg h1]
  obtain⟨e,hne,hg⟩:=fold_solid h1 (h h1);rw[e];unfold figF;rw[if_neg h1];generalize solid bag=b at hne hg⊢;cases b with
  |nil=>rfl
  |cons x l=>
   have hx:=hne x (by simp);have gx:=(hg.vals x (by simp)).1;show _=(tls l).foldl (stepF fn) (stepF fn nullG (x.v,x.n));rcases hfn with h2|h2|h2|h2
   ·exact absurd h2 h1
   ·subst h2
    have e:stepF 2 nullG (x.v,x.n)=⟨2,wrapI (0+wrapI (x.v.n*x.n)),⟨#[]⟩⟩:=by
     unfold stepF;rw[if_neg hx,if_pos rfl];rfl
    rw[e,fold_sum (fun y hy=>hne y (by simp[hy])) _ rfl rfl];rfl
   ·subst h2
    have e:stepF 3 nullG (x.v,x.n)=x.v:=by
     unfold stepF;rw[if_neg hx,if_neg (by decide),if_pos (.inl rfl)]
    rw[e,fold_min (fun y hy=>hne y (by simp[hy])) _ hx fun y hy=> ?_]
    ·rfl
    ·have:=(List.pairwise_cons.1 hg.rise).1 y hy
     rw[cmpV_flip gx (hg.vals y (by simp[hy])).1];omega
   ·subst h2
    have e:stepF 4 nullG (x.v,x.n)=x.v:=by
     unfold stepF;rw[if_neg hx,if_neg (by decide),if_pos (.inl rfl)]
    rw[e,fold_max (fun y hy=>hne y (by simp[hy])) (List.pairwise_cons.1 hg.rise).2 (fun y hy=>(hg.vals y (by simp[hy])).1) _ gx hx (fun y hy=>(List.pairwise_cons.1 hg.rise).1 y hy)];show((x::l).getLast _).v=_;cases l with
    |nil=>rfl
    |cons y l=>
     rw[List.getLast_cons (by simp)];rw[List.map_cons,List.getLast?_eq_some_getLast (by simp)];exact(List.getLast_map (f:=fun x:Tl=>x.v) (l:=y::l) (by simp)).symm
theorem fm_congr {α β:Type}{f g:α→List β}: ∀ {l:List α},(∀a∈l,f a=g a)→l.flatMap f=l.flatMap g
 |[],_=>rfl
 |a::l,h=>by rw[List.flatMap_cons,List.flatMap_cons,h a (by simp),fm_congr fun b hb=>h b (by simp[hb])]
def findG (G:List Gp) (r:List Val):Option Gp:=G.find? fun g=>rowsF g.r r==0
def tellR (p:Pl):Option Gp→Option Gp→List (Int×List Val)
 |none,none=>[]
 |none,some b=>[(1,rowG p b)]
 |some a,none=>[(2,rowG p a)]
 |some a,some b=>tellG p a b
structure RowsG (G:List Gp):Prop where
 good: ∀g∈G,GoodR g.r
 rise:G.Pairwise fun a b=>rowsF a.r b.r<0
theorem RowsG.tail {g:Gp}{G:List Gp}(h:RowsG (g::G)):RowsG G:=⟨fun x hx=>h.good x (by simp[hx]),(List.pairwise_cons.1 h.rise).2⟩
theorem RowsG.less {g:Gp}{G:List Gp}(h:RowsG (g::G)){x:Gp}(hx:x∈G):rowsF g.r x.r<0:=(List.pairwise_cons.1 h.rise).1 x hx
theorem find_head {g:Gp}{G:List Gp}(h:RowsG (g::G)):findG (g::G) g.r=some g:=by
 unfold findG;rw[List.find?_cons,rowsF_self (h.good g (by simp))];rfl
theorem find_tail {g:Gp}{G:List Gp}{r:List Val}(h:rowsF g.r r<0):findG (g::G) r=findG G r:=by
 unfold findG;rw[List.find?_cons];have:(rowsF g.r r==0)=false:=by simp;omega
 rw[this]
theorem find_low {G:List Gp}{r:List Val}(h: ∀g∈G,0<rowsF g.r r):findG G r=none:=by
 unfold findG;rw[List.find?_eq_none];intro g hg;have:=h g hg;simp;omega
structure Union (G H:List Gp) (U:List (List Val)):Prop where
 rise:U.Pairwise fun a b=>rowsF a b<0
 mem: ∀r,r∈U↔(∃g∈G,g.r=r)∨ ∃g∈H,g.r=r
theorem Union.good {G H:List Gp}{U:List (List Val)}(h:Union G H U)(hG:RowsG G)(hH:RowsG H){r:List Val}(hr:r∈U):GoodR r:=by
 rcases(h.mem r).1 hr with⟨g,hg,rfl⟩|⟨g,hg,rfl⟩
 ·exact hG.good g hg
 ·exact hH.good g hg
theorem rise_ext: ∀ {U V:List (List Val)},(∀r∈U,GoodR r)→(∀r∈V,GoodR r)→U.Pairwise (fun a b=>rowsF a b<0)→V.Pairwise (fun a b=>rowsF a b<0)→(∀r,r∈U↔r∈V)→U=V
 |[],[],_,_,_,_,_=>rfl
 |[],v::V,_,_,_,_,h=>by have:=(h v).2 (by simp);cases this
 |u::U,[],_,_,_,_,h=>by have:=(h u).1 (by simp);cases this
 |u::U,v::V,gU,gV,hU,hV,h=>by
  have gu:=gU u (by simp);have gv:=gV v (by simp)
  have e:u=v:=by
   rcases List.mem_cons.1 ((h u).1 (by simp))with e|h1
   ·exact e
   ·rcases List.mem_cons.1 ((h v).2 (by simp))with e|h2
    ·exact e.symm
    ·have a1:=(List.pairwise_cons.1 hV).1 u h1
     have a2:=(List.pairwise_cons.1 hU).1 v h2;rw[rowsF_flip gu gv]at a1;omega
  subst e
  have notin: ∀ {L:List (List Val)},(∀x∈L,rowsF u x<0)→u∉L:=fun hL hm=>by
   have:=hL u hm;rw[rowsF_self gu]at this;omega
  rw[rise_ext (fun r hr=>gU r (by simp[hr])) (fun r hr=>gV r (by simp[hr])) (List.pairwise_cons.1 hU).2 (List.pairwise_cons.1 hV).2 fun r=> ?_];constructor
  ·intro hr
   rcases List.mem_cons.1 ((h r).1 (by simp[hr]))with rfl|h1
   ·exact absurd hr (notin (List.pairwise_cons.1 hU).1)
   ·exact h1
  ·intro hr
   rcases List.mem_cons.1 ((h r).2 (by simp[hr]))with rfl|h1
   ·exact absurd hr (notin (List.pairwise_cons.1 hV).1)
   ·exact h1
def mergeR:List Gp→List Gp→List (List Val)
 |[],H=>H.map (·.r)
 |a::G,[]=>a.r::mergeR G []
 |a::G,b::H=>if rowsF a.r b.r<0 then a.r::mergeR G (b::H)else if 0<rowsF a.r b.r then b.r::mergeR (a::G) H else a.r::mergeR G H
termination_by G H=>G.length+H.length
theorem mergeG_mem (G H:List Gp)(hG:RowsG G)(hH:RowsG H): ∀r,r∈mergeR G H↔(∃g∈G,g.r=r)∨ ∃g∈H,g.r=r:=by
 induction G,H using mergeR.induct with
 |case1 H=>intro r;unfold mergeR;simp
 |case2 a G ih=>intro r;unfold mergeR;simp[ih hG.tail hH,eq_comm]
 |case3 a G b H h1 ih=>intro r;unfold mergeR;rw[if_pos h1];simp[ih hG.tail hH,eq_comm,or_assoc]
 |case4 a G b H h1 h2 ih=>intro r;unfold mergeR;rw[if_neg h1,if_pos h2];simp[ih hG hH.tail,eq_comm,or_left_comm]
 |case5 a G b H h1 h2 ih=>
  intro r;unfold mergeR;have e:=(rowsF_zero (hG.good a (by simp)) (hH.good b (by simp))).1 (by omega);rw[if_neg h1,if_neg h2];rw[List.mem_cons,ih hG.tail hH.tail];constructor
  ·rintro(rfl|⟨g,hg,h⟩|⟨g,hg,h⟩)
   ·exact .inl ⟨a,by simp,rfl⟩
   ·exact .inl ⟨g,by simp[hg],h⟩
   ·exact .inr ⟨g,by simp[hg],h⟩
  ·rintro(⟨g,hg,h⟩|⟨g,hg,h⟩)
   ·rcases List.mem_cons.1 hg with rfl|hg
    ·exact .inl h.symm
    ·exact .inr (.inl ⟨g,hg,h⟩)
   ·rcases List.mem_cons.1 hg with rfl|hg
    ·exact .inl (by rw[e];exact h.symm)
    ·exact .inr (.inr ⟨g,hg,h⟩)
theorem merge_rise (G H:List Gp)(hG:RowsG G)(hH:RowsG H):(mergeR G H).Pairwise fun a b=>rowsF a b<0:=by
 induction G,H using mergeR.induct with
 |case1 H=>unfold mergeR;rw[List.pairwise_map];exact hH.rise
 |case2 a G ih=>
  unfold mergeR;refine List.pairwise_cons.2 ⟨fun r hr=> ?_,ih hG.tail hH⟩;rcases(mergeG_mem _ _ hG.tail hH r).1 hr with⟨g,hg,rfl⟩|⟨g,hg,rfl⟩
  ·exact hG.less hg
  ·cases hg
 |case3 a G b H h1 ih=>
  unfold mergeR;rw[if_pos h1];refine List.pairwise_cons.2 ⟨fun r hr=> ?_,ih hG.tail hH⟩;rcases(mergeG_mem _ _ hG.tail hH r).1 hr with⟨g,hg,rfl⟩|⟨g,hg,rfl⟩
  ·exact hG.less hg
  ·rcases List.mem_cons.1 hg with rfl|hg
   ·exact h1
   ·exact rowsF_trans (hG.good a (by simp)) (hH.good b (by simp)) (hH.good g (by simp[hg])) h1 (hH.less hg)
 |case4 a G b H h1 h2 ih=>
  unfold mergeR;rw[if_neg h1,if_pos h2];have h3:rowsF b.r a.r<0:=by rw[rowsF_flip (hG.good a (by simp)) (hH.good b (by simp))];omega
  refine List.pairwise_cons.2 ⟨fun r hr=> ?_,ih hG hH.tail⟩;rcases(mergeG_mem _ _ hG hH.tail r).1 hr with⟨g,hg,rfl⟩|⟨g,hg,rfl⟩
  ·rcases List.mem_cons.1 hg with rfl|hg
   ·exact h3
   ·exact rowsF_trans (hH.good b (by simp)) (hG.good a (by simp)) (hG.good g (by simp[hg])) h3 (hG.less hg)
  ·exact hH.less hg
 |case5 a G b H h1 h2 ih=>
  unfold mergeR;rw[if_neg h1,if_neg h2];have e:=(rowsF_zero (hG.good a (by simp)) (hH.good b (by simp))).1 (by omega);refine List.pairwise_cons.2 ⟨fun r hr=> ?_,ih hG.tail hH.tail⟩;rcases(mergeG_mem _ _ hG.tail hH.tail r).1 hr with⟨g,hg,rfl⟩|⟨g,hg,rfl⟩
  ·exact hG.less hg
  ·rw[e];exact hH.less hg
theorem union_merge {G H:List Gp}(hG:RowsG G)(hH:RowsG H){U:List (List Val)}(h:Union G H U):U=mergeR G H:=
 rise_ext (fun r hr=>h.good hG hH hr) (fun r hr=>by
  rcases(mergeG_mem G H hG hH r).1 hr with⟨g,hg,rfl⟩|⟨g,hg,rfl⟩
  ·exact hG.good g hg
  ·exact hH.good g hg) h.rise (merge_rise G H hG hH) fun r=>by rw[h.mem,mergeG_mem G H hG hH]
theorem gt_of {a b:List Val}(ha:GoodR a)(hb:GoodR b)(h:rowsF a b<0):0<rowsF b a:=by rw[rowsF_flip ha hb];omega
theorem changed_merge (p:Pl)(G H:List Gp)(hG:RowsG G)(hH:RowsG H):changedG p G H=(mergeR G H).flatMap fun r=>tellR p (findG G r) (findG H r):=by
 induction G,H using mergeR.induct with
 |case1 H=>
  unfold mergeR
  induction H with
  |nil=>simp[changedG]
  |cons b H ih=>
   rw[changedG,ih hH.tail,List.map_cons,List.flatMap_cons,find_head hH];show _::_=[_]++_;rw[List.singleton_append]
   congr 1
   refine fm_congr fun r hr=> ?_;obtain⟨g,hg,rfl⟩:=List.mem_map.1 hr;rw[find_tail (hH.less hg)]
 |case2 a G ih=>
  rw[changedG,ih hG.tail hH,mergeR,List.flatMap_cons,find_head hG];show _::_=[_]++_;rw[List.singleton_append]
  congr 1
  refine fm_congr fun r hr=> ?_;rcases(mergeG_mem _ _ hG.tail hH r).1 hr with⟨g,hg,rfl⟩|⟨g,hg,rfl⟩
  ·rw[find_tail (hG.less hg)]
  ·cases hg
 |case3 a G b H h1 ih=>
  have ga:=hG.good a (by simp);have gb:=hH.good b (by simp)
  have hlow: ∀g∈b::H,rowsF a.r g.r<0:=fun g hg=>by
   rcases List.mem_cons.1 hg with rfl|hg
   ·exact h1
   ·exact rowsF_trans ga gb (hH.good g (by simp[hg])) h1 (hH.less hg)
  rw[changedG,if_pos h1,ih hG.tail hH,mergeR,if_pos h1,List.flatMap_cons,find_head hG,find_low (G:=b::H) fun g hg=>gt_of ga (hH.good g hg) (hlow g hg)];show _::_=[_]++_;rw[List.singleton_append]
  congr 1
  refine fm_congr fun r hr=> ?_;rcases(mergeG_mem _ _ hG.tail hH r).1 hr with⟨g,hg,rfl⟩|⟨g,hg,rfl⟩
  ·rw[find_tail (hG.less hg)]
  ·rw[find_tail (hlow g hg)]
 |case4 a G b H h1 h2 ih=>
  have ga:=hG.good a (by simp);have gb:=hH.good b (by simp);have h3:rowsF b.r a.r<0:=by rw[rowsF_flip ga gb];omega
  have hlow: ∀g∈a::G,rowsF b.r g.r<0:=fun g hg=>by
   rcases List.mem_cons.1 hg with rfl|hg
   ·exact h3
   ·exact rowsF_trans gb ga (hG.good g (by simp[hg])) h3 (hG.less hg)
  rw[changedG,if_neg h1,if_pos h2,ih hG hH.tail,mergeR,if_neg h1,if_pos h2,List.flatMap_cons,find_head hH,find_low (G:=a::G) fun g hg=>gt_of gb (hG.good g hg) (hlow g hg)];show _::_=[_]++_;rw[List.singleton_append]
  congr 1
  refine fm_congr fun r hr=> ?_;rcases(mergeG_mem _ _ hG hH.tail r).1 hr with⟨g,hg,rfl⟩|⟨g,hg,rfl⟩
  ·rw[find_tail (G:=H) (hlow g hg)]
  ·rw[find_tail (hH.less hg)]
 |case5 a G b H h1 h2 ih=>
  have e:=(rowsF_zero (hG.good a (by simp)) (hH.good b (by simp))).1 (by omega);rw[changedG,if_neg h1,if_neg h2,ih hG.tail hH.tail,mergeR,if_neg h1,if_neg h2,List.flatMap_cons,find_head hG,e,find_head hH];show _++_=tellG p a b++_
  congr 1
  refine fm_congr fun r hr=> ?_;rcases(mergeG_mem _ _ hG.tail hH.tail r).1 hr with⟨g,hg,rfl⟩|⟨g,hg,rfl⟩
  ·rw[find_tail (hG.less hg),find_tail (by rw[←e];exact hG.less hg)]
  ·rw[find_tail (hH.less hg),find_tail (by rw[e];exact hH.less hg)]
theorem changed_union (p:Pl){G H:List Gp}(hG:RowsG G)(hH:RowsG H){U:List (List Val)}(h:Union G H U):changedG p G H=U.flatMap fun r=>tellR p (findG G r) (findG H r):=by
 rw[union_merge hG hH h];exact changed_merge p G H hG hH
end Go.Proofs.YtblhidmkalleoaaGreatDoor
namespace Go.Proofs.YtblhidmkalleoaaGreatDoor
open Go.RowKit Go.Maps
theorem has_mem_row {A:AV}(hA: ∀p∈A,GoodR p.1){r:List Val}(hr:GoodR r):hasA A r=true↔r∈A.map (·.1):=by
 induction A with
 |nil=>simp[hasA]
 |cons x t ih=>
  obtain⟨y,m⟩:=x;have hy:GoodR y:=hA (y,m) (by simp);have ih:=ih fun p hp=>hA p (by simp[hp]);show(decide (rowsF y r=0)||hasA t r)=true↔_;rw[Bool.or_eq_true,decide_eq_true_eq,ih,rowsF_zero hy hr,List.map_cons,List.mem_cons];exact⟨fun h=>h.imp Eq.symm id,fun h=>h.imp Eq.symm id⟩
theorem has_rows {A:AV}{G:List Gp}(h:A.map (·.1)=G.map (·.r))(hg: ∀g∈G,GoodR g.r){r:List Val}(hr:GoodR r):hasA A r=true↔ ∃g∈G,g.r=r:=by
 have hA: ∀p∈A,GoodR p.1:=fun p hp=>by
  have:p.1∈A.map (·.1):=List.mem_map.2 ⟨p,hp,rfl⟩;rw[h]at this;obtain⟨g,hg',e⟩:=List.mem_map.1 this;rw[←e];exact hg g hg'
 rw[has_mem_row hA hr,h,List.mem_map]
theorem keys_union {A B C:AV}{G H:List Gp}(hA:A.map (·.1)=G.map (·.r))(hB:B.map (·.1)=H.map (·.r))(gG: ∀g∈G,GoodR g.r)(gH: ∀g∈H,GoodR g.r)(hC:Rises C)(h: ∀r,GoodR r→hasA C r=(hasA A r||hasA B r)):Union G H (C.map (·.1)):=by
 refine⟨?_,fun r=> ?_⟩
 ·rw[List.pairwise_map]
  exact hC.rise
 ·constructor
  ·intro hr
   obtain⟨p,hp,rfl⟩:=List.mem_map.1 hr;have hg:=hC.good p hp;have h1:=h p.1 hg;rw[(has_mem_row hC.good hg).2 hr]at h1;rcases(Bool.or_eq_true _ _).mp h1.symm with h2|h2
   ·exact .inl ((has_rows hA gG hg).1 h2)
   ·exact .inr ((has_rows hB gH hg).1 h2)
  ·rintro(⟨g,hg,rfl⟩|⟨g,hg,rfl⟩)
   ·refine(has_mem_row hC.good (gG g hg)).1 ?_
    rw[h _ (gG g hg),(has_rows hA gG (gG g hg)).2 ⟨g,hg,rfl⟩];rfl
   ·refine(has_mem_row hC.good (gH g hg)).1 ?_
    rw[h _ (gH g hg),(has_rows hB gH (gH g hg)).2 ⟨g,hg,rfl⟩,Bool.or_true]
theorem flm_congr {α β:Type}{f g:α→Option β}: ∀ {l:List α},(∀x∈l,f x=g x)→l.filterMap f=l.filterMap g
 |[],_=>rfl
 |x::l,h=>by rw[List.filterMap_cons,List.filterMap_cons,h x (by simp),flm_congr fun y hy=>h y (by simp[hy])]
theorem union_find: ∀ {U:List (List Val)} {H:List Gp},U.Pairwise (fun a b=>rowsF a b<0)→(∀r∈U,GoodR r)→RowsG H→(∀g∈H,g.r∈U)→U.filterMap (findG H)=H
 |[],[],_,_,_,_=>rfl
 |[],g::H,_,_,_,hm=>by have:=hm g (by simp);cases this
 |u::U,[],hU,gU,hH,hm=>by
  rw[List.filterMap_cons];show U.filterMap (findG [])=[];exact union_find (List.pairwise_cons.1 hU).2 (fun r hr=>gU r (by simp[hr])) ⟨fun g hg=>by simp at hg,.nil⟩ (fun g hg=>by simp at hg)
 |u::U,g::H,hU,gU,hH,hm=>by
  obtain⟨h1,h2⟩:=List.pairwise_cons.1 hU;obtain⟨h3,h4⟩:=List.pairwise_cons.1 hH.rise;have gu:=gU u (by simp);have gg:=hH.good g (by simp);have gU': ∀r∈U,GoodR r:=fun r hr=>gU r (by simp[hr]);rcases List.mem_cons.1 (hm g (by simp))with e|hin
  ·have e0:findG (g::H) u=some g:=by
    unfold findG;rw[List.find?_cons_of_pos (by rw[e,rowsF_self gu];rfl)]
   rw[List.filterMap_cons,e0];show g::U.filterMap (findG (g::H))=g::H
   have e1:U.filterMap (findG (g::H))=U.filterMap (findG H):=flm_congr fun r hr=>by
    unfold findG;have:=h1 r hr;rw[List.find?_cons_of_neg (by rw[e];intro h;have h:=eq_of_beq h;omega)]
   rw[e1,union_find h2 gU' hH.tail fun x hx=>by
    rcases List.mem_cons.1 (hm x (by simp[hx]))with e2|h5
    ·have:=h3 x hx
     rw[e,e2,rowsF_self gu]at this;omega
    ·exact h5]
  ·have hug:=h1 _ hin
   have e0:findG (g::H) u=none:=by
    unfold findG;rw[List.find?_eq_none];intro x hx h;have h:=eq_of_beq h;have e6:=(rowsF_zero (hH.good x hx) gu).1 h;rcases List.mem_cons.1 hx with rfl|hx
    ·rw[e6,rowsF_self gu]at hug;omega
    ·have h7:=h3 x hx
     rw[e6]at h7;have:=rowsF_trans gu gg gu hug h7;rw[rowsF_self gu]at this;omega
   rw[List.filterMap_cons,e0];show U.filterMap (findG (g::H))=g::H
   exact union_find h2 gU' hH fun x hx=>by
    rcases List.mem_cons.1 (hm x hx)with e2|h5
    ·rcases List.mem_cons.1 hx with rfl|hx
     ·exact hin
     ·have h7:=h3 x hx
      rw[e2]at h7;have:=rowsF_trans gu gg gu hug h7;rw[rowsF_self gu]at this;omega
    ·exact h5
end Go.Proofs.YtblhidmkalleoaaGreatDoor
namespace Go.Proofs.YtblhidmkalleoaaGreatDoor
open Go.ChangeShapes Go.WideShapes Go.RowKit Go.Deep
theorem weights_all {H:Type}{P:Program}{e:TypeId}: ∀ {l:List (DataW H)} {d:DataW H},d∈l→ ∀n∈d.weights P e,n∈DataW.weightsAll P e l
 |a::l,d,hd,n,hn=>by
  rcases List.mem_cons.1 hd with rfl|hd
  ·simp[DataW.weightsAll,hn]
  ·simp[DataW.weightsAll,weights_all hd n hn]
 |[],_,hd,_,_=>by cases hd
def InReach {H:Type} (P:Program) (t:TypeId) (d:DataW H):Prop:= ∀n∈d.weights P t,n≤reachBytes
theorem inReach_of {H:Type}{P:Program}{ts:List TypeId}{ds:List (DataW H)}(h:(DataW.weightsEach P ts ds).all (· ≤reachBytes)=true)(j:Nat)(t:TypeId)(d:DataW H)(ht:ts[j]?=some t)(hd:ds[j]?=some d):InReach P t d:=fun n hn=>by
 have:=List.all_eq_true.1 h _ (DataW.weights_mem_each ht hd n hn);simpa using this
section
variable {H:Type} {enc:TypeId×Value→H} {P:Program} {w:World} {base:Nat} {spare:Nat→Bool} {held:Bool}
theorem open_flatS {t e:TypeId}{fuel:Nat}{cs:List Value}{x:DataW H×List MemPlace}{α:Type}{f:α→List Value}{Q:α→Prop}{size:Nat}(hf: ∀a,(f a).length=size)(h0:0<size)
 (ht:P.underlying t=some (.slice e)) (hC:P.cellsOf e=size) (hel: ∀fuel cs x,DataW.trod enc P w base spare held fuel e cs=some x→InReach P e x.1→ ∃a,cs=f a∧Q a)
 (h:DataW.trod enc P w base spare held fuel t cs=some x) (hw:InReach P t x.1): ∃(v:Value) (l:List α),cs=[v]∧Sl w v l.length (l.flatMap f)∧(∀a∈l,Q a)∧l.length*P.bytesOf e≤reachBytes:=by
 rcases open_slice ht h with⟨h0,-⟩|⟨a,len,cap,m,n,D,Pl,rfl,-,hl,hm,hmm,hx,hi⟩
 ·exact⟨_,[],h0,Sl.nil_ w,nofun,by simp⟩
 ·have hlm:len≤m:=by rw[hmm];split<;>omega
  have hww: ∀i,i<len→InReach P e (D i):=fun i hi' n hn=>by
   refine hw n ?_;rw[hx];simp only[DataW.weights,ht];refine List.mem_cons_of_mem _ (List.mem_append_left _ (weights_all (d:=D i) ?_ n hn));exact List.mem_map.2 ⟨i,List.mem_range.2 hi',rfl⟩
  have hby:len*P.bytesOf e≤reachBytes:=by
   have:=hw ((((List.range len).map D).length+((List.range (m-len)).map fun j=>D (len+j)).length)*P.bytesOf e) (by
    rw[hx];simp[DataW.weights,ht])
   simp only[List.length_map,List.length_range]at this;exact Nat.le_trans (Nat.mul_le_mul_right _ (by omega)) this
  have hall: ∀i:Fin len,∃y:α,(∀j,j<size→w.cell? (a.add (i.val*size+j))=(f y)[j]?)∧Q y:=by
   intro i;obtain⟨cs',hc,ht'⟩:=hi i.val (by omega);obtain⟨y,rfl,hq⟩:=hel _ _ _ ht' (hww i.val i.isLt);obtain⟨-,-,hat⟩:=World.cells?_some hc;refine⟨y,fun j hj=> ?_,hq⟩;have:=hat j (by rw[hC];exact hj);rw[hC,Go.Deep.add_add]at this;exact this
  obtain⟨g,hgg⟩:=Classical.axiomOfChoice hall;have hg:=fun i=>(hgg i).1;refine⟨_,List.ofFn g,rfl,?_,fun y hy=> ?_,by rw[List.length_ofFn];exact hby⟩
  ·rw[List.length_ofFn]
   refine⟨_,_,rfl,hl,hm,(fun h=>by cases h),fun hne=> ?_⟩
   have hlen:0<len:=by
    rcases Nat.eq_zero_or_pos len with h1|h1
    ·subst h1;simp at hne
    ·exact h1
   obtain⟨b,off,spot⟩:=a;have hc0:=hg ⟨0,hlen⟩ 0 h0;rw[List.getElem?_eq_getElem (by rw[hf];exact h0)]at hc0;have hs:spot=none:=by simpa[Addr.add]using World.cell?_spot hc0
   subst hs;refine⟨b,off,rfl,fun j u hj=> ?_⟩
   have hq:j<len*size:=by
    have:=(List.getElem?_eq_some_iff.1 hj).1;rw[flat_len hf,List.length_ofFn]at this;exact this
   have hdiv:j/ size<len:=by rw[Nat.div_lt_iff_lt_mul h0];exact hq
   have hmod:j%size<size:=Nat.mod_lt _ h0;have hjj:j=j/ size*size+j%size:=by rw[Nat.mul_comm];exact(Nat.div_add_mod j size).symm
   rw[hjj,flat_at hf _ _ _ hmod,List.getElem?_ofFn,dif_pos hdiv]at hj;simp only[Option.bind_some]at hj;have:=hg ⟨j/ size,hdiv⟩ (j%size) hmod;rw[hj,←hjj]at this;unfold Addr.add at this;split at this
   ·rename_i h0;rw[h0];exact this
   ·exact this
  ·obtain⟨i,rfl⟩:=(List.mem_ofFn).1 hy
   exact(hgg i).2
theorem struct_oneS {ts:TypeId}{fs:Array Field}{fuel:Nat}{cs:List Value}{x:DataW H×List MemPlace}(hs:P.underlying ts=some (.struct fs))
 (hone: ∀(i:Nat) (f:Field),fs[i]?=some f→f.offset=i∧P.cellsOf f.type=1) (hC:P.cellsOf ts=fs.size) (h:DataW.trod enc P w base spare held fuel ts cs=some x) (hw:InReach P ts x.1):
 ∃n,cs.length=fs.size∧ ∀(i:Nat) (f:Field),fs[i]?=some f→ ∃y,DataW.trod enc P w base spare held n f.type [cs.getD i undef]=some y∧InReach P f.type y.1:=by
 obtain⟨xs,n,_,rfl,hl,hxl,hf⟩:=DataW.trod_struct hs h;rw[hC]at hl;refine⟨n,hl,fun i f hi=> ?_⟩;have hlt:i<fs.size:=(Array.getElem?_eq_some_iff.1 hi).1;obtain⟨ho,hc1⟩:=hone i f hi;have g:=hf i f hi;rw[ho,hc1,take1_drop cs i undef (by omega),List.getElem?_eq_getElem (by omega)]at g;refine⟨_,g,fun m hm=>hw m ?_⟩;simp only[DataW.weights,hs];refine DataW.weights_mem_each (j:=i) (t:=f.type) (d:=(xs[i]'(by omega)).1) ?_ ?_ m hm
 ·rw[List.getElem?_map,Array.getElem?_toList,hi];rfl
 ·rw[List.getElem?_map,List.getElem?_eq_getElem (by omega)];rfl
end
end Go.Proofs.YtblhidmkalleoaaGreatDoor
namespace Go.Proofs.YtblhidmkalleoaaGreatDoor
open Go.RowKit
def Tl.cells (x:Tl):List Value:=[.int .i64 x.v.k,.int .i64 x.v.n,.string x.v.s,.int .i64 x.n]
theorem Tl.cells_len (x:Tl):x.cells.length=4:=rfl
def tlCells (l:List Tl):List Value:=l.flatMap Tl.cells
def Tl.agg (x:Tl):Value:= .agg #[.int .i64 x.v.k,.int .i64 x.v.n,.string x.v.s,.int .i64 x.n]
theorem tlCells_len (l:List Tl):(tlCells l).length=l.length*4:=flat_len Tl.cells_len l
theorem tlCells_app (a b:List Tl):tlCells (a++b)=tlCells a++tlCells b:=List.flatMap_append
theorem tl_at {w:World}{l:List Tl}{v:Value}(h:Sl w v l.length (tlCells l)){A:Option Addr}{n c:Nat}(hv:v= .slice A n c){k:Nat}{x:Tl}(hk:l[k]?=some x):
 ∃b off,A=some ⟨b,off,none⟩∧b<w.heap.size∧ ∀w',Below w.heap.size w w'→
  w'.cell? ⟨b,off+k*4,none⟩=some (.int .i64 x.v.k)∧w'.cell? ⟨b,off+k*4+1,none⟩=some (.int .i64 x.v.n)∧w'.cell? ⟨b,off+k*4+2,none⟩=some (.string x.v.s)∧w'.cell? ⟨b,off+k*4+3,none⟩=some (.int .i64 x.n):=by
 obtain⟨A',c',hv',h1,h2,-,h3⟩:=h;rw[hv]at hv';injection hv' with e1 e2 e3;subst e1;have a0:=flat_at Tl.cells_len l k 0 (by omega);have a1:=flat_at Tl.cells_len l k 1 (by omega);have a2:=flat_at Tl.cells_len l k 2 (by omega);have a3:=flat_at Tl.cells_len l k 3 (by omega);rw[hk]at a0 a1 a2 a3;simp only[Option.bind_some,Nat.add_zero]at a0 a1 a2 a3;obtain⟨b,off,hA,hc⟩:=h3 (by intro h0;rw[show l.flatMap Tl.cells=tlCells l from rfl,h0]at a0;simp[Tl.cells]at a0);have c0:=hc _ _ a0;have c1:=hc _ _ a1;have c2:=hc _ _ a2;have c3:=hc _ _ a3;exact⟨b,off,hA,World.block_lt_of_cell? w _ c0,fun w' hb=>⟨cell_below hb c0,cell_below hb c1,cell_below hb c2,cell_below hb c3⟩⟩
structure Gm where
 v:Value
 r:List Val
 n:Int
 vb:Value
 bags:List (Value×List Tl)
def Gm.gp (x:Gm):Gp:=⟨x.r,x.n,x.bags.map (·.2)⟩
def Gm.cells (x:Gm):List Value:=[x.v,.int .i64 x.n,x.vb]
theorem Gm.cells_len (x:Gm):x.cells.length=3:=rfl
def gmCells (l:List Gm):List Value:=l.flatMap Gm.cells
theorem gmCells_len (l:List Gm):(gmCells l).length=l.length*3:=flat_len Gm.cells_len l
theorem gmCells_app (a b:List Gm):gmCells (a++b)=gmCells a++gmCells b:=List.flatMap_append
def Gm.agg (x:Gm):Value:= .agg #[x.v,.int .i64 x.n,x.vb]
def gps (l:List Gm):List Gp:=l.map Gm.gp
theorem gps_len (l:List Gm):(gps l).length=l.length:=List.length_map ..
theorem gps_at {l:List Gm}{k:Nat}{x:Gm}(h:l[k]?=some x):(gps l)[k]?=some x.gp:=by simp[gps,h]
structure Gm.ok (w:World) (x:Gm):Prop where
 row:Sl w x.v x.r.length (rowCells x.r)
 sl:Sl w x.vb x.bags.length (x.bags.map (·.1))
 bags: ∀q∈x.bags,Sl w q.1 q.2.length (tlCells q.2)
theorem Gm.ok.below {w w':World}{x:Gm}(h:x.ok w)(hb:Below w.heap.size w w'):x.ok w':=⟨h.row.below hb,h.sl.below hb,fun q hq=>(h.bags q hq).below hb⟩
theorem Gm.ok.drew {w:World}{x:Gm}(h:x.ok w):x.ok w.drew:=⟨h.row,h.sl,h.bags⟩
structure Gms (w:World) (v:Value) (l:List Gm):Prop where
 sl:Sl w v l.length (gmCells l)
 each: ∀x∈l,x.ok w
theorem Gms.below {w w':World}{v:Value}{l:List Gm}(h:Gms w v l)(hb:Below w.heap.size w w'):Gms w' v l:=⟨h.sl.below hb,fun x hx=>(h.each x hx).below hb⟩
theorem Gms.drew {w:World}{v:Value}{l:List Gm}(h:Gms w v l):Gms w.drew v l:=⟨h.sl,fun x hx=>(h.each x hx).drew⟩
theorem Gms.nil (w:World):Gms w (.slice none 0 0) []:=⟨Sl.nil_ w,nofun⟩
theorem gm_at {w:World}{l:List Gm}{v:Value}(h:Sl w v l.length (gmCells l)){A:Option Addr}{n c:Nat}(hv:v= .slice A n c){k:Nat}{x:Gm}(hk:l[k]?=some x):
 ∃b off,A=some ⟨b,off,none⟩∧b<w.heap.size∧ ∀w',Below w.heap.size w w'→
  w'.cell? ⟨b,off+k*3,none⟩=some x.v∧w'.cell? ⟨b,off+k*3+1,none⟩=some (.int .i64 x.n)∧w'.cell? ⟨b,off+k*3+2,none⟩=some x.vb:=by
 obtain⟨A',c',hv',h1,h2,-,h3⟩:=h;rw[hv]at hv';injection hv' with e1 e2 e3;subst e1;have a0:=flat_at Gm.cells_len l k 0 (by omega);have a1:=flat_at Gm.cells_len l k 1 (by omega);have a2:=flat_at Gm.cells_len l k 2 (by omega);rw[hk]at a0 a1 a2;simp only[Option.bind_some,Nat.add_zero]at a0 a1 a2;obtain⟨b,off,hA,hc⟩:=h3 (by intro h0;rw[show l.flatMap Gm.cells=gmCells l from rfl,h0]at a0;simp[Gm.cells]at a0);have c0:=hc _ _ a0;have c1:=hc _ _ a1;have c2:=hc _ _ a2;exact⟨b,off,hA,World.block_lt_of_cell? w _ c0,fun w' hb=>⟨cell_below hb c0,cell_below hb c1,cell_below hb c2⟩⟩
theorem cellv_at {w:World}{α:Type}{l:List α}{f:α→Value}{v:Value}(h:Sl w v l.length (l.map f)){A:Option Addr}{n c:Nat}(hv:v= .slice A n c){k:Nat}{x:α}(hk:l[k]?=some x):
 ∃b off,A=some ⟨b,off,none⟩∧b<w.heap.size∧ ∀w',Below w.heap.size w w'→w'.cell? ⟨b,off+k,none⟩=some (f x):=by
 obtain⟨A',c',hv',h1,h2,-,h3⟩:=h;rw[hv]at hv';injection hv' with e1 e2 e3;subst e1;have a1:(l.map f)[k]?=some (f x):=by simp[hk]
 obtain⟨b,off,hA,hc⟩:=h3 (by intro h0;rw[h0]at a1;simp at a1);have c1:=hc _ _ a1;exact⟨b,off,hA,World.block_lt_of_cell? w _ c1,fun w' hb=>cell_below hb c1⟩
structure Gm.fit (x:Gm):Prop where
 fine:FineG x.gp
 lbag: ∀q∈x.bags,q.2.length≤4398046511104
 lbags:x.bags.length≤5864062014806
 len:x.r.length≤4398046511104
section
open Go.ChangeShapes Go.WideShapes Go.Deep
variable {H:Type} {enc:TypeId×Value→H} {w:World} {base:Nat} {spare:Nat→Bool} {held:Bool}
theorem wf64G {n:Int}(h:(Lit.int .i64 n).wf=true): -9223372036854775808≤n∧n≤9223372036854775807:=by
 have h':IntKind.i64.min≤n∧n≤9223372036854775807:=by simpa[Lit.wf]using h
 have e:IntKind.i64.min= -9223372036854775808:=by decide
 rw[e]at h';exact h'
set_option maxRecDepth 100000 in
theorem valG_trod (fuel:Nat)(cs:List Value)(x:DataW H×List MemPlace)(h:DataW.trod enc Tryz.prog w base spare held fuel 112 cs=some x)(hw:InReach Tryz.prog 112 x.1): ∃v:Val,cs=v.cells∧v.ok:=by
 have hC:Tryz.prog.cellsOf 112=3:=by kernel_rfl
 have hi:Tryz.prog.cellsOf 3=1:=by kernel_rfl
 have hs:Tryz.prog.cellsOf 9=1:=by kernel_rfl
 obtain⟨y0,y1,y2,n,-,hl,h0,h1,h2⟩:=Go.Deep.trod_struct3 Tryz.underlying112 h;rw[hC]at hl;simp only[hs,hi]at h0 h1 h2;obtain⟨s0,e0,-,q0⟩:=DataW.trod_int Tryz.underlying3 h0;obtain⟨s1,e1,-,q1⟩:=DataW.trod_int Tryz.underlying3 h1;obtain⟨s2,e2,-,q2⟩:=DataW.trod_string Tryz.underlying9 h2
 match cs,hl with
 |[a,b,c],_=>
  simp at e0 e1 e2;subst e0 e1 e2;have b0:=wf64G q0;have b1:=wf64G q1;unfold maxLen at q2;exact⟨⟨s0,s1,s2⟩,rfl,b0.1,b0.2,b1.1,b1.2,q2⟩
set_option maxRecDepth 100000 in
theorem rowG_trod {fuel:Nat}{cs:List Value}{x:DataW H×List MemPlace}(h:DataW.trod enc Tryz.prog w base spare held fuel 61 cs=some x)(hw:InReach Tryz.prog 61 x.1): ∃(v:Value) (l:List Val),cs=[v]∧Sl w v l.length (rowCells l)∧Fine l∧l.length≤4398046511104:=by
 obtain⟨v,l,e,hs,hq,hb⟩:=open_flatS (f:=Val.cells) (Q:=Val.ok) (size:=3) Val.cells_len (by omega) Tryz.underlying61 (by kernel_rfl) valG_trod h hw;exact⟨v,l,e,hs,⟨fun x hx=>(hq x hx).2.2.2.2,fun x hx=>⟨(hq x hx).2.2.1,(hq x hx).2.2.2.1⟩⟩,by rw[show Tryz.prog.bytesOf 112=32 from by kernel_rfl]at hb;unfold reachBytes at hb;omega⟩
set_option maxRecDepth 100000 in
theorem tally_trod (fuel:Nat)(cs:List Value)(x:DataW H×List MemPlace)(h:DataW.trod enc Tryz.prog w base spare held fuel 135 cs=some x)(hw:InReach Tryz.prog 135 x.1): ∃c:Tl,cs=c.cells∧Fine [c.v]∧(-9223372036854775808≤c.n∧c.n≤9223372036854775807):=by
 obtain⟨xs,n,_,rfl,hl,hxl,hf⟩:=DataW.trod_struct Tryz.underlying135 h;rw[show Tryz.prog.cellsOf 135=4 from by kernel_rfl]at hl
 match cs,hl with
 |[a,b,c,d],_=>
  have g0:DataW.trod enc Tryz.prog w base spare held n 112 (List.take (Tryz.prog.cellsOf 112) (List.drop 0 [a,b,c,d]))=_:=hf 0 _ rfl;have g1:DataW.trod enc Tryz.prog w base spare held n 3 (List.take (Tryz.prog.cellsOf 3) (List.drop 3 [a,b,c,d]))=_:=hf 1 _ rfl;rw[show Tryz.prog.cellsOf 112=3 from by kernel_rfl]at g0;rw[show Tryz.prog.cellsOf 3=1 from by kernel_rfl]at g1;have g0:DataW.trod enc Tryz.prog w base spare held n 112 [a,b,c]=_:=g0;have g1:DataW.trod enc Tryz.prog w base spare held n 3 [d]=_:=g1;have hxl2:xs.length=2:=hxl;rw[List.getElem?_eq_getElem (by omega)]at g0 g1
  obtain⟨v,ev,hv⟩:=valG_trod _ _ _ g0 (fun m hm=>hw m (by
   simp only[DataW.weights,Tryz.underlying135];exact DataW.weights_mem_each (j:=0) (t:=112) rfl (by rw[List.getElem?_map,List.getElem?_eq_getElem (by rw[hxl];decide)];rfl) m hm))
  obtain⟨s1,e1,-,q1⟩:=DataW.trod_int Tryz.underlying3 g1;simp at e1;subst e1;simp only[Val.cells,List.cons.injEq,and_true]at ev;obtain⟨rfl,rfl,rfl⟩:=ev;exact⟨⟨v,s1⟩,rfl,⟨fun y hy=>by rw[List.mem_singleton.1 hy];exact hv.2.2.2.2,fun y hy=>by rw[List.mem_singleton.1 hy];exact⟨hv.2.2.1,hv.2.2.2.1⟩⟩,wf64G q1⟩
set_option maxRecDepth 100000 in
theorem bag_trod (fuel:Nat)(cs:List Value)(x:DataW H×List MemPlace)(h:DataW.trod enc Tryz.prog w base spare held fuel 107 cs=some x)(hw:InReach Tryz.prog 107 x.1): ∃q:Value×List Tl,cs=[q.1]∧Sl w q.1 q.2.length (tlCells q.2)∧(∀y∈q.2,Fine [y.v]∧(-9223372036854775808≤y.n∧y.n≤9223372036854775807))∧q.2.length≤4398046511104:=by
 obtain⟨v,l,e,hs,hq,hb⟩:=open_flatS (f:=Tl.cells) (Q:=fun c=>Fine [c.v]∧(-9223372036854775808≤c.n∧c.n≤9223372036854775807)) (size:=4) Tl.cells_len (by omega) Tryz.underlying107 (by kernel_rfl) tally_trod h hw;exact⟨⟨v,l⟩,e,hs,hq,by rw[show Tryz.prog.bytesOf 135=40 from by kernel_rfl]at hb;unfold reachBytes at hb;show l.length≤_;omega⟩
theorem flat_firstsG {α:Type}(l:List (Value×α)):(l.flatMap fun p=>[p.1])=l.map (·.1):=by
 induction l with
 |nil=>rfl
 |cons p t ih=>rw[List.flatMap_cons,ih];rfl
set_option maxRecDepth 100000 in
theorem group_trod (fuel:Nat)(cs:List Value)(x:DataW H×List MemPlace)(h:DataW.trod enc Tryz.prog w base spare held fuel 97 cs=some x)(hw:InReach Tryz.prog 97 x.1): ∃g:Gm,cs=g.cells∧g.ok w∧g.fit:=by
 obtain⟨n,hl,hf⟩:=struct_oneS Tryz.underlying97 (hone_of (by kernel_rfl)) (by kernel_rfl) h hw;obtain⟨y0,h0,w0⟩:=hf 0 _ rfl;obtain⟨y1,h1,-⟩:=hf 1 _ rfl;obtain⟨y2,h2,w2⟩:=hf 2 _ rfl;obtain⟨v0,l0,e0,k0,f0,g0⟩:=rowG_trod h0 w0;obtain⟨s1,e1,-,q1⟩:=DataW.trod_int Tryz.underlying3 h1;obtain⟨v2,l2,e2,hs2,hq2,hb2⟩:=open_flatS (f:=fun p:Value×List Tl=>[p.1]) (Q:=fun q=>Sl w q.1 q.2.length (tlCells q.2)∧(∀y∈q.2,Fine [y.v]∧(-9223372036854775808≤y.n∧y.n≤9223372036854775807))∧q.2.length≤4398046511104) (size:=1) (fun _=>rfl) (by omega) Tryz.underlying95 (by kernel_rfl) bag_trod h2 w2
 match cs,hl with
 |[a,b,c],_=>
  simp at e0 e1 e2;subst e0 e1 e2;rw[flat_firstsG]at hs2
  exact⟨⟨a,l0,s1,c,l2⟩,rfl,⟨k0,hs2,fun q hq=>(hq2 q hq).1⟩,⟨⟨f0,wf64G q1,fun b hb x hx=>by obtain⟨q,hq,rfl⟩:=List.mem_map.1 hb;exact(hq2 q hq).2.1 x hx⟩,fun q hq=>(hq2 q hq).2.2,
   by rw[show Tryz.prog.bytesOf 107=24 from by kernel_rfl]at hb2;unfold reachBytes at hb2;show l2.length≤_;omega,g0⟩⟩
set_option maxRecDepth 100000 in
theorem open_groups {r:Reach}{b0:Nat}{v:Value}{d:DataW H}{p:List MemPlace}(hv:Value.okWide Tryz.prog w r b0 26 v)(h:DataW.Trod enc Tryz.prog w base spare held 26 v d p)(hw:InReach Tryz.prog 26 d):
 ∃l:List Gm,Gms w v l∧ ∀x∈l,x.fit:=by
 obtain⟨a,len,cap,rfl⟩:=okWide_slice Tryz.underlying26 hv;obtain⟨fuel,hf⟩:=h;obtain⟨u,l,e,hsl,hq,-⟩:=open_flatS (f:=Gm.cells) (Q:=fun g=>g.ok w∧g.fit) (size:=3) Gm.cells_len (by omega) Tryz.underlying26 (by kernel_rfl) group_trod hf hw;have:(Value.slice a len cap)=u:=by simpa[Value.cells]using e
 rw[this];exact⟨l,⟨hsl,fun g hg=>(hq g hg).1⟩,fun g hg=>(hq g hg).2⟩
end
end Go.Proofs.YtblhidmkalleoaaGreatDoor
namespace Go.Proofs.YtblhidmkalleoaaGreatDoor
open Go.RowKit Go.Maps
set_option maxHeartbeats 4000000 in
set_option maxRecDepth 10000 in
theorem typesFit_any (v vt:Value)(r:List Val)(t:List Int)(w:World)(hr:Sl w v r.length (rowCells r))(ht:Sl w vt t.length (intCells t))(hl:r.length=t.length):
 Calls Tryz.prog 72 #[v,vt] w fun e w'=>e= .returned (.bool (allB fitOne (t.zip r)))∧Below w.heap.size w w':=by
 have HTT:=Lib.hid ht;have HV:=Lib.hid hr;obtain⟨A0,c0,rfl,n0,m0,-⟩:=ht;obtain⟨A,c,rfl,n2,m2,-⟩:=hr;unfold maxLen at m0 m2;obtain⟨R,hR⟩: ∃R:Bool,R=allB fitOne (t.zip r):=⟨_,rfl⟩;rw[←hR];have HR:=Lib.hid hR;have HLE:=Lib.hid hl;have hle:r.length≤t.length:=by omega
 clear hl hR;go_enter Tryz.func72,Tryz.ntmps72
 go_wp2_with fail
 go_loopw[5,6,9] (fun _ _ i wr=> ∃k:Nat,k≤r.length∧i= .int .i64 k∧Hid (∀x∈(t.zip r).take k,fitOne x=true)∧Below w.heap.size w wr) (fun _ _ i _=>r.length-(intOf i).toNat)
 case atStart=>exact⟨0,by omega,rfl,by simp[Hid],Below.refl _ _⟩
 case round=>
  obtain⟨k,hk,rfl,H,hbw⟩:=hrel;by_cases hlt:k<r.length
  ·have hx:=List.getElem?_eq_getElem (l:=r) hlt
   generalize r[k]=x at hx;obtain⟨g,off,rfl,-,hc⟩:=val_at HV.out rfl hx;obtain⟨d1,d2,d3⟩:=hc _ hbw;have hlt2:k<t.length:=by omega
   obtain⟨bt,ot,hAt,-,hct⟩:=int_at HTT.out rfl hlt2;have hbw2:=hbw.alloc hbw.size (.cells #[.int .i64 x.k,.int .i64 x.n,.string x.s] 112);have d4:=hct _ hbw2;have gt:t[k]?=some (t.getD k 0):=by simp[hlt2]
   generalize t.getD k 0=y at d4 gt;have HG:=Lib.hid (show(t.zip r)[k]?=some (y,x)from by rw[List.getElem?_zip_eq_some];exact⟨gt,hx⟩);have HFO:=Lib.hid (show fitOne (y,x)=(x.k==0||x.k==y)from rfl);clear hx hc hct gt;subst hAt;have k0:(0:Int)≤(k:Int):=by omega
   have k1:(k:Int)<(t.length:Int):=by omega
   cases hq:(x.k==0)
   ·have hq2:=bne_of hq
    simp only[Bool.not_false]at hq2;cases hz:(x.k==y)
    ·have hz2:=bne_of hz
     simp only[Bool.not_false]at hz2;have e1:=Lib.hid (all_no (f:=fitOne) HG.out (by rw[HFO.out,hq,hz];rfl));have EE:Hid (R=false):=Lib.hid (by rw[HR.out,e1.out])
     go_wp2_with fail
     go_quiet (fail)
     go_wp2;go_ret;exact⟨by rw[EE.out];rfl,below_drewN hbw2 _⟩
    ·have hz2:=bne_of hz
     simp only[Bool.not_true]at hz2;have e1:=Lib.hid (all_step (f:=fitOne) H.out HG.out (by rw[HFO.out,hz,Bool.or_true]))
     go_wp2_with fail
     go_quiet (fail)
     go_wp2;go_roundw
     case rel=>exact⟨k+1,by omega,by go_num,e1.out,below_drewN hbw2 _⟩
     case measure=>simp[intOf];omega
   ·have hq2:=bne_of hq
    simp only[Bool.not_true]at hq2;have e1:=Lib.hid (all_step (f:=fitOne) H.out HG.out (by rw[HFO.out,hq,Bool.true_or]))
    go_wp2_with fail
    go_quiet (fail)
    go_wp2;go_roundw
    case rel=>exact⟨k+1,by omega,by go_num,e1.out,below_drewN hbw2 _⟩
    case measure=>simp[intOf];omega
  ·obtain rfl:k=r.length:=by omega
   have e1:=Lib.hid (show allB fitOne (t.zip r)=true from all_yes (by
    have hzl:(t.zip r).length=r.length:=by rw[List.length_zip];omega
    rw[hzl];exact H.out))
   have EE:Hid (R=true):=Lib.hid (by rw[HR.out,e1.out]);go_wp2;go_ret;exact⟨by rw[EE.out];rfl,hbw⟩
end Go.Proofs.YtblhidmkalleoaaGreatDoor
