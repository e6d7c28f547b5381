/-Plain law: the groups of a view, and what a change makes of them. -/
import Derived.Test.YtjhbeecmdgglgaaGreatDoorGrpV14
import Derived.Test.YtjhbeecmdgglgaaGreatDoorGrpV24
set_option linter.unusedSimpArgs false
set_option linter.unusedVariables false
namespace Go.Proofs.YtjhbeecmdgglgaaGreatDoor
def sumBy (f:List Val→Bool):AV→Int
 |[]=>0
 |q::A=>(if f q.1=true then q.2 else 0)+sumBy f A
theorem sumBy_put {f:List Val→Bool}{A:AV}{r:List Val}{n:Int}(h:Rises A)(hr:GoodR r):sumBy f (putA A r n)=sumBy f A+if f r=true then n-lookA A r else 0:=by
 induction A with
 |nil=>simp[putA,sumBy,lookA]
 |cons x t ih=>
  obtain⟨x,m⟩:=x;have hx:=h.head.1;unfold putA;rw[look_good hx hr];by_cases e:rowsF x r=0
  ·have e':=(rowsF_zero hx hr).1 e
   subst e';rw[if_pos e,if_pos rfl];show(if f x=true then n else 0)+sumBy f t=(if f x=true then m else 0)+sumBy f t+_;split<;>omega
  ·have e': ¬x=r:=fun h=>e ((rowsF_zero hx hr).2 h)
   rw[if_neg e,if_neg e'];by_cases e2:rowsF x r<0
   ·rw[if_pos e2]
    show(if f x=true then m else 0)+sumBy f (putA t r n)=(if f x=true then m else 0)+sumBy f t+_;rw[ih h.tail];omega
   ·rw[if_neg e2]
    have hz:lookA t r=0:=by
     refine look_none fun q hq e3=> ?_;have hq':=h.tail.good q hq;have e4:=(rowsF_zero hq' hr).1 e3;have h5:=(List.pairwise_cons.1 h.rise).1 q hq;simp only at h5;rw[e4]at h5;omega
    rw[hz];show(if f r=true then n else 0)+((if f x=true then m else 0)+sumBy f t)=(if f x=true then m else 0)+sumBy f t+_;split<;>omega
theorem sumBy_del {f:List Val→Bool}{A:AV}{r:List Val}(h:Rises A)(hr:GoodR r):sumBy f (delA A r)=sumBy f A-if f r=true then lookA A r else 0:=by
 induction A with
 |nil=>simp[delA,sumBy,lookA]
 |cons x t ih=>
  obtain⟨x,m⟩:=x;have hx:=h.head.1;unfold delA;rw[look_good hx hr];by_cases e:rowsF x r=0
  ·have e':=(rowsF_zero hx hr).1 e
   subst e';rw[if_pos e,if_pos rfl];show sumBy f t=(if f x=true then m else 0)+sumBy f t-_;split<;>omega
  ·have e': ¬x=r:=fun h=>e ((rowsF_zero hx hr).2 h)
   rw[if_neg e,if_neg e'];show(if f x=true then m else 0)+sumBy f (delA t r)=(if f x=true then m else 0)+sumBy f t-_;rw[ih h.tail];omega
theorem sumBy_add {f:List Val→Bool}{A:AV}{r:List Val}{n:Int}(h:Rises A)(hr:GoodR r)(h0:(addR A r n).2=0):sumBy f (addR A r n).1=sumBy f A+if f r=true then n else 0:=by
 obtain⟨-,-,-,e⟩:=addR_ok h0;rw[e];by_cases hz:lookA A r+n=0
 ·rw[if_pos hz,sumBy_del h hr]
  split<;>omega
 ·rw[if_neg hz,sumBy_put h hr]
  split<;>omega
theorem sumBy_nonneg {f:List Val→Bool}: ∀ {A:AV},(∀q∈A,1≤q.2)→0≤sumBy f A
 |[],_=>Int.le_refl _
 |q::A,h=>by
  have h1:=h q (by simp);have h2:=sumBy_nonneg (f:=f) (A:=A) fun r hr=>h r (by simp[hr]);show 0≤(if f q.1=true then q.2 else 0)+sumBy f A;split<;>omega
theorem sumBy_le {f g:List Val→Bool}(hfg: ∀r,f r=true→g r=true): ∀ {A:AV},(∀q∈A,1≤q.2)→sumBy f A≤sumBy g A
 |[],_=>Int.le_refl _
 |q::A,h=>by
  have h1:=h q (by simp);have h2:=sumBy_le hfg (A:=A) fun r hr=>h r (by simp[hr]);show(if f q.1=true then q.2 else 0)+sumBy f A≤(if g q.1=true then q.2 else 0)+sumBy g A;by_cases e:f q.1=true
  ·rw[if_pos e,if_pos (hfg _ e)];omega
  ·rw[if_neg e];split<;>omega
theorem look_sumBy {f:List Val→Bool}{r:List Val}(hr:GoodR r)(hf:f r=true): ∀ {A:AV},Rises A→(∀q∈A,1≤q.2)→lookA A r≤sumBy f A
 |[],_,_=>Int.le_refl _
 |q::A,h,hn=>by
  obtain⟨x,m⟩:=q;have h1:=hn (x,m) (by simp);have h2:=look_sumBy hr hf (A:=A) h.tail fun r hr=>hn r (by simp[hr]);have h3:=sumBy_nonneg (f:=f) (A:=A) fun r hr=>hn r (by simp[hr]);rw[look_good h.head.1 hr];show _≤(if f x=true then m else 0)+sumBy f A;by_cases e:x=r
  ·subst e
   rw[if_pos rfl,if_pos hf];omega
  ·rw[if_neg e];split<;>omega
theorem sumBy_pos {f:List Val→Bool}: ∀ {A:AV},(∀q∈A,1≤q.2)→(0<sumBy f A↔ ∃q∈A,f q.1=true)
 |[],_=>by simp[sumBy]
 |q::A,h=>by
  have h1:=h q (by simp);have h2:=sumBy_pos (f:=f) (A:=A) fun r hr=>h r (by simp[hr]);have h3:=sumBy_nonneg (f:=f) (A:=A) fun r hr=>h r (by simp[hr]);show 0<(if f q.1=true then q.2 else 0)+sumBy f A↔_;constructor
  ·intro h4
   by_cases e:f q.1=true
   ·exact⟨q,by simp,e⟩
   ·rw[if_neg e]at h4
    obtain⟨r,hr,e2⟩:=h2.1 (by omega);exact⟨r,by simp[hr],e2⟩
  ·rintro⟨r,hr,e⟩
   rcases List.mem_cons.1 hr with rfl|hr
   ·rw[if_pos e];omega
   ·have:=h2.2 ⟨r,hr,e⟩
    split<;>omega
def cntK (p:Pl) (A:AV) (k:List Val):Int:=sumBy (fun x=>decide (cellsG p x=k)) A
def cntV (p:Pl) (A:AV) (k:List Val) (col:Nat) (v:Val):Int:=sumBy (fun x=>decide (cellsG p x=k)&&decide (x.getD col nullG=v)) A
def lookT:List Tl→Val→Int
 |[],_=>0
 |x::l,v=>if x.v=v then x.n else lookT l v
theorem lookT_none {l:List Tl}{v:Val}(h: ∀x∈l,x.v≠v):lookT l v=0:=by
 induction l with
 |nil=>rfl
 |cons x l ih=>
  unfold lookT;rw[if_neg (h x (by simp))];exact ih fun y hy=>h y (by simp[hy])
theorem cmpV_me {v:Val}(h:GoodR [v]):cmpV v v=0:=(cmpV_zero h h).2 rfl
theorem cmpV_ne {a b:Val}(ha:GoodR [a])(hb:GoodR [b])(h:cmpV a b≠0):a≠b:=fun e=>h ((cmpV_zero ha hb).2 e)
theorem tally_look {t:Int}{bag:List Tl}{v:Val}{n:Int}(h:GoodT t bag)(hv:GoodR [v])(hn:n=1∨n= -1)(h1:n= -1→1≤lookT bag v):
 (tallyG bag v n).2=true∧ ∀u,GoodR [u]→lookT (tallyG bag v n).1 u=lookT bag u+if u=v then n else 0:=by
 induction bag with
 |nil=>
  have hn1:n=1:=by
   rcases hn with hn|hn
   ·exact hn
   ·have:=h1 hn;simp[lookT]at this
  subst hn1;refine⟨rfl,fun u _=> ?_⟩;show(if v=u then(1:Int)else 0)=0+_;by_cases e:v=u
  ·rw[if_pos e,if_pos e.symm];rfl
  ·rw[if_neg e,if_neg fun h=>e h.symm];rfl
 |cons x l ih=>
  have hx:=(h.vals x (by simp)).1;have hl:GoodT t l:=⟨fun y hy=>h.vals y (by simp[hy]),(List.pairwise_cons.1 h.rise).2⟩;have hxl:=(List.pairwise_cons.1 h.rise).1;unfold tallyG;by_cases c1:cmpV x.v v<0
  ·have hne:x.v≠v:=cmpV_ne hx hv (by omega)
   rw[if_pos c1];obtain⟨i1,i2⟩:=ih hl (fun e=>by have:=h1 e;unfold lookT at this;rwa[if_neg hne]at this);refine⟨i1,fun u hu=> ?_⟩;show(if x.v=u then x.n else lookT (tallyG l v n).1 u)=(if x.v=u then x.n else lookT l u)+_;by_cases e:x.v=u
   ·rw[if_pos e,if_pos e,if_neg (fun e2=>hne (e.trans e2))];omega
   ·rw[if_neg e,if_neg e,i2 u hu]
  ·rw[if_neg c1]
   by_cases c2:cmpV x.v v=0
   ·rw[if_pos c2]
    have e:=(cmpV_zero hx hv).1 c2;subst e
    have hnone: ∀u,x.v=u→lookT l u=0:=fun u e=>lookT_none fun y hy e2=>by
     have h3:=hxl y hy;rw[e2,←e,cmpV_me hx]at h3;omega
    refine⟨by split<;>rfl,fun u hu=> ?_⟩;by_cases c3:x.n+n=0
    ·rw[if_pos c3]
     show lookT l u=(if x.v=u then x.n else lookT l u)+_;by_cases e:x.v=u
     ·rw[if_pos e,if_pos e.symm,hnone u e];omega
     ·rw[if_neg e,if_neg fun h=>e h.symm];omega
    ·rw[if_neg c3]
     show(if x.v=u then x.n+n else lookT l u)=(if x.v=u then x.n else lookT l u)+_;by_cases e:x.v=u
     ·rw[if_pos e,if_pos e,if_pos e.symm]
     ·rw[if_neg e,if_neg e,if_neg fun h=>e h.symm];omega
   ·rw[if_neg c2]
    have hall: ∀y∈x::l,y.v≠v:=fun y hy e=>by
     rcases List.mem_cons.1 hy with rfl|hy
     ·rw[e,cmpV_me hv]at c2;exact c2 rfl
     ·have h3:=hxl y hy
      rw[e]at h3;exact c1 h3
    have hn1:n=1:=by
     rcases hn with hn|hn
     ·exact hn
     ·have:=h1 hn;rw[lookT_none hall]at this;omega
    subst hn1;refine⟨rfl,fun u hu=> ?_⟩;show(if v=u then(1:Int)else lookT (x::l) u)=lookT (x::l) u+_;by_cases e:v=u
    ·subst e
     rw[if_pos rfl,if_pos rfl,lookT_none hall];rfl
    ·rw[if_neg e,if_neg fun h=>e h.symm];omega
theorem bags_look {r:List Val}{n:Int}: ∀ {al:List (Int×Int)} {bs:List (List Tl)},bs.length=al.length→(∀(i:Nat) (a:Int×Int) (b:List Tl),al[i]?=some a→bs[i]?=some b→a.1≠1→(tallyG b (r.getD a.2.toNat nullG) n).2=true)→
 (bagsG r n al bs).2=true∧(bagsG r n al bs).1.length=al.length∧ ∀(i:Nat) (a:Int×Int) (b:List Tl),al[i]?=some a→bs[i]?=some b→(bagsG r n al bs).1[i]?=some (if a.1=1 then b else(tallyG b (r.getD a.2.toNat nullG) n).1)
 |[],bs,hl,_=>by
  have:bs=[]:=List.eq_nil_of_length_eq_zero hl;subst this;exact⟨rfl,rfl,fun i a b h=>by simp at h⟩
 |a::al,[],hl,_=>by simp at hl
 |a::al,b::bs,hl,h=>by
  obtain⟨i1,i2,i3⟩:=bags_look (r:=r) (n:=n) (al:=al) (bs:=bs) (by simpa using hl) fun i a' b' ha hb=>h (i+1) a' b' (by simpa using ha) (by simpa using hb)
  have h0:=h 0 a b rfl rfl;unfold bagsG;by_cases e:a.1=1
  ·rw[if_pos e]
   refine⟨i1,by simp[i2],fun i a' b' ha hb=> ?_⟩;cases i with
   |zero=>
    simp only[List.getElem?_cons_zero,Option.some.injEq]at ha hb⊢;subst ha hb;rw[if_pos e]
   |succ i=>
    simp only[List.getElem?_cons_succ]at ha hb⊢;exact i3 i a' b' ha hb
  ·rw[if_neg e,if_pos (h0 e)]
   refine⟨i1,by simp[i2],fun i a' b' ha hb=> ?_⟩;cases i with
   |zero=>
    simp only[List.getElem?_cons_zero,Option.some.injEq]at ha hb⊢;subst ha hb;rw[if_neg e]
   |succ i=>
    simp only[List.getElem?_cons_succ]at ha hb⊢;exact i3 i a' b' ha hb
structure GrpOf (p:Pl) (A:AV) (G:List Gp):Prop where
 good:GoodGs p G
 has: ∀k,GoodR k→((∃g∈G,g.r=k)↔0<cntK p A k)
 num: ∀g∈G,g.n=cntK p A g.r
 bag: ∀g∈G,∀(i:Nat) (a:Int×Int) (b:List Tl),p.aggs[i]?=some a→g.bags[i]?=some b→a.1≠1→ ∀v,GoodR [v]→lookT b v=cntV p A g.r a.2.toNat v
theorem GrpOf.start (p:Pl):GrpOf p [] []:=by
 refine⟨⟨by simp,nofun,.nil⟩,fun k _=>⟨?_,fun h=> ?_⟩,nofun,nofun⟩
 ·rintro⟨g,hg,_⟩
  cases hg
 ·exact absurd h (by unfold cntK sumBy;omega)
theorem cntK_add {p:Pl}{A:AV}{r k:List Val}{n:Int}(h:Rises A)(hr:GoodR r)(h0:(addR A r n).2=0):cntK p (addR A r n).1 k=cntK p A k+if cellsG p r=k then n else 0:=by
 unfold cntK;rw[sumBy_add h hr h0];by_cases e:cellsG p r=k
 ·rw[if_pos (decide_eq_true e),if_pos e]
 ·rw[if_neg (by simpa using e),if_neg e]
theorem cntV_add {p:Pl}{A:AV}{r k:List Val}{col:Nat}{v:Val}{n:Int}(h:Rises A)(hr:GoodR r)(h0:(addR A r n).2=0):cntV p (addR A r n).1 k col v=cntV p A k col v+if cellsG p r=k∧r.getD col nullG=v then n else 0:=by
 unfold cntV;rw[sumBy_add h hr h0];by_cases e:cellsG p r=k∧r.getD col nullG=v
 ·rw[if_pos (by rw[decide_eq_true e.1,decide_eq_true e.2];rfl),if_pos e]
 ·rw[if_neg (fun h=>e (by rw[Bool.and_eq_true,decide_eq_true_eq,decide_eq_true_eq]at h;exact h)),if_neg e]
theorem getD_goodG {r:List Val}(h:GoodR r)(i:Nat):GoodR [r.getD i nullG]:=getD_good h i
theorem grp_bag {p:Pl}{g:Gp}(h:GoodG1 p g){i:Nat}{a:Int×Int}{b:List Tl}(ha:p.aggs[i]?=some a)(hb:g.bags[i]?=some b)(hne:a.1≠1):GoodT ((allT p).getD a.2.toNat 0) b:=by
 rcases h.bags (a,b) (List.mem_iff_getElem?.2 ⟨i,by rw[List.getElem?_zip_eq_some];exact⟨ha,hb⟩⟩)with h1|h1
 ·exact absurd h1.1 hne
 ·exact h1.2.1
theorem grp_step {p:Pl}{A:AV}{G:List Gp}{c:Int×List Val}(hp:checkP p=0)(hg:p.grouped=true)(hA:Rises A)(hn: ∀q∈A,1≤q.2)(h:GrpOf p A G)(hc:TypedG p c.2)(h0:(addR A c.2 (stepI c.1)).2=0):
 (turnG p G c).2=2∨((turnG p G c).2=0∧GrpOf p (addR A c.2 (stepI c.1)).1 (turnG p G c).1):=by
 obtain⟨k1,k2,k3⟩:=cells_good hp hg hc;have hs:=stepI_two c.1;obtain⟨s1,s2,s3⟩:=place_split h.good.rise (fun g hg=>(h.good.each g hg).row) k1;have hlook:=addR_ok h0;have hK:=fun k=>cntK_add (p:=p) (k:=k) hA hc.good h0;have hV:=fun k col v=>cntV_add (p:=p) (k:=k) (col:=col) (v:=v) hA hc.good h0;have hwas:stepI c.1= -1→1≤lookA A c.2:=fun e=>by have:=hlook.1;omega
 have hwasK:stepI c.1= -1→1≤cntK p A (cellsG p c.2):=fun e=>Int.le_trans (hwas e) (look_sumBy hc.good (decide_eq_true rfl) hA hn);have hwasV:stepI c.1= -1→ ∀col,1≤cntV p A (cellsG p c.2) col (c.2.getD col nullG):=fun e col=>Int.le_trans (hwas e) (look_sumBy hc.good (by rw[decide_eq_true rfl,decide_eq_true rfl];rfl) hA hn);generalize (addR A c.2 (stepI c.1)).1=A' at hK hV⊢;have tg:(turnG p G c).2=0→GoodGs p (turnG p G c).1:=turn_good hp hg h.good hc;cases hh:hasG G (cellsG p c.2)with
 |true=>
  obtain⟨g,e1,e2,e3⟩:=s2 hh;have eg:G.getD (placeG G (cellsG p c.2)) (gp0 p [])=g:=by simp[List.getD,e1]
  have hgm:g∈G:=List.mem_of_getElem? e1;have gg:=h.good.each g hgm
  have hb:=bags_look (r:=c.2) (n:=stepI c.1) (al:=p.aggs) (bs:=g.bags) gg.bl fun i a b ha hb hne=>
   (tally_look (grp_bag gg ha hb hne) (getD_goodG hc.good _) hs fun e=>by
    rw[h.bag g hgm i a b ha hb hne _ (getD_goodG hc.good _),e2];exact hwasV e _).1
  obtain⟨b1,b2,b3⟩:=hb
  have hturn:turnG p G c=if 0<stepI c.1∧g.n=1073741824 then([],2)else
   (G.take (placeG G (cellsG p c.2))++((if g.n+stepI c.1=0 then[]else[⟨g.r,g.n+stepI c.1,(bagsG c.2 (stepI c.1) p.aggs g.bags).1⟩])++G.drop (placeG G (cellsG p c.2)+1)),0):=by
   unfold turnG;rw[hh,if_pos rfl,eg,b1,if_pos rfl]
  by_cases hmax:0<stepI c.1∧g.n=1073741824
  ·rw[hturn,if_pos hmax]
   exact .inl rfl
  ·rw[if_neg hmax]at hturn
   rw[hturn]at tg⊢;refine .inr ⟨rfl,?_⟩;have tg:=tg rfl;simp only at tg⊢
   have hGs: ∀x∈G,x∈G.take (placeG G (cellsG p c.2))∨x=g∨x∈G.drop (placeG G (cellsG p c.2)+1):=fun x hx=>by
    rw[←List.take_append_drop (placeG G (cellsG p c.2)) G]at hx;rcases List.mem_append.1 hx with hx|hx
    ·exact .inl hx
    ·have hi:=(List.getElem?_eq_some_iff.1 e1)
     rw[List.drop_eq_getElem_cons hi.1,hi.2]at hx;rcases List.mem_cons.1 hx with hx|hx
     ·exact .inr (.inl hx)
     ·exact .inr (.inr hx)
   have hside: ∀x,x∈G.take (placeG G (cellsG p c.2))∨x∈G.drop (placeG G (cellsG p c.2)+1)→x∈G∧x.r≠cellsG p c.2:=fun x hx=>by
    rcases hx with hx|hx
    ·refine⟨List.mem_of_mem_take hx,fun e=> ?_⟩
     have:=s1 x hx;rw[e,rowsF_self k1]at this;omega
    ·refine⟨List.mem_of_mem_drop hx,fun e=> ?_⟩
     have:=e3 x hx;rw[e,rowsF_self k1]at this;omega
   have hmem: ∀x,x∈G.take (placeG G (cellsG p c.2))++((if g.n+stepI c.1=0 then[]else[⟨g.r,g.n+stepI c.1,(bagsG c.2 (stepI c.1) p.aggs g.bags).1⟩])++G.drop (placeG G (cellsG p c.2)+1))↔
    (x∈G∧x.r≠cellsG p c.2)∨(g.n+stepI c.1≠0∧x=⟨g.r,g.n+stepI c.1,(bagsG c.2 (stepI c.1) p.aggs g.bags).1⟩):=fun x=>by
    constructor
    ·intro hx
     rcases List.mem_append.1 hx with hx|hx
     ·exact .inl (hside x (.inl hx))
     ·rcases List.mem_append.1 hx with hx|hx
      ·by_cases hz:g.n+stepI c.1=0
       ·rw[if_pos hz]at hx;cases hx
       ·rw[if_neg hz]at hx
        exact .inr ⟨hz,List.mem_singleton.1 hx⟩
      ·exact .inl (hside x (.inr hx))
    ·rintro(⟨hx,hne⟩|⟨hz,rfl⟩)
     ·rcases hGs x hx with hx|rfl|hx
      ·exact List.mem_append_left _ hx
      ·exact absurd e2 hne
      ·exact List.mem_append_right _ (List.mem_append_right _ hx)
     ·exact List.mem_append_right _ (List.mem_append_left _ (by rw[if_neg hz];simp))
   have hnum:=h.num g hgm;rw[e2]at hnum;refine⟨tg,fun k hk=> ?_,fun x hx=> ?_,fun x hx i a b ha hb hne v hv=> ?_⟩
   ·rw[hK k]
    by_cases e:cellsG p c.2=k
    ·subst e
     rw[if_pos rfl];constructor
     ·rintro⟨x,hx,e⟩
      rcases(hmem x).1 hx with⟨-,hne⟩|⟨hz,rfl⟩
      ·exact absurd e hne
      ·have:=gg.num;rcases hs with h1|h1<;>omega
     ·intro hpos
      exact⟨⟨g.r,g.n+stepI c.1,(bagsG c.2 (stepI c.1) p.aggs g.bags).1⟩,(hmem _).2 (.inr ⟨by omega,rfl⟩),e2⟩
    ·rw[if_neg e,Int.add_zero,←h.has k hk]
     constructor
     ·rintro⟨x,hx,e4⟩
      rcases(hmem x).1 hx with⟨hx,-⟩|⟨-,rfl⟩
      ·exact⟨x,hx,e4⟩
      ·exact absurd (e2.symm.trans e4) e
     ·rintro⟨x,hx,e4⟩
      exact⟨x,(hmem x).2 (.inl ⟨hx,fun e5=>e (e5.symm.trans e4)⟩),e4⟩
   ·rcases(hmem x).1 hx with⟨hx,hne⟩|⟨-,rfl⟩
    ·rw[hK x.r,if_neg (fun e=>hne e.symm),Int.add_zero]
     exact h.num x hx
    ·show g.n+stepI c.1=cntK p A' g.r
     rw[hK g.r,if_pos e2.symm,e2,hnum]
   ·rcases(hmem x).1 hx with⟨hx,hne'⟩|⟨-,rfl⟩
    ·rw[hV x.r a.2.toNat v,if_neg (fun e=>hne' e.1.symm),Int.add_zero]
     exact h.bag x hx i a b ha hb hne v hv
    ·have hil:i<p.aggs.length:=(List.getElem?_eq_some_iff.1 ha).1
     have hb0:=List.getElem?_eq_getElem (l:=g.bags) (i:=i) (by rw[gg.bl];exact hil);generalize g.bags[i]'(by rw[gg.bl];exact hil)=b0 at hb0;have hb4:=b3 i a b0 ha hb0;rw[if_neg hne]at hb4;have hb:(bagsG c.2 (stepI c.1) p.aggs g.bags).1[i]?=some b:=hb;rw[hb4]at hb;injection hb with hb;subst hb
     have ht:=(tally_look (v:=c.2.getD a.2.toNat nullG) (grp_bag gg ha hb0 hne) (getD_goodG hc.good _) hs fun e=>by
      rw[h.bag g hgm i a b0 ha hb0 hne _ (getD_goodG hc.good _),e2];exact hwasV e _).2 v hv
     rw[ht,h.bag g hgm i a b0 ha hb0 hne v hv];show _=cntV p A' g.r a.2.toNat v;rw[hV g.r a.2.toNat v,e2]
     congr 1
     by_cases e:v=c.2.getD a.2.toNat nullG
     ·rw[if_pos e,if_pos ⟨rfl,e.symm⟩]
     ·rw[if_neg e,if_neg fun h=>e h.2.symm]
 |false=>
  have hnone: ¬ ∃g∈G,g.r=cellsG p c.2:=by
   rintro⟨x,hx,e⟩;rw[←List.take_append_drop (placeG G (cellsG p c.2)) G]at hx;rcases List.mem_append.1 hx with hx|hx
   ·have:=s1 x hx;rw[e,rowsF_self k1]at this;omega
   ·have:=s3 hh x hx;rw[e,rowsF_self k1]at this;omega
  have hz: ¬0<cntK p A (cellsG p c.2):=fun h1=>hnone ((h.has _ k1).2 h1)
  have hpos:stepI c.1=1:=by
   rcases hs with h1|h1
   ·exact h1
   ·have:=hwasK h1;omega
  have hz0:cntK p A (cellsG p c.2)=0:=by
   have:=sumBy_nonneg (f:=fun x=>decide (cellsG p x=cellsG p c.2)) hn;unfold cntK at hz⊢;omega
  have hv0: ∀col v,cntV p A (cellsG p c.2) col v=0:=fun col v=>by
   have h1:=sumBy_le (f:=fun x=>decide (cellsG p x=cellsG p c.2)&&decide (x.getD col nullG=v)) (g:=fun x=>decide (cellsG p x=cellsG p c.2)) (fun r hr=>by rw[Bool.and_eq_true]at hr;exact hr.1) hn;have h2:=sumBy_nonneg (f:=fun x=>decide (cellsG p x=cellsG p c.2)&&decide (x.getD col nullG=v)) hn;unfold cntK at hz0;unfold cntV;omega
  by_cases hfull:G.length=4096
  ·left
   unfold turnG;rw[hh,if_neg (by simp),if_neg (by omega),if_pos hfull]
  ·have g0:(gp0 p []).bags.length=p.aggs.length:=(bags_none p).1
   have gb: ∀i b,(gp0 p []).bags[i]?=some b→b=[]:=fun i b hb=>by
    have:=List.mem_of_getElem? hb;unfold gp0 at this;obtain⟨a,-,e⟩:=List.mem_map.1 this;exact e.symm
   have hb:=bags_look (r:=c.2) (n:=stepI c.1) (al:=p.aggs) (bs:=(gp0 p []).bags) g0 fun i a b ha hb hne=>by
    rw[gb i b hb,hpos];rfl
   obtain⟨b1,b2,b3⟩:=hb
   have hturn:turnG p G c=(G.take (placeG G (cellsG p c.2))++⟨cellsG p c.2,stepI c.1,(bagsG c.2 (stepI c.1) p.aggs (gp0 p []).bags).1⟩::G.drop (placeG G (cellsG p c.2)),0):=by
    unfold turnG;rw[hh,if_neg (by simp),if_neg (by omega),if_neg hfull,b1,if_pos rfl]
   rw[hturn]at tg⊢;refine .inr ⟨rfl,?_⟩;have tg:=tg rfl;simp only at tg⊢
   have hmem: ∀x,x∈G.take (placeG G (cellsG p c.2))++⟨cellsG p c.2,stepI c.1,(bagsG c.2 (stepI c.1) p.aggs (gp0 p []).bags).1⟩::G.drop (placeG G (cellsG p c.2))↔
    x∈G∨x=⟨cellsG p c.2,stepI c.1,(bagsG c.2 (stepI c.1) p.aggs (gp0 p []).bags).1⟩:=fun x=>by
    constructor
    ·intro hx
     rcases List.mem_append.1 hx with hx|hx
     ·exact .inl (List.mem_of_mem_take hx)
     ·rcases List.mem_cons.1 hx with hx|hx
      ·exact .inr hx
      ·exact .inl (List.mem_of_mem_drop hx)
    ·rintro(hx|rfl)
     ·rw[←List.take_append_drop (placeG G (cellsG p c.2)) G]at hx
      rcases List.mem_append.1 hx with hx|hx
      ·exact List.mem_append_left _ hx
      ·exact List.mem_append_right _ (List.mem_cons_of_mem _ hx)
     ·exact List.mem_append_right _ (List.mem_cons_self ..)
   refine⟨tg,fun k hk=> ?_,fun x hx=> ?_,fun x hx i a b ha hb hne v hv=> ?_⟩
   ·rw[hK k]
    by_cases e:cellsG p c.2=k
    ·subst e
     rw[if_pos rfl];exact⟨fun _=>by omega,fun _=>⟨_,(hmem _).2 (.inr rfl),rfl⟩⟩
    ·rw[if_neg e,Int.add_zero,←h.has k hk]
     constructor
     ·rintro⟨x,hx,e4⟩
      rcases(hmem x).1 hx with hx|rfl
      ·exact⟨x,hx,e4⟩
      ·exact absurd e4 e
     ·rintro⟨x,hx,e4⟩
      exact⟨x,(hmem x).2 (.inl hx),e4⟩
   ·rcases(hmem x).1 hx with hx|rfl
    ·rw[hK x.r,if_neg (fun e=>hnone ⟨x,hx,e.symm⟩),Int.add_zero]
     exact h.num x hx
    ·show stepI c.1=cntK p A' (cellsG p c.2)
     rw[hK,if_pos rfl];omega
   ·rcases(hmem x).1 hx with hx|rfl
    ·rw[hV x.r a.2.toNat v,if_neg (fun e=>hnone ⟨x,hx,e.1.symm⟩),Int.add_zero]
     exact h.bag x hx i a b ha hb hne v hv
    ·have hil:i<p.aggs.length:=(List.getElem?_eq_some_iff.1 ha).1
     have hb0:=List.getElem?_eq_getElem (l:=(gp0 p []).bags) (i:=i) (by rw[g0];exact hil);generalize (gp0 p []).bags[i]'(by rw[g0];exact hil)=b0 at hb0;have hb4:=b3 i a b0 ha hb0;rw[if_neg hne]at hb4;have hb:(bagsG c.2 (stepI c.1) p.aggs (gp0 p []).bags).1[i]?=some b:=hb;rw[hb4]at hb;injection hb with hb;subst hb;rw[gb i b0 hb0,hpos];show lookT [⟨c.2.getD a.2.toNat nullG,1⟩] v=cntV p A' (cellsG p c.2) a.2.toNat v;rw[hV,hv0,hpos];show(if c.2.getD a.2.toNat nullG=v then(1:Int)else 0)=_;by_cases e:c.2.getD a.2.toNat nullG=v
     ·rw[if_pos e,if_pos ⟨rfl,e⟩];rfl
     ·rw[if_neg e,if_neg fun h=>e h.2];rfl
theorem grp_all {p:Pl}(hp:checkP p=0)(hg:p.grouped=true): ∀ {l:List (Int×List Val)} {A:AV} {G:List Gp} {i:Int},GoodA A→GrpOf p A G→(∀c∈l,TypedG p c.2)→(foldR A i l).2.2=0→
 (turnAll p G l).2=2∨((turnAll p G l).2=0∧GrpOf p (foldR A i l).1 (turnAll p G l).1∧GoodA (foldR A i l).1)
 |[],A,G,i,hA,h,_,_=> .inr ⟨rfl,h,hA⟩
 |c::l,A,G,i,hA,h,hc,h0=>by
  unfold foldR at h0⊢;by_cases e:(addR A c.2 (stepI c.1)).2=0
  ·rw[if_pos e]at h0⊢
   have hcg:=(hc c (by simp)).good;rcases grp_step hp hg hA.rises (fun q hq=>(hA.nums q hq).1) h (hc c (by simp)) e with h1|⟨h1,h2⟩
   ·left
    unfold turnAll;rw[if_neg (by omega)];exact h1
   ·unfold turnAll
    rw[if_pos h1];exact grp_all hp hg (hA.add hcg e) h2 (fun d hd=>hc d (by simp[hd])) h0
  ·rw[if_neg e]at h0
   exact absurd h0 e
end Go.Proofs.YtjhbeecmdgglgaaGreatDoor
