/-Plain law: the rows of a view's groups are the view, grouped. -/
import Derived.Test.YtjhbeecmdgglgaaGreatDoorGrpV25
import Derived.Test.YtjhbeecmdgglgaaGreatDoorGrpV12
set_option linter.unusedSimpArgs false
set_option linter.unusedVariables false
namespace Go.Proofs.YtjhbeecmdgglgaaGreatDoor
def tallyL:List (Val×Int)→Val→Int
 |[],_=>0
 |q::L,v=>(if q.1=v then q.2 else 0)+tallyL L v
def prodS (f:Val→Int):List (Val×Int)→Int
 |[]=>0
 |q::L=>f q.1*q.2+prodS f L
def sumD (f:Val→Int):List Val→Int
 |[]=>0
 |v::D=>f v+sumD f D
theorem sumD_none {f:Val→Int}{u:Val}{c:Int}{g:Val→Int}: ∀ {D:List Val},u∉D→sumD (fun v=>f v*((if u=v then c else 0)+g v)) D=sumD (fun v=>f v*g v) D
 |[],_=>rfl
 |v::D,h=>by
  have h1: ¬u=v:=fun e=>h (by simp[e]);show f v*((if u=v then c else 0)+g v)+sumD _ D=f v*g v+_;rw[if_neg h1,sumD_none (D:=D) fun e=>h (by simp[e]),Int.zero_add]
theorem sumD_one {f:Val→Int}{u:Val}{c:Int}{g:Val→Int}: ∀ {D:List Val},D.Pairwise (· ≠ ·)→u∈D→sumD (fun v=>f v*((if u=v then c else 0)+g v)) D=f u*c+sumD (fun v=>f v*g v) D
 |[],_,h=>by cases h
 |v::D,hp,h=>by
  obtain⟨p1,p2⟩:=List.pairwise_cons.1 hp;show f v*((if u=v then c else 0)+g v)+sumD _ D=f u*c+(f v*g v+_);by_cases e:u=v
  ·subst e
   rw[if_pos rfl,sumD_none fun h=>p1 u h rfl,Int.mul_add];omega
  ·rw[if_neg e,sumD_one p2 (by rcases List.mem_cons.1 h with h|h;exact absurd h e;exact h),Int.zero_add]
   omega
theorem prod_sum {f:Val→Int}{D:List Val}(hD:D.Pairwise (· ≠ ·)): ∀ {L:List (Val×Int)},(∀q∈L,q.1∈D)→prodS f L=sumD (fun v=>f v*tallyL L v) D
 |[],_=>by
  have: ∀D:List Val,sumD (fun v=>f v*tallyL [] v) D=0:=by
   intro D
   induction D with
   |nil=>rfl
   |cons v D ih=>show f v*0+sumD _ D=0;rw[ih,Int.mul_zero];rfl
  exact(this D).symm
 |q::L,h=>by
  show f q.1*q.2+prodS f L=sumD (fun v=>f v*((if q.1=v then q.2 else 0)+tallyL L v)) D;rw[sumD_one hD (h q (by simp)),prod_sum hD fun r hr=>h r (by simp[hr])]
theorem tallyL_pos {L:List (Val×Int)}(h: ∀q∈L,1≤q.2)(v:Val):0≤tallyL L v∧(0<tallyL L v↔ ∃q∈L,q.1=v):=by
 induction L with
 |nil=>exact⟨Int.le_refl _,by simp[tallyL]⟩
 |cons q L ih=>
  have h1:=h q (by simp);obtain⟨i1,i2⟩:=ih fun r hr=>h r (by simp[hr])
  show 0≤(if q.1=v then q.2 else 0)+tallyL L v∧(0<(if q.1=v then q.2 else 0)+tallyL L v↔_);by_cases e:q.1=v
  ·rw[if_pos e]
   exact⟨by omega,fun _=>⟨q,by simp,e⟩,fun _=>by omega⟩
  ·rw[if_neg e]
   refine⟨by omega,fun h2=> ?_,fun⟨r,hr,e2⟩=> ?_⟩
   ·obtain⟨r,hr,e2⟩:=i2.1 (by omega)
    exact⟨r,by simp[hr],e2⟩
   ·rcases List.mem_cons.1 hr with rfl|hr
    ·exact absurd e2 e
    ·have:=i2.2 ⟨r,hr,e2⟩;omega
theorem bag_pairwise {t:Int}{b:List Tl}(h:GoodT t b):(b.map (·.v)).Pairwise (· ≠ ·):=by
 rw[List.pairwise_map];refine h.rise.imp_of_mem fun{x y} hx _ hlt e=> ?_;rw[←e,cmpV_me (h.vals x hx).1]at hlt;omega
theorem look_bag {t:Int}{b:List Tl}(h:GoodT t b){x:Tl}(hx:x∈b):lookT b x.v=x.n:=by
 induction b with
 |nil=>cases hx
 |cons y l ih=>
  have hl:GoodT t l:=⟨fun z hz=>h.vals z (by simp[hz]),(List.pairwise_cons.1 h.rise).2⟩;unfold lookT;rcases List.mem_cons.1 hx with rfl|hx
  ·rw[if_pos rfl]
  ·have h3:=(List.pairwise_cons.1 h.rise).1 x hx
   rw[if_neg fun e=>by rw[e,cmpV_me (hl.vals x hx).1]at h3;omega];exact ih hl hx
theorem lookT_mem {b:List Tl}{v:Val}(h:0<lookT b v): ∃x∈b,x.v=v:=by
 induction b with
 |nil=>simp[lookT]at h
 |cons y l ih=>
  unfold lookT at h;by_cases e:y.v=v
  ·exact⟨y,by simp,e⟩
  ·rw[if_neg e]at h
   obtain⟨x,hx,e2⟩:=ih h;exact⟨x,by simp[hx],e2⟩
def nzN (v:Val):Int:=if v.k=0 then 0 else v.n
theorem wrapI_add (a b:Int):wrapI (wrapI a+wrapI b)=wrapI (a+b):=by
 unfold wrapI;rw[IntKind.wrap_i64,IntKind.wrap_i64,IntKind.wrap_i64,IntKind.wrap_i64];omega
theorem sumF_from: ∀(L:List (Val×Int)) (s:Int),L.foldl (stepF 2) ⟨2,wrapI s,⟨#[]⟩⟩=⟨2,wrapI (s+prodS nzN L),⟨#[]⟩⟩
 |[],s=>by show _=(⟨2,wrapI (s+0),⟨#[]⟩⟩:Val);rw[Int.add_zero];rfl
 |q::L,s=>by
  rw[List.foldl_cons];show _=(⟨2,wrapI (s+(nzN q.1*q.2+prodS nzN L)),⟨#[]⟩⟩:Val);by_cases e:q.1.k=0
  ·rw[show stepF 2 ⟨2,wrapI s,⟨#[]⟩⟩ q=⟨2,wrapI s,⟨#[]⟩⟩from if_pos e,sumF_from L s,show nzN q.1=0 from if_pos e,Int.zero_mul,Int.zero_add]
  ·rw[show stepF 2 ⟨2,wrapI s,⟨#[]⟩⟩ q=⟨2,wrapI (wrapI s+wrapI (q.1.n*q.2)),⟨#[]⟩⟩from(if_neg e).trans (if_pos rfl),wrapI_add,sumF_from L,show nzN q.1=q.1.n from if_neg e,Int.add_assoc]
theorem sumF_is (L:List (Val×Int)):figF 2 L=if(L.all fun q=>q.1.k==0)=true then nullG else⟨2,wrapI (prodS nzN L),⟨#[]⟩⟩:=by
 unfold figF;rw[if_neg (by decide)]
 induction L with
 |nil=>rfl
 |cons q L ih=>
  rw[List.foldl_cons,List.all_cons];by_cases e:q.1.k=0
  ·rw[show stepF 2 nullG q=nullG from if_pos e,ih,beqT e,Bool.true_and]
   congr 1
   show _=(⟨2,wrapI (nzN q.1*q.2+prodS nzN L),⟨#[]⟩⟩:Val);rw[show nzN q.1=0 from if_pos e,Int.zero_mul,Int.zero_add]
  ·rw[beqF e,Bool.false_and,if_neg (by simp)]
   have e2:stepF 2 nullG q=⟨2,wrapI (q.1.n*q.2),⟨#[]⟩⟩:=by
    have h1:stepF 2 nullG q=⟨2,wrapI (0+wrapI (q.1.n*q.2)),⟨#[]⟩⟩:=(if_neg e).trans (if_pos rfl)
    have h4: ∀x:Int,wrapI (wrapI x)=wrapI x:=fun x=>by
     unfold wrapI;rw[IntKind.wrap_i64,IntKind.wrap_i64];omega
    rw[h1,Int.zero_add,h4]
   rw[e2,sumF_from];show _=(⟨2,wrapI (nzN q.1*q.2+prodS nzN L),⟨#[]⟩⟩:Val);rw[show nzN q.1=q.1.n from if_neg e]
def overF (fn:Int) (a b:Val):Prop:=(fn=3∧cmpV a b<0)∨(fn=4∧0<cmpV a b)
def BestF (fn:Int) (L:List (Val×Int)) (o:Val):Prop:=(o=nullG∧ ∀q∈L,q.1.k=0)∨(o.k≠0∧(∃q∈L,q.1=o)∧ ∀q∈L,q.1.k≠0→ ¬overF fn q.1 o)
theorem bestF_fold {fn:Int}(h2:fn≠2): ∀ {L M:List (Val×Int)} {o:Val},(∀q∈M++L,GoodR [q.1])→BestF fn M o→BestF fn (M++L) (L.foldl (stepF fn) o)
 |[],M,o,_,h=>by rw[List.append_nil];exact h
 |q::L,M,o,hg,h=>by
  have e:M++q::L=(M++[q])++L:=by simp
  rw[e]at hg⊢;rw[List.foldl_cons];refine bestF_fold h2 hg ?_;have hq:GoodR [q.1]:=hg q (by simp);unfold stepF;by_cases hk:q.1.k=0
  ·rw[if_pos hk]
   rcases h with⟨h,h3⟩|⟨h,⟨r,hr,h3⟩,h4⟩
   ·refine .inl ⟨h,fun r hr=> ?_⟩
    rcases List.mem_append.1 hr with hr|hr
    ·exact h3 r hr
    ·rw[List.mem_singleton.1 hr];exact hk
   ·refine .inr ⟨h,⟨r,by simp[hr],h3⟩,fun s hs hsk=> ?_⟩
    rcases List.mem_append.1 hs with hs|hs
    ·exact h4 s hs hsk
    ·rw[List.mem_singleton.1 hs]at hsk;exact absurd hk hsk
  ·rw[if_neg hk,if_neg h2]
   by_cases hc:o.k=0∨(fn=3∧cmpV q.1 o<0)∨(fn=4∧0<cmpV q.1 o)
   ·rw[if_pos hc]
    refine .inr ⟨hk,⟨q,by simp,rfl⟩,fun s hs hsk=> ?_⟩;have hself: ¬overF fn q.1 q.1:=fun h=>by unfold overF at h;rw[cmpV_me hq]at h;omega
    rcases List.mem_append.1 hs with hs|hs
    ·rcases h with⟨h,h3⟩|⟨h,⟨r,hr,h3⟩,h4⟩
     ·exact absurd (h3 s hs) hsk
     ·have hn:=h4 s hs hsk
      have gs:=hg s (by simp[hs]);have go:GoodR [o]:=by rw[←h3];exact hg r (by simp[hr])
      intro hov;apply hn;rcases hc with hc|⟨rfl,hc⟩|⟨rfl,hc⟩
      ·exact absurd hc h
      ·rcases hov with⟨-,hov⟩|⟨h5,-⟩
       ·exact .inl ⟨rfl,cmpV_trans gs hq go hov hc⟩
       ·omega
      ·rcases hov with⟨h5,-⟩|⟨-,hov⟩
       ·omega
       ·refine .inr ⟨rfl,?_⟩
        have a:=cmpV_flip hq gs;have b:=cmpV_flip go hq;have c:=cmpV_trans go hq gs (by omega) (by omega);have d:=cmpV_flip go gs;omega
    ·rw[List.mem_singleton.1 hs];exact hself
   ·rw[if_neg hc]
    rcases h with⟨h,h3⟩|⟨h,⟨r,hr,h3⟩,h4⟩
    ·exact absurd (.inl (by rw[h];rfl)) hc
    ·refine .inr ⟨h,⟨r,by simp[hr],h3⟩,fun s hs hsk=> ?_⟩
     rcases List.mem_append.1 hs with hs|hs
     ·exact h4 s hs hsk
     ·rw[List.mem_singleton.1 hs]
      exact fun h=>hc (.inr h)
theorem bestF_is {fn:Int}(h:fn=3∨fn=4){L:List (Val×Int)}(hg: ∀q∈L,GoodR [q.1]):BestF fn L (figF fn L):=by
 unfold figF;rw[if_neg (by omega)];exact bestF_fold (M:=[]) (by omega) hg (.inl ⟨rfl,nofun⟩)
theorem bestF_one {fn:Int}(hfn:fn=3∨fn=4){L M:List (Val×Int)}(hL: ∀q∈L,GoodR [q.1])(hM: ∀q∈M,GoodR [q.1])(h1: ∀q∈L,∃r∈M,r.1=q.1)(h2: ∀q∈M,∃r∈L,r.1=q.1){a b:Val}(ha:BestF fn L a)(hb:BestF fn M b):a=b:=by
 rcases ha with⟨rfl,a2⟩|⟨a1,⟨q,hq,rfl⟩,a3⟩
 ·rcases hb with⟨rfl,-⟩|⟨b1,⟨r,hr,rfl⟩,-⟩
  ·rfl
  ·obtain⟨s,hs,e⟩:=h2 r hr
   have:=a2 s hs;rw[e]at this;exact absurd this b1
 ·rcases hb with⟨-,b2⟩|⟨b1,⟨r,hr,rfl⟩,b3⟩
  ·obtain⟨s,hs,e⟩:=h1 q hq
   have:=b2 s hs;rw[e]at this;exact absurd this a1
  ·obtain⟨s,hs,e⟩:=h2 r hr
   obtain⟨u,hu,e2⟩:=h1 q hq;have n1:=a3 s hs (by rw[e];exact b1);have n2:=b3 u hu (by rw[e2];exact a1);rw[e]at n1;rw[e2]at n2;have gq:=hL q hq;have gr:=hM r hr;have f:=cmpV_flip gq gr;refine(cmpV_zero gq gr).1 ?_;unfold overF at n1 n2;rcases hfn with rfl|rfl
   ·simp at n1 n2;omega
   ·simp at n1 n2;omega
theorem figF_same {fn t:Int}(hfn:fn=2∨fn=3∨fn=4){L:List (Val×Int)}{b:List Tl}(hb:GoodT t b)(hL: ∀q∈L,GoodR [q.1]∧1≤q.2)(h: ∀v,GoodR [v]→tallyL L v=lookT b v):figF fn L=figF fn (tls b):=by
 have hLb: ∀q∈L,∃x∈b,x.v=q.1:=fun q hq=>by
  have h1:=(tallyL_pos (fun q hq=>(hL q hq).2) q.1).2.2 ⟨q,hq,rfl⟩;rw[h _ (hL q hq).1]at h1;exact lookT_mem h1
 have hbL: ∀x∈b,∃q∈L,q.1=x.v:=fun x hx=>by
  have h1:=look_bag hb hx;have h2:=(hb.vals x hx);refine(tallyL_pos (fun q hq=>(hL q hq).2) x.v).2.1 ?_;rw[h _ h2.1,h1];omega
 by_cases h2:fn=2
 ·subst h2
  rw[sumF_is,sumF_is]
  have hall:(L.all fun q=>q.1.k==0)=((tls b).all fun q=>q.1.k==0):=by
   rw[Bool.eq_iff_iff,List.all_eq_true,List.all_eq_true];constructor
   ·intro h1 q hq
    obtain⟨x,hx,rfl⟩:=List.mem_map.1 hq;obtain⟨r,hr,e⟩:=hbL x hx;have:=h1 r hr;rw[e]at this;exact this
   ·intro h1 q hq
    obtain⟨x,hx,e⟩:=hLb q hq;have:=h1 (x.v,x.n) (List.mem_map.2 ⟨x,hx,rfl⟩);rw[←e];exact this
  have hsum:prodS nzN L=prodS nzN (tls b):=by
   rw[prod_sum (bag_pairwise hb) fun q hq=>by obtain⟨x,hx,e⟩:=hLb q hq;exact List.mem_map.2 ⟨x,hx,e⟩]
   have: ∀c:List Tl,(∀x∈c,x∈b)→sumD (fun v=>nzN v*tallyL L v) (c.map (·.v))=prodS nzN (tls c):=by
    intro c
    induction c with
    |nil=>intro _;rfl
    |cons x c ih=>
     intro hc;have hx:=hc x (by simp);show nzN x.v*tallyL L x.v+sumD _ (c.map (·.v))=nzN x.v*x.n+prodS nzN (tls c);rw[ih fun y hy=>hc y (by simp[hy]),h _ (hb.vals x hx).1,look_bag hb hx]
   exact this b fun x hx=>hx
  rw[hall,hsum]
 ·have hfn':fn=3∨fn=4:=by omega
  have gb: ∀q∈tls b,GoodR [q.1]:=fun q hq=>by obtain⟨x,hx,rfl⟩:=List.mem_map.1 hq;exact(hb.vals x hx).1
  refine bestF_one hfn' (fun q hq=>(hL q hq).1) gb (fun q hq=> ?_) (fun q hq=> ?_) (bestF_is hfn' fun q hq=>(hL q hq).1) (bestF_is hfn' gb)
  ·obtain⟨x,hx,e⟩:=hLb q hq
   exact⟨(x.v,x.n),List.mem_map.2 ⟨x,hx,rfl⟩,e⟩
  ·obtain⟨x,hx,rfl⟩:=List.mem_map.1 hq
   exact hbL x hx
def ofK (p:Pl) (A:AV) (k:List Val):AV:=A.filter fun c=>decide (cellsG p c.1=k)
def lookPT:PT→List Val→AV
 |[],_=>[]
 |q::t,k=>if rowsF q.1 k=0 then q.2 else lookPT t k
theorem putP_exact {P:PT}{k:List Val}{c:List Val×Int}{q:List Val×AV}(hr:P.Pairwise fun a b=>rowsF a.1 b.1<0)(hg: ∀q∈P,GoodR q.1)(hk:GoodR k)(h:q∈putP P k c):(q∈P∧q.1≠k)∨(q.1=k∧q.2=lookPT P k++[c]):=by
 induction P with
 |nil=>rw[List.mem_singleton.1 h];exact .inr ⟨rfl,rfl⟩
 |cons x t ih=>
  obtain⟨x,l⟩:=x;obtain⟨h1,h2⟩:=List.pairwise_cons.1 hr;have hx:GoodR x:=hg (x,l) (by simp);have ht: ∀q∈t,GoodR q.1:=fun q hq=>hg q (by simp[hq]);unfold putP at h;unfold lookPT;by_cases e:rowsF x k=0
  ·rw[if_pos e]at h⊢
   have e':=(rowsF_zero hx hk).1 e;rcases List.mem_cons.1 h with rfl|h
   ·exact .inr ⟨e',rfl⟩
   ·refine .inl ⟨List.mem_cons_of_mem _ h,fun e2=> ?_⟩
    have:=h1 q h;simp only at this;rw[e',e2,rowsF_self hk]at this;omega
  ·rw[if_neg e]at h⊢
   by_cases e2:rowsF x k<0
   ·rw[if_pos e2]at h
    rcases List.mem_cons.1 h with rfl|h
    ·exact .inl ⟨List.mem_cons_self ..,fun e3=>e (by rw[show x=k from e3];exact rowsF_self hk)⟩
    ·rcases ih h2 ht h with h|h
     ·exact .inl ⟨List.mem_cons_of_mem _ h.1,h.2⟩
     ·exact .inr h
   ·rw[if_neg e2]at h
    have hne: ∀y∈t,rowsF y.1 k≠0:=fun y hy e3=>by
     have e4:=(rowsF_zero (ht y hy) hk).1 e3;have:=h1 y hy;simp only at this;rw[e4]at this;omega
    have hnone: ∀s:PT,(∀y∈s,rowsF y.1 k≠0)→lookPT s k=[]:=by
     intro s
     induction s with
     |nil=>intro _;rfl
     |cons y s ih2=>
      intro hy;unfold lookPT;rw[if_neg (hy y (by simp))];exact ih2 fun z hz=>hy z (by simp[hz])
    rcases List.mem_cons.1 h with rfl|h
    ·exact .inr ⟨rfl,by rw[hnone t hne];rfl⟩
    ·rcases List.mem_cons.1 h with rfl|h
     ·exact .inl ⟨List.mem_cons_self ..,fun e3=>e (by rw[show x=k from e3];exact rowsF_self hk)⟩
     ·exact .inl ⟨List.mem_cons_of_mem _ h,fun e3=>hne q h (by rw[e3];exact rowsF_self hk)⟩
theorem putP_has {P:PT}{k:List Val}{c:List Val×Int}(hk:GoodR k)(hg: ∀q∈P,GoodR q.1):(∃q∈putP P k c,q.1=k)∧ ∀r∈P,∃q∈putP P k c,q.1=r.1:=by
 induction P with
 |nil=>exact⟨⟨(k,[c]),by simp[putP],rfl⟩,nofun⟩
 |cons x t ih=>
  obtain⟨x,l⟩:=x;have hx:GoodR x:=hg (x,l) (by simp);obtain⟨i1,i2⟩:=ih fun q hq=>hg q (by simp[hq])
  unfold putP;by_cases e:rowsF x k=0
  ·rw[if_pos e]
   refine⟨⟨_,List.mem_cons_self ..,(rowsF_zero hx hk).1 e⟩,fun r hr=> ?_⟩;rcases List.mem_cons.1 hr with rfl|hr
   ·exact⟨_,List.mem_cons_self ..,rfl⟩
   ·exact⟨r,List.mem_cons_of_mem _ hr,rfl⟩
  ·rw[if_neg e]
   by_cases e2:rowsF x k<0
   ·rw[if_pos e2]
    obtain⟨q,hq,e3⟩:=i1;refine⟨⟨q,List.mem_cons_of_mem _ hq,e3⟩,fun r hr=> ?_⟩;rcases List.mem_cons.1 hr with rfl|hr
    ·exact⟨_,List.mem_cons_self ..,rfl⟩
    ·obtain⟨q,hq,e3⟩:=i2 r hr
     exact⟨q,List.mem_cons_of_mem _ hq,e3⟩
   ·rw[if_neg e2]
    exact⟨⟨_,List.mem_cons_self ..,rfl⟩,fun r hr=>⟨r,List.mem_cons_of_mem _ hr,rfl⟩⟩
structure PF (p:Pl) (A:AV) (P:PT):Prop where
 pg:PG p A P
 is: ∀q∈P,q.2=ofK p A q.1
 all: ∀c∈A,∃q∈P,q.1=cellsG p c.1
theorem lookPT_of {p:Pl}{A:AV}{P:PT}(h:PF p A P){k:List Val}(hk:GoodR k):lookPT P k=ofK p A k:=by
 have hg: ∀q∈P,GoodR q.1:=fun q hq=>(h.pg.good q hq).1;have hi:=h.is
 have ha:(∀q∈P,q.1≠k)→ofK p A k=[]:=fun hn=>by
  unfold ofK;rw[List.filter_eq_nil_iff];intro c hc e;obtain⟨q,hq,e2⟩:=h.all c hc;exact hn q hq (e2.trans (by simpa using e))
 clear h
 induction P with
 |nil=>exact(ha nofun).symm
 |cons x t ih=>
  unfold lookPT;by_cases e:rowsF x.1 k=0
  ·rw[if_pos e,hi x (by simp),(rowsF_zero (hg x (by simp)) hk).1 e]
  ·rw[if_neg e]
   refine ih (fun q hq=>hg q (by simp[hq])) (fun q hq=>hi q (by simp[hq])) fun hn=>ha fun q hq=> ?_;rcases List.mem_cons.1 hq with rfl|hq
   ·exact fun e2=>e ((rowsF_zero (hg q (by simp)) hk).2 e2)
   ·exact hn q hq
theorem PF.step {p:Pl}{A:AV}{P:PT}{c:List Val×Int}(h:PF p A P)(hk:GoodR (cellsG p c.1)):PF p (A++[c]) (putP P (cellsG p c.1) c):=by
 have hg: ∀q∈P,GoodR q.1:=fun q hq=>(h.pg.good q hq).1;refine⟨h.pg.step hk (by unfold cellsG;exact List.length_map _),fun q hq=> ?_,fun d hd=> ?_⟩
 ·unfold ofK
  rw[List.filter_append];rcases putP_exact h.pg.rise hg hk hq with⟨hq,hne⟩|⟨e1,e2⟩
  ·rw[h.is q hq]
   have:[c].filter (fun c=>decide (cellsG p c.1=q.1))=[]:=by
    rw[List.filter_cons,if_neg (by simpa using fun e=>hne e.symm)];rfl
   rw[this,List.append_nil];rfl
  ·have:[c].filter (fun c=>decide (cellsG p c.1=q.1))=[c]:=by
    rw[List.filter_cons,if_pos (by simpa using e1.symm)];rfl
   rw[this,e2,lookPT_of h hk,e1];rfl
 ·obtain⟨i1,i2⟩:=putP_has (P:=P) (c:=c) hk hg
  rcases List.mem_append.1 hd with hd|hd
  ·obtain⟨r,hr,e⟩:=h.all d hd
   obtain⟨q,hq,e2⟩:=i2 r hr;exact⟨q,hq,e2.trans e⟩
  ·rw[List.mem_singleton.1 hd];exact i1
theorem parts_full {p:Pl}{A:AV}(hg: ∀c∈A,GoodR (cellsG p c.1)):PF p A (partsP p A):=by
 have key: ∀(B:AV) {A:AV} {P:PT},PF p A P→(∀c∈B,GoodR (cellsG p c.1))→PF p (A++B) (B.foldl (fun P c=>putP P (cellsG p c.1) c) P):=by
  intro B
  induction B with
  |nil=>intro A P h _;rw[List.append_nil];exact h
  |cons c B ih=>
   intro A P h hg;have:=ih (h.step (hg c (by simp))) fun d hd=>hg d (by simp[hd]);rw[List.append_assoc]at this;exact this
 have:=key A ⟨PG.start p,nofun,nofun⟩ hg;rwa[List.nil_append]at this
theorem cntV_of (p:Pl)(A:AV)(k:List Val)(col:Nat)(v:Val):cntV p A k col v=tallyL ((ofK p A k).map fun c=>(c.1.getD col nullG,c.2)) v:=by
 unfold cntV ofK
 induction A with
 |nil=>rfl
 |cons q A ih=>
  rw[List.filter_cons];show(if _ then q.2 else 0)+sumBy _ A=_;rw[ih];by_cases e:cellsG p q.1=k
  ·rw[if_pos (decide_eq_true e),List.map_cons]
   show(if(decide (cellsG p q.1=k)&&decide (q.1.getD col nullG=v))=true then q.2 else 0)+_=(if q.1.getD col nullG=v then q.2 else 0)+_;rw[decide_eq_true e,Bool.true_and];by_cases e2:q.1.getD col nullG=v
   ·rw[if_pos (decide_eq_true e2),if_pos e2]
   ·rw[if_neg (by simpa using e2),if_neg e2]
  ·rw[if_neg (show ¬decide (cellsG p q.1=k)=true by simpa using e)]
   show(if(decide (cellsG p q.1=k)&&decide (q.1.getD col nullG=v))=true then q.2 else 0)+_=_;rw[decide_eq_false e,Bool.false_and,if_neg (by simp),Int.zero_add]
theorem cntK_of (p:Pl)(A:AV)(k:List Val):cntK p A k=((ofK p A k).map (·.2)).foldr (· + ·) 0:=by
 unfold cntK ofK
 induction A with
 |nil=>rfl
 |cons q A ih=>
  rw[List.filter_cons];show(if _ then q.2 else 0)+sumBy _ A=_;rw[ih];by_cases e:cellsG p q.1=k
  ·rw[if_pos (decide_eq_true e),if_pos (decide_eq_true e),List.map_cons];rfl
  ·rw[if_neg (by simpa using e),if_neg (by simpa using e),Int.zero_add]
theorem cntF_sum: ∀(L:List (Val×Int)) (s:Int),(∀q∈L,0≤q.2)→0≤s→s+(L.map (·.2)).foldr (· + ·) 0≤1073741824→L.foldl cntF s=s+(L.map (·.2)).foldr (· + ·) 0
 |[],s,_,_,_=>by show s=s+0;omega
 |q::L,s,h,hs,hm=>by
  have h1:=h q (by simp)
  have hpos: ∀L:List (Val×Int),(∀q∈L,0≤q.2)→0≤(L.map (·.2)).foldr (· + ·) 0:=by
   intro L
   induction L with
   |nil=>intro _;exact Int.le_refl _
   |cons q L ih=>
    intro h;have a:=h q (by simp);have b:=ih fun r hr=>h r (by simp[hr]);show 0≤q.2+_;omega
  have h2:=hpos L fun r hr=>h r (by simp[hr]);rw[List.map_cons,List.foldr_cons]at hm⊢;rw[List.foldl_cons]
  have e:cntF s q=s+q.2:=by
   unfold cntF wrapI;rw[IntKind.wrap_i64];omega
  rw[e,cntF_sum L (s+q.2) (fun r hr=>h r (by simp[hr])) (by omega) (by omega)];omega
theorem grp_row {p:Pl}{A:AV}{G:List Gp}(hp:checkP p=0)(hg:p.grouped=true)(hA:GoodA A)(h:GrpOf p A G){g:Gp}(hgm:g∈G):rowG p g=headRow p (g.r,ofK p A g.r):=by
 have gg:=h.good.each g hgm;unfold rowG headRow figsP
 congr 1
 apply List.ext_getElem?;intro i;rw[List.getElem?_map,List.getElem?_map];cases ha:p.aggs[i]? with
 |none=>
  have:(p.aggs.zip g.bags)[i]?=none:=by
   rw[List.getElem?_eq_none_iff]at ha⊢;rw[List.length_zip];omega
  rw[this];rfl
 |some a=>
  have hil:=(List.getElem?_eq_some_iff.1 ha).1;have hb:=List.getElem?_eq_getElem (l:=g.bags) (i:=i) (by rw[gg.bl];exact hil);generalize g.bags[i]'(by rw[gg.bl];exact hil)=b at hb;have hz:(p.aggs.zip g.bags)[i]?=some (a,b):=by rw[List.getElem?_zip_eq_some];exact⟨ha,hb⟩
  rw[hz];show some (figG a.1 g.n b)=some (figF a.1 ((ofK p A g.r).map fun c=>(c.1.getD a.2.toNat nullG,c.2)))
  congr 1
  have hfn:=kinds_agg (check_ok hp).1 hg a (List.mem_of_getElem? ha);have hmem: ∀c∈ofK p A g.r,c∈A:=fun c hc=>(List.mem_filter.1 hc).1;rw[fig_eq (t:=(allT p).getD a.2.toNat 0) (by omega) fun hne=>grp_bag gg ha hb hne];by_cases h1:a.1=1
  ·rw[if_pos h1,h1]
   unfold figF;rw[if_pos rfl];have hn:=h.num g hgm;rw[cntK_of]at hn;have e:(((ofK p A g.r).map fun c=>(c.1.getD a.2.toNat nullG,c.2)).map (·.2))=(ofK p A g.r).map (·.2):=by rw[List.map_map];rfl
   have hs:=cntF_sum ((ofK p A g.r).map fun c=>(c.1.getD a.2.toNat nullG,c.2)) 0 (fun q hq=>by
    obtain⟨c,hc,rfl⟩:=List.mem_map.1 hq;have:=(hA.nums c (hmem c hc)).1;show 0≤c.2;omega) (Int.le_refl _) (by rw[e,←hn];have:=gg.num;omega)
   rw[hs,e,←hn,Int.zero_add]
  ·rw[if_neg h1]
   refine(figF_same (by omega) (grp_bag gg ha hb h1) (fun q hq=> ?_) fun v hv=> ?_).symm
   ·obtain⟨c,hc,rfl⟩:=List.mem_map.1 hq
    exact⟨getD_good (hA.rises.good c (hmem c hc)) _,(hA.nums c (hmem c hc)).1⟩
   ·rw[←cntV_of,←h.bag g hgm i a b ha hb h1 v hv]
theorem grp_view {p:Pl}{A:AV}{G:List Gp}(hp:checkP p=0)(hg:p.grouped=true)(hA:GoodA A)(hc: ∀c∈A,GoodR (cellsG p c.1))(h:GrpOf p A G):G.map (rowG p)=(partsP p A).map (headRow p):=by
 have hP:=parts_full hc
 have hkeys:G.map (·.r)=(partsP p A).map (·.1):=by
  refine rise_ext (fun r hr=> ?_) (fun r hr=> ?_) ?_ ?_ fun r=> ?_
  ·obtain⟨g,hg,rfl⟩:=List.mem_map.1 hr
   exact(h.good.each g hg).row
  ·obtain⟨q,hq,rfl⟩:=List.mem_map.1 hr
   exact(hP.pg.good q hq).1
  ·rw[List.pairwise_map];exact h.good.rise
  ·rw[List.pairwise_map];exact hP.pg.rise
  ·rw[List.mem_map,List.mem_map]
   constructor
   ·rintro⟨g,hgm,rfl⟩
    have h1:=(h.has g.r (h.good.each g hgm).row).1 ⟨g,hgm,rfl⟩;obtain⟨c,hcm,e⟩:=(sumBy_pos fun q hq=>(hA.nums q hq).1).1 h1;obtain⟨q,hq,e2⟩:=hP.all c hcm;exact⟨q,hq,e2.trans (by simpa using e)⟩
   ·rintro⟨q,hq,rfl⟩
    have hne:=hP.pg.ne q hq;rw[hP.is q hq]at hne;obtain⟨c,hcm⟩:=List.exists_mem_of_ne_nil _ hne;obtain⟨hcm,e⟩:=List.mem_filter.1 hcm;exact(h.has q.1 (hP.pg.good q hq).1).2 ((sumBy_pos fun q hq=>(hA.nums q hq).1).2 ⟨c,hcm,e⟩)
 have e1:G.map (rowG p)=(G.map (·.r)).map fun k=>headRow p (k,ofK p A k):=by
  rw[List.map_map];exact List.map_congr_left fun g hgm=>grp_row hp hg hA h hgm
 have e2:(partsP p A).map (headRow p)=((partsP p A).map (·.1)).map fun k=>headRow p (k,ofK p A k):=by
  rw[List.map_map];exact List.map_congr_left fun q hq=>by show headRow p q=headRow p (q.1,ofK p A q.1);rw[←hP.is q hq]
 rw[e1,e2,hkeys]
end Go.Proofs.YtjhbeecmdgglgaaGreatDoor
