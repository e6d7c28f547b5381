/-Plain law of batches: a view, grouped. -/
import Derived.Test.YtjhbeecmdgglgaaGreatDoorGrpV9
import Derived.Test.YtjhbeecmdgglgaaGreatDoorGrpV12
import Derived.Test.YtjhbeecmdgglgaaGreatDoorGrpV13
set_option linter.unusedSimpArgs false
set_option linter.unusedVariables false
namespace Go.Proofs.YtjhbeecmdgglgaaGreatDoor
def hasR (rows:List (List Val)) (r:List Val):Bool:=rows.any fun x=>decide (x=r)
def cntR (rows:List (List Val)) (r:List Val):Int:=((rows.filter fun x=>decide (x=r)).length:Nat)
theorem viewN_tells: ∀n,∀rows:List (List Val),rows.length=n→(∀r∈rows,GoodR r)→n≤4096→VR rows (rows.foldl (fun A r=>(addR A r 1).1) [])∧ ∀r,GoodR r→hasA (rows.foldl (fun A r=>(addR A r 1).1) []) r=hasR rows r∧lookA (rows.foldl (fun A r=>(addR A r 1).1) []) r=cntR rows r
 |0,rows,hl,_,_=>by
  have:rows=[]:=List.eq_nil_of_length_eq_zero hl;subst this;exact⟨VR.start,fun r _=>⟨rfl,rfl⟩⟩
 |n+1,rows,hl,hg,hn=>by
  rcases List.eq_nil_or_concat rows with rfl|⟨l,x,rfl⟩
  ·simp at hl
  ·rw[List.concat_eq_append]at hl hg⊢
   rw[List.length_append]at hl;have hl':l.length=n:=by simpa using hl
   obtain⟨h1,h2⟩:=viewN_tells n l hl' (fun r hr=>hg r (by simp[hr])) (by omega);have hx:=hg x (by simp);have h3:=h1.step (r:=x) (by omega) hx;rw[List.foldl_append];generalize l.foldl (fun A r=>(addR A r 1).1) []=A at h1 h2 h3;refine⟨h3,fun r hr=> ?_⟩;have e:=i_add (r:=x) h1.nums h1.len (by omega);show hasA (addR A x 1).1 r=_∧lookA (addR A x 1).1 r=_;rw[e];show hasA (putA A x (lookA A x+1)) r=_∧lookA (putA A x (lookA A x+1)) r=_;rw[has_put h1.rises hx hr,look_put h1.rises hx hr,(h2 r hr).1,(h2 r hr).2,(h2 x hx).2];unfold hasR cntR;rw[List.any_append,List.filter_append,List.length_append];by_cases exr:x=r
   ·subst exr
    simp
   ·simp[exr]
theorem viewR_N {rows:List (List Val)}(hg: ∀r∈rows,GoodR r)(hl:rows.length≤4096):viewR rows=rows.foldl (fun A r=>(addR A r 1).1) []:=((viewN_tells _ rows rfl hg hl).1.done hl).symm
theorem viewR_perm {rows rows':List (List Val)}(hg: ∀r∈rows,GoodR r)(hl:rows.length≤4096)(h:rows.Perm rows'):viewR rows=viewR rows':=by
 have hg': ∀r∈rows',GoodR r:=fun r hr=>hg r (h.mem_iff.2 hr);have hl':rows'.length≤4096:=by rw[←h.length_eq];exact hl
 rw[viewR_N hg hl,viewR_N hg' hl'];obtain⟨a1,a2⟩:=viewN_tells _ rows rfl hg hl;obtain⟨b1,b2⟩:=viewN_tells _ rows' rfl hg' hl';refine rises_ext a1.rises b1.rises fun r hr=> ?_;rw[(a2 r hr).1,(a2 r hr).2,(b2 r hr).1,(b2 r hr).2];refine⟨?_,?_⟩
 ·unfold hasR
  rw[Bool.eq_iff_iff,List.any_eq_true,List.any_eq_true];exact⟨fun⟨x,hx,e⟩=>⟨x,h.mem_iff.1 hx,e⟩,fun⟨x,hx,e⟩=>⟨x,h.mem_iff.2 hx,e⟩⟩
 ·unfold cntR
  rw[(h.filter _).length_eq]
theorem one_tells: ∀ {rows:List (List Val)},(∀r∈rows,GoodR r)→rows.Pairwise (fun a b=>rowsF a b<0)→ ∀r,GoodR r→hasA (rows.map fun x=>(x,1)) r=hasR rows r∧lookA (rows.map fun x=>(x,1)) r=cntR rows r
 |[],_,_,r,_=>⟨rfl,rfl⟩
 |x::l,hg,hp,r,hr=>by
  have hx:=hg x (by simp);obtain⟨h1,h2⟩:=one_tells (rows:=l) (fun r hr=>hg r (by simp[hr])) (List.pairwise_cons.1 hp).2 r hr;rw[List.map_cons,has_good hx hr,look_good hx hr,h1,h2];unfold hasR cntR;rw[List.any_cons,List.filter_cons];by_cases e:x=r
  ·subst e
   have:l.filter (fun y=>decide (y=x))=[]:=by
    rw[List.filter_eq_nil_iff];intro y hy e;have:=(List.pairwise_cons.1 hp).1 y hy;rw[show y=x by simpa using e,rowsF_self hx]at this;omega
   simp[this]
  ·simp[e]
theorem viewR_rise {rows:List (List Val)}(hg: ∀r∈rows,GoodR r)(hl:rows.length≤4096)(hp:rows.Pairwise fun a b=>rowsF a b<0):viewR rows=rows.map fun x=>(x,1):=by
 rw[viewR_N hg hl];obtain⟨a1,a2⟩:=viewN_tells _ rows rfl hg hl;refine rises_ext a1.rises ⟨fun q hq=> ?_,?_⟩ fun r hr=> ?_
 ·obtain⟨x,hx,rfl⟩:=List.mem_map.1 hq
  exact hg x hx
 ·rw[List.pairwise_map];exact hp
 ·rw[(a2 r hr).1,(a2 r hr).2,(one_tells hg hp r hr).1,(one_tells hg hp r hr).2]
  exact⟨rfl,rfl⟩
abbrev PT:=List (List Val×AV)
def putP:PT→List Val→List Val×Int→PT
 |[],k,c=>[(k,[c])]
 |(x,l)::t,k,c=>if rowsF x k=0 then(x,l++[c])::t else if rowsF x k<0 then(x,l)::putP t k c else(k,[c])::(x,l)::t
def partsP (p:Pl) (A:AV):PT:=A.foldl (fun P c=>putP P (cellsG p c.1) c) []
def figsP (p:Pl) (A:AV):List Val:=p.aggs.map fun a=>figF a.1 (A.map fun c=>(c.1.getD a.2.toNat nullG,c.2))
def headRow (p:Pl) (q:List Val×AV):List Val:=q.1++figsP p q.2
def groupV (p:Pl) (A:AV):AV:=(partsP p A).map fun q=>(headRow p q,1)
structure PG (p:Pl) (A:AV) (P:PT):Prop where
 rise:P.Pairwise fun q r=>rowsF q.1 r.1<0
 good: ∀q∈P,GoodR q.1∧q.1.length=p.group.length
 mem: ∀q∈P,∀c∈q.2,c∈A
 few:P.length≤A.length
 ne: ∀q∈P,q.2≠[]
theorem putP_mem {P:PT}{k:List Val}{c:List Val×Int}{q:List Val×AV}(h:q∈putP P k c):q∈P∨(q.1=k∧q.2=[c])∨ ∃r∈P,q.1=r.1∧q.2=r.2++[c]:=by
 induction P with
 |nil=>rw[List.mem_singleton.1 h];exact .inr (.inl ⟨rfl,rfl⟩)
 |cons x t ih=>
  obtain⟨x,l⟩:=x;unfold putP at h;split at h
  ·rcases List.mem_cons.1 h with rfl|h
   ·exact .inr (.inr ⟨(x,l),by simp,rfl,rfl⟩)
   ·exact .inl (by simp[h])
  ·split at h
   ·rcases List.mem_cons.1 h with rfl|h
    ·exact .inl (by simp)
    ·rcases ih h with h|h|⟨r,hr,h⟩
     ·exact .inl (by simp[h])
     ·exact .inr (.inl h)
     ·exact .inr (.inr ⟨r,by simp[hr],h⟩)
   ·rcases List.mem_cons.1 h with rfl|h
    ·exact .inr (.inl ⟨rfl,rfl⟩)
    ·exact .inl h
theorem putP_heads {P:PT}{k:List Val}{c:List Val×Int}{q:List Val×AV}(h:q∈putP P k c):q.1=k∨ ∃r∈P,q.1=r.1:=by
 rcases putP_mem h with h|h|⟨r,hr,h,-⟩
 ·exact .inr ⟨q,h,rfl⟩
 ·exact .inl h.1
 ·exact .inr ⟨r,hr,h⟩
theorem putP_len (P:PT)(k:List Val)(c:List Val×Int):(putP P k c).length≤P.length+1:=by
 induction P with
 |nil=>simp[putP]
 |cons x t ih=>
  obtain⟨x,l⟩:=x;unfold putP;split
  ·simp
  ·split<;>simp<;>omega
theorem putP_rise {P:PT}{k:List Val}{c:List Val×Int}(hk:GoodR k)(hg: ∀q∈P,GoodR q.1)(h:P.Pairwise fun q r=>rowsF q.1 r.1<0):(putP P k c).Pairwise fun q r=>rowsF q.1 r.1<0:=by
 induction P with
 |nil=>exact List.pairwise_singleton _ _
 |cons x t ih=>
  obtain⟨x,l⟩:=x;obtain⟨h1,h2⟩:=List.pairwise_cons.1 h;have hx:GoodR x:=hg (x,l) (by simp);have ht: ∀q∈t,GoodR q.1:=fun q hq=>hg q (by simp[hq]);unfold putP;by_cases e:rowsF x k=0
  ·rw[if_pos e]
   exact List.pairwise_cons.2 ⟨h1,h2⟩
  ·rw[if_neg e]
   by_cases e2:rowsF x k<0
   ·rw[if_pos e2]
    refine List.pairwise_cons.2 ⟨fun q hq=> ?_,ih ht h2⟩;rcases putP_heads hq with h|⟨r,hr,h⟩
    ·show rowsF x q.1<0
     rw[h];exact e2
    ·show rowsF x q.1<0
     rw[h];exact h1 r hr
   ·rw[if_neg e2]
    have e3:rowsF k x<0:=by rw[rowsF_flip hx hk];omega
    refine List.pairwise_cons.2 ⟨fun q hq=> ?_,h⟩;rcases List.mem_cons.1 hq with rfl|hq
    ·exact e3
    ·exact rowsF_trans hk hx (ht q hq) e3 (h1 q hq)
theorem PG.start (p:Pl):PG p [] []:=⟨.nil,nofun,nofun,Nat.le_refl _,nofun⟩
theorem PG.step {p:Pl}{A:AV}{P:PT}{k:List Val}{c:List Val×Int}(h:PG p A P)(hk:GoodR k)(hl:k.length=p.group.length):PG p (A++[c]) (putP P k c):=by
 refine⟨putP_rise hk (fun q hq=>(h.good q hq).1) h.rise,fun q hq=> ?_,fun q hq d hd=> ?_,?_,fun q hq=> ?_⟩
 ·rcases putP_heads hq with e|⟨r,hr,e⟩
  ·rw[e];exact⟨hk,hl⟩
  ·rw[e];exact h.good r hr
 ·rcases putP_mem hq with hq|⟨-,e⟩|⟨r,hr,-,e⟩
  ·exact List.mem_append_left _ (h.mem q hq d hd)
  ·rw[e]at hd;exact List.mem_append_right _ hd
  ·rw[e]at hd
   rcases List.mem_append.1 hd with hd|hd
   ·exact List.mem_append_left _ (h.mem r hr d hd)
   ·exact List.mem_append_right _ hd
 ·rw[List.length_append]
  have:=h.few;have:=putP_len P k c;simp;omega
 ·rcases putP_mem hq with hq|⟨-,e⟩|⟨r,hr,-,e⟩
  ·exact h.ne q hq
  ·rw[e];simp
  ·rw[e];simp
theorem parts_all {p:Pl}: ∀ {A:AV},(∀c∈A,GoodR (cellsG p c.1))→PG p A (partsP p A):=by
 have key: ∀(B:AV) {A:AV} {P:PT},PG p A P→(∀c∈B,GoodR (cellsG p c.1))→PG p (A++B) (B.foldl (fun P c=>putP P (cellsG p c.1) c) P):=by
  intro B
  induction B with
  |nil=>intro A P h _;rw[List.append_nil];exact h
  |cons c B ih=>
   intro A P h hg;have:=ih (h.step (hg c (by simp)) (c:=c) (by unfold cellsG;exact List.length_map _)) fun d hd=>hg d (by simp[hd]);rw[List.append_assoc]at this;exact this
 intro A hg;have:=key A (PG.start p) hg;rwa[List.nil_append]at this
theorem rowsF_app: ∀ {a b x y:List Val},a.length=b.length→rowsF a b<0→rowsF (a++x) (b++y)<0
 |[],[],_,_,_,h=>by simp[rowsF]at h
 |[],_::_,_,_,hl,_=>by simp at hl
 |_::_,[],_,_,hl,_=>by simp at hl
 |u::a,v::b,x,y,hl,h=>by
  show(if cmpV u v≠0 then cmpV u v else rowsF (a++x) (b++y))<0;have h':(if cmpV u v≠0 then cmpV u v else rowsF a b)<0:=h;by_cases e:cmpV u v≠0
  ·rw[if_pos e]at h'⊢;exact h'
  ·rw[if_neg e]at h'⊢
   exact rowsF_app (by simpa using hl) h'
theorem heads_rise {p:Pl}{A:AV}{P:PT}(h:PG p A P):(P.map (headRow p)).Pairwise fun a b=>rowsF a b<0:=by
 rw[List.pairwise_map];refine h.rise.imp_of_mem fun{q r} hq hr hlt=>rowsF_app ?_ hlt;rw[(h.good q hq).2,(h.good r hr).2]
theorem stepF_good {fn:Int}{o:Val}{q:Val×Int}(ho:GoodR [o])(hq:GoodR [q.1]):GoodR [stepF fn o q]:=by
 unfold stepF;split
 ·exact ho
 ·split
  ·exact int_good (wrapI_range _)
  ·split
   ·exact hq
   ·exact ho
theorem figF_good {fn:Int}{L:List (Val×Int)}(h: ∀q∈L,GoodR [q.1]):GoodR [figF fn L]:=by
 unfold figF;split
 ·refine int_good ?_
  have: ∀(L:List (Val×Int)) (s:Int),(-9223372036854775808≤s∧s≤9223372036854775807)→ -9223372036854775808≤L.foldl cntF s∧L.foldl cntF s≤9223372036854775807:=by
   intro L
   induction L with
   |nil=>intro s h;exact h
   |cons q L ih=>intro s _;exact ih _ (wrapI_range _)
  exact this L 0 (by omega)
 ·have: ∀(L:List (Val×Int)) (o:Val),GoodR [o]→(∀q∈L,GoodR [q.1])→GoodR [L.foldl (stepF fn) o]:=by
   intro L
   induction L with
   |nil=>intro o h _;exact h
   |cons q L ih=>intro o ho h;exact ih _ (stepF_good ho (h q (by simp))) fun r hr=>h r (by simp[hr])
  exact this L nullG null_good h
theorem getD_good {r:List Val}(h:GoodR r)(i:Nat):GoodR [r.getD i nullG]:=by
 by_cases hi:i<r.length
 ·have:r.getD i nullG=r[i]:=by simp[List.getD,hi]
  rw[this];exact⟨fun x hx=>by rw[List.mem_singleton.1 hx];exact h.good _ (List.getElem_mem hi),by simp⟩
 ·have:r.getD i nullG=nullG:=by simp[List.getD,hi]
  rw[this];exact null_good
theorem head_good {p:Pl}{A:AV}{P:PT}(hp:checkP p=0)(hg:p.grouped=true)(h:PG p A P)(hA: ∀c∈A,GoodR c.1): ∀r∈P.map (headRow p),GoodR r:=by
 intro r hr;obtain⟨q,hq,rfl⟩:=List.mem_map.1 hr;obtain⟨g1,g2⟩:=h.good q hq;have h8:=(group_few hp hg).1;refine⟨fun x hx=> ?_,?_⟩
 ·rcases List.mem_append.1 hx with hx|hx
  ·exact g1.good x hx
  ·obtain⟨a,-,rfl⟩:=List.mem_map.1 hx
   refine(figF_good fun z hz=> ?_).good _ (List.mem_singleton.2 rfl);obtain⟨c,hc,rfl⟩:=List.mem_map.1 hz;exact getD_good (hA c (h.mem q hq c hc)) _
 ·show(q.1++figsP p q.2).length≤8
  unfold figsP;rw[List.length_append,List.length_map,g2];exact h8
theorem heads_view {p:Pl}{A:AV}(hp:checkP p=0)(hg:p.grouped=true)(hA: ∀c∈A,GoodR c.1)(hc: ∀c∈A,GoodR (cellsG p c.1))(hl:A.length≤4096){rows:List (List Val)}(h:rows.Perm ((partsP p A).map (headRow p))):(∀r∈rows,GoodR r)∧rows.length≤4096∧viewR rows=groupV p A:=by
 have hP:=parts_all hc;have g:=head_good hp hg hP hA;have hlen:((partsP p A).map (headRow p)).length≤4096:=by rw[List.length_map];have:=hP.few;omega
 have hg': ∀r∈rows,GoodR r:=fun r hr=>g r (h.mem_iff.1 hr);have hl':rows.length≤4096:=by rw[h.length_eq];exact hlen
 refine⟨hg',hl',?_⟩;rw[viewR_perm hg' hl' h,viewR_rise g hlen (heads_rise hP)];unfold groupV;rw[List.map_map];rfl
end Go.Proofs.YtjhbeecmdgglgaaGreatDoor
