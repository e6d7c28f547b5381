/-Plain law of changes: what is told of a difference makes the one view of the other; changes undone make the view again; changes that are cut. Plain la -/
import Derived.Test.YtjhbeecmdgglgaaGreatDoorGrpV9
import Derived.Test.YtjhbeecmdgglgaaGreatDoorGrpV26
import Derived.Test.YtjhbeecmdgglgaaGreatDoorGrpV22
import Derived.Test.YtjhbeecmdgglgaaGreatDoorGrpV4
import Derived.Test.YtjhbeecmdgglgaaGreatDoorGrpV1
import Derived.Test.YtjhbeecmdgglgaaGreatDoorGrpV10
import Derived.Test.YtjhbeecmdgglgaaGreatDoorGrpV6
import Derived.Test.YtjhbeecmdgglgaaGreatDoorGrpV5
set_option linter.unusedSimpArgs false
set_option linter.unusedVariables false
namespace Go.Proofs.YtjhbeecmdgglgaaGreatDoor
open Go.RowKit Go.Maps
end Go.Proofs.YtjhbeecmdgglgaaGreatDoor
namespace Go.Proofs.YtjhbeecmdgglgaaGreatDoor
open Go.RowKit Go.Maps
theorem fold_app: ∀(L M:KL) (A:AV) (i:Int),(foldR A i L).2.2=0→foldR A i (L++M)=foldR (foldR A i L).1 (i+L.length) M
 |[],M,A,i,_=>by simp[foldR]
 |c::t,M,A,i,h=>by
  rw[foldR]at h;rw[List.cons_append,foldR,foldR];by_cases h0:(addR A c.2 (stepI c.1)).2=0
  ·rw[if_pos h0]at h⊢
   rw[if_pos h0,fold_app t M _ _ h,List.length_cons]
   congr 1
   simp only[Int.natCast_add];omega
  ·rw[if_neg h0]at h
   exact absurd h h0
theorem fold_head {L M:KL}{A:AV}{i:Int}(h:(foldR A i (L++M)).2.2=0):(foldR A i L).2.2=0:=by
 induction L generalizing A i with
 |nil=>rfl
 |cons c t ih=>
  rw[List.cons_append,foldR]at h;rw[foldR];by_cases h0:(addR A c.2 (stepI c.1)).2=0
  ·rw[if_pos h0]at h⊢;exact ih h
  ·rw[if_neg h0]at h;exact absurd h h0
theorem fold_place: ∀(L:KL) (A:AV) (i:Int),(foldR A i L).2.2=0→(foldR A i L).2.1=0
 |[],_,_,_=>rfl
 |c::t,A,i,h=>by
  rw[foldR]at h⊢;by_cases h0:(addR A c.2 (stepI c.1)).2=0
  ·rw[if_pos h0]at h⊢;exact fold_place t _ _ h
  ·rw[if_neg h0]at h;exact absurd h h0
theorem fold_any_place: ∀(L:KL) (A:AV) (i j:Int),(foldR A i L).2.2=0→foldR A j L=foldR A i L
 |[],_,_,_,_=>rfl
 |c::t,A,i,j,h=>by
  rw[foldR]at h;rw[foldR,foldR];by_cases h0:(addR A c.2 (stepI c.1)).2=0
  ·rw[if_pos h0]at h;rw[if_pos h0,if_pos h0];exact fold_any_place t _ _ _ h
  ·rw[if_neg h0]at h;exact absurd h h0
theorem fold_good: ∀(L:KL) (A:AV) (i:Int),GoodA A→(∀c∈L,GoodR c.2)→(foldR A i L).2.2=0→GoodA (foldR A i L).1
 |[],_,_,hA,_,_=>hA
 |c::t,A,i,hA,hg,h=>by
  rw[foldR]at h⊢;by_cases h0:(addR A c.2 (stepI c.1)).2=0
  ·rw[if_pos h0]at h⊢;exact fold_good t _ _ (hA.add (hg c (by simp)) h0) (fun d hd=>hg d (by simp[hd])) h
  ·rw[if_neg h0]at h;exact absurd h h0
end Go.Proofs.YtjhbeecmdgglgaaGreatDoor
namespace Go.Proofs.YtjhbeecmdgglgaaGreatDoor
open Go.RowKit Go.Maps
theorem goodR_err {r:List Val}(h:GoodR r):keyErr r=0:=by
 unfold keyErr;rw[if_neg (by have:=h.few;omega)];refine firstNZ_none fun x hx=> ?_;obtain⟨v,hv,rfl⟩:=List.mem_map.1 hx;exact(h.good v hv).1
theorem GoodR.fine {r:List Val}(h:GoodR r):Fine r:=
 ⟨fun x hx=>by have:=good_size (h.good x hx).1;omega,fun x hx=>(h.good x hx).2⟩
theorem fineV_of {l:List Cnt}(h:GoodA (av l)):FineV l:=⟨fun c hc=>(h.rises.good (c.r,c.n) (List.mem_map.2 ⟨c,hc,rfl⟩)).fine,fun c hc=>by
 have:=h.nums (c.r,c.n) (List.mem_map.2 ⟨c,hc,rfl⟩);simp only at this;omega⟩
theorem chk_of {l:List Cnt}(h:GoodA (av l)):chkV l=0:=by
 have hlen:(av l).length=l.length:=by unfold av;rw[List.length_map]
 have hf:=h.few;refine chk_good (by omega) fun j hj=> ?_;rw[List.take_of_length_le (by rw[List.length_range];exact Nat.le_refl _),List.mem_range]at hj;have hx:l[j]?=some l[j]:=List.getElem?_eq_getElem hj;have hxm:(l[j].r,l[j].n)∈av l:=List.mem_map.2 ⟨l[j],List.getElem_mem hj,rfl⟩;have hn:=h.nums _ hxm;simp only at hn
 have hok:okC l[j]=true:=by
  unfold okC;rw[goodR_err (h.rises.good _ hxm),btw_yes hn.1 hn.2];rfl
 cases j with
 |zero=>rw[okAt_zero hx,hok]
 |succ k=>
  have hy:l[k]?=some l[k]:=List.getElem?_eq_getElem (by omega);rw[okAt_succ hx hy,hok,Bool.true_and];refine decide_eq_true ?_;have:=List.pairwise_iff_getElem.1 h.rises.rise k (k+1) (by omega) (by omega) (by omega);simpa[av]using this
structure InForm (m:List Chn):Prop where
 few:m.length≤4096
 good: ∀c∈m,GoodR c.r∧1≤c.k∧c.k≤4
 next: ∀i,kAt m i=3→kAt m (i+1)=4
 prev: ∀i,kAt m i=4→ ∃j,i=j+1∧kAt m j=3
theorem inForm {m:List Chn}(hf:FineC m)(h:formC m=0):InForm m:=by
 have hg:=form_zero hf h;obtain⟨h1,h2⟩:=form_errs h
 have hc: ∀i c,m[i]?=some c→ ¬((c.k=3∧kAt m (i+1)≠4)∨(c.k=4∧(i=0∨kAt m (i-1)≠3))):=by
  intro i c hc h6;have hi:i<m.length:=(List.getElem?_eq_some_iff.1 hc).1;have hz:=err_zero hc (h2 i hi);have:=err_six hc hz.2.1 hz.2.2 hz.1 h6;rw[h2 i hi]at this;omega
 refine⟨h1,hg.good,fun i hi=> ?_,fun i hi=> ?_⟩
 ·cases hx:m[i]? with
  |none=>simp[kAt,hx]at hi
  |some c=>
   rw[kAt_some hx]at hi;exact Decidable.byContradiction fun h3=>hc i c hx (.inl ⟨hi,h3⟩)
 ·cases hx:m[i]? with
  |none=>simp[kAt,hx]at hi
  |some c=>
   rw[kAt_some hx]at hi;cases i with
   |zero=>exact absurd (.inr ⟨hi,.inl rfl⟩) (hc 0 c hx)
   |succ j=>exact⟨j,rfl,Decidable.byContradiction fun h3=>hc (j+1) c hx (.inr ⟨hi,.inr h3⟩)⟩
theorem InForm.fine {m:List Chn}(h:InForm m):FineC m:=⟨fun c hc=>(h.good c hc).1.fine,fun c hc=>by have:=(h.good c hc).2;omega⟩
theorem InForm.form {m:List Chn}(h:InForm m):formC m=0:=by
 refine form_good (by have:=h.few;omega) fun i hi=> ?_;have hx:m[i]?=some m[i]:=List.getElem?_eq_getElem hi;have hg:=h.good m[i] (List.getElem_mem hi);refine err_no hx hg.2.1 hg.2.2 (goodR_err hg.1) ?_;rintro(⟨a,b⟩|⟨a,b⟩)
 ·exact b (h.next i (by rw[kAt_some hx,a]))
 ·obtain⟨j,e,hj⟩:=h.prev i (by rw[kAt_some hx,a])
  subst e;rcases b with b|b
  ·omega
  ·exact b hj
theorem form_cut {m:List Chn}{k:Nat}(h:InForm m)(hk:k≤m.length)(ht:formC (m.take k)=0):InForm (m.take k)∧InForm (m.drop k):=by
 have hft:FineC (m.take k):=⟨fun c hc=>h.fine.rows c (List.mem_of_mem_take hc),fun c hc=>h.fine.nums c (List.mem_of_mem_take hc)⟩;have hT:=inForm hft ht;have hd: ∀i,kAt (m.drop k) i=kAt m (k+i):=fun i=>by unfold kAt;rw[List.getElem?_drop]
 refine⟨hT,by rw[List.length_drop];have:=h.few;omega,fun c hc=>h.good c (List.mem_of_mem_drop hc),fun i hi=> ?_,fun i hi=> ?_⟩
 ·rw[hd]at hi⊢
  exact h.next _ hi
 ·rw[hd]at hi
  obtain⟨j,ej,hj⟩:=h.prev _ hi;cases i with
  |zero=>
   exfalso
   have h3:kAt (m.take k) j=3:=by
    unfold kAt at hj⊢;rw[List.getElem?_take_of_lt (by omega)];exact hj
   have h4:=hT.next j h3;rw[kAt_none (by rw[List.length_take];omega)]at h4;omega
  |succ i=>exact⟨i,rfl,by rw[hd,show k+i=j by omega];exact hj⟩
end Go.Proofs.YtjhbeecmdgglgaaGreatDoor
namespace Go.Proofs.YtjhbeecmdgglgaaGreatDoor
def VG (p:Pl) (G:List Gp):AV:=G.map fun g=>(rowG p g,1)
def un:List Gp→List Gp→Nat
 |[],[]=>0
 |a::al,[]=>un al []+1
 |[],b::bs=>un [] bs+1
 |a::al,b::bs=>if rowsF a.r b.r<0 then un al (b::bs)+1 else if 0<rowsF a.r b.r then un (a::al) bs+1 else un al bs+1
theorem un_00:un [] []=0:=by rw[un]
theorem un_g0 (a:Gp)(al:List Gp):un (a::al) []=un al []+1:=by rw[un]
theorem un_0h (b:Gp)(bs:List Gp):un [] (b::bs)=un [] bs+1:=by rw[un]
theorem un_cc (a:Gp)(al:List Gp)(b:Gp)(bs:List Gp):un (a::al) (b::bs)=if rowsF a.r b.r<0 then un al (b::bs)+1 else if 0<rowsF a.r b.r then un (a::al) bs+1 else un al bs+1:=by rw[un]
theorem un_nil: ∀G:List Gp,un G []=G.length
 |[]=>un_00
 |a::al=>by rw[un_g0,un_nil al];rfl
structure GRow (p:Pl) (n:Nat) (g:Gp):Prop where
 key:GoodR g.r
 row:GoodR (rowG p g)
 len:g.r.length=n
theorem row_lt {p:Pl}{n:Nat}{a b:Gp}(ha:GRow p n a)(hb:GRow p n b)(h:rowsF a.r b.r<0):rowsF (rowG p a) (rowG p b)<0:=rowsF_app (by rw[ha.len,hb.len]) h
theorem un_ge: ∀(G H:List Gp),G.length≤un G H
 |[],_=>Nat.zero_le _
 |a::al,[]=>by rw[un_nil];exact Nat.le_refl _
 |a::al,b::bs=>by
  rw[un_cc,List.length_cons];split
  ·have:=un_ge al (b::bs);omega
  ·split
   ·have:=un_ge (a::al) bs;simp only[List.length_cons]at this;omega
   ·have:=un_ge al bs;omega
termination_by G H=>G.length+H.length
theorem add_del {D X:AV}{r:List Val}(hr:GoodR r)(hD: ∀q∈D,rowsF q.1 r<0):addR (D++(r,1)::X) r (-1)=(D++X,0):=by
 unfold addR;rw[look_mid hD (rowsF_self hr),del_mid hD (rowsF_self hr)];rw[if_neg (by omega),if_neg (by rintro(h|⟨-,h,-⟩)<;>omega),if_pos (by omega)]
theorem add_put {D X:AV}{r:List Val}(hr:GoodR r)(hD: ∀q∈D,rowsF q.1 r<0)(hX: ∀q∈X,0<rowsF q.1 r)(hl:D.length+X.length<4096):addR (D++X) r 1=(D++(r,1)::X,0):=by
 have h0:lookA (D++X) r=0:=look_none fun q hq=>by
  rcases List.mem_append.1 hq with hq|hq
  ·have:=hD q hq;omega
  ·have:=hX q hq;omega
 unfold addR;rw[h0,put_mid hD hX];rw[if_neg (by omega),if_neg (by rw[List.length_append];rintro(h|⟨-,-,h⟩)<;>omega),if_neg (by omega)];rfl
theorem foldR_cons {A A':AV}{i:Int}{c:Int×List Val}{l:List (Int×List Val)}(h:addR A c.2 (stepI c.1)=(A',0)):foldR A i (c::l)=foldR A' (i+1) l:=by
 conv=>lhs;unfold foldR
 rw[h,if_pos rfl]
theorem chg_fold {p:Pl}{n:Nat}: ∀(G H:List Gp) (D:AV) (i:Int),(∀g∈G,GRow p n g)→(∀g∈H,GRow p n g)→G.Pairwise (fun a b=>rowsF a.r b.r<0)→H.Pairwise (fun a b=>rowsF a.r b.r<0)→
 (∀q∈D,∀g∈G,rowsF q.1 (rowG p g)<0)→(∀q∈D,∀g∈H,rowsF q.1 (rowG p g)<0)→D.length+un G H≤4096→foldR (D++VG p G) i (changedG p G H)=(D++VG p H,0,0)
 |[],[],D,i,_,_,_,_,_,_,_=>by unfold changedG;rfl
 |a::al,[],D,i,hG,hH,pG,pH,dG,dH,hu=>by
  have ha:=hG a (by simp);rw[show changedG p (a::al) []=(2,rowG p a)::changedG p al [] by conv=>lhs;unfold changedG];rw[foldR_cons (A':=D++VG p al) (add_del ha.row fun q hq=>dG q hq a (by simp))];exact chg_fold al [] D (i+1) (fun g hg=>hG g (by simp[hg])) hH (List.pairwise_cons.1 pG).2 pH (fun q hq g hg=>dG q hq g (by simp[hg])) dH (by have:=un_g0 a al;omega)
 |[],b::bs,D,i,hG,hH,pG,pH,dG,dH,hu=>by
  have hb:=hH b (by simp);have e:=un_0h b bs;rw[show changedG p [] (b::bs)=(1,rowG p b)::changedG p [] bs by conv=>lhs;unfold changedG]
  rw[foldR_cons (A':=(D++[(rowG p b,1)])++VG p []) (by
   have:=add_put (D:=D) (X:=[]) hb.row (fun q hq=>dH q hq b (by simp)) nofun (by simp;omega);rw[show D++VG p []=D++[]from rfl,show addR (D++[]) (rowG p b) (stepI 1)=_ from this,List.append_assoc];rfl)]
  rw[chg_fold [] bs (D++[(rowG p b,1)]) (i+1) nofun (fun g hg=>hH g (by simp[hg])) .nil (List.pairwise_cons.1 pH).2 (fun q hq g hg=>by cases hg) (fun q hq g hg=> ?_) (by rw[List.length_append];simp;omega)]
  ·rw[List.append_assoc];rfl
  ·rcases List.mem_append.1 hq with hq|hq
   ·exact dH q hq g (by simp[hg])
   ·rw[List.mem_singleton.1 hq]
    exact row_lt hb (hH g (by simp[hg])) ((List.pairwise_cons.1 pH).1 g hg)
 |a::al,b::bs,D,i,hG,hH,pG,pH,dG,dH,hu=>by
  have ha:=hG a (by simp);have hb:=hH b (by simp);obtain⟨pG1,pG2⟩:=List.pairwise_cons.1 pG;obtain⟨pH1,pH2⟩:=List.pairwise_cons.1 pH;rw[un_cc]at hu;rw[show changedG p (a::al) (b::bs)=if rowsF a.r b.r<0 then(2,rowG p a)::changedG p al (b::bs)else if 0<rowsF a.r b.r then(1,rowG p b)::changedG p (a::al) bs else tellG p a b++changedG p al bs by conv=>lhs;unfold changedG];by_cases c1:rowsF a.r b.r<0
  ·rw[if_pos c1]at hu⊢
   rw[foldR_cons (A':=D++VG p al) (add_del ha.row fun q hq=>dG q hq a (by simp))];exact chg_fold al (b::bs) D (i+1) (fun g hg=>hG g (by simp[hg])) hH pG2 pH (fun q hq g hg=>dG q hq g (by simp[hg])) dH (by omega)
  ·rw[if_neg c1]at hu⊢
   by_cases c2:0<rowsF a.r b.r
   ·rw[if_pos c2]at hu⊢
    have c3:rowsF b.r a.r<0:=by rw[rowsF_flip ha.key hb.key];omega
    have hlt: ∀g∈a::al,rowsF (rowG p b) (rowG p g)<0:=fun g hg=>by
     rcases List.mem_cons.1 hg with rfl|hg
     ·exact row_lt hb ha c3
     ·exact row_lt hb (hG g (by simp[hg])) (rowsF_trans hb.key ha.key (hG g (by simp[hg])).key c3 (pG1 g hg))
    have hge:=un_ge (a::al) bs;simp only[List.length_cons]at hge
    rw[foldR_cons (A':=(D++[(rowG p b,1)])++VG p (a::al)) (by
     have:=add_put (D:=D) (X:=VG p (a::al)) hb.row (fun q hq=>dH q hq b (by simp)) (fun q hq=>by
      obtain⟨g,hg,rfl⟩:=List.mem_map.1 hq;have h1:=hlt g hg;have h2:=rowsF_flip hb.row (hG g hg).row;show 0<rowsF (rowG p g) (rowG p b);omega) (by unfold VG;rw[List.length_map,List.length_cons];omega)
     rw[show addR (D++VG p (a::al)) (rowG p b) (stepI 1)=_ from this,List.append_assoc];rfl)]
    rw[chg_fold (a::al) bs (D++[(rowG p b,1)]) (i+1) hG (fun g hg=>hH g (by simp[hg])) pG pH2 (fun q hq g hg=> ?_) (fun q hq g hg=> ?_) (by rw[List.length_append];simp;omega)]
    ·rw[List.append_assoc];rfl
    ·rcases List.mem_append.1 hq with hq|hq
     ·exact dG q hq g hg
     ·rw[List.mem_singleton.1 hq];exact hlt g hg
    ·rcases List.mem_append.1 hq with hq|hq
     ·exact dH q hq g (by simp[hg])
     ·rw[List.mem_singleton.1 hq];exact row_lt hb (hH g (by simp[hg])) (pH1 g hg)
   ·rw[if_neg c2]at hu⊢
    have ek:a.r=b.r:=(rowsF_zero ha.key hb.key).1 (by omega);have hbl: ∀g∈al,rowsF (rowG p b) (rowG p g)<0:=fun g hg=>row_lt hb (hG g (by simp[hg])) (by rw[←ek];exact pG1 g hg)
    have hdn: ∀q∈D++[(rowG p b,1)],∀g∈al,rowsF q.1 (rowG p g)<0:=fun q hq g hg=>by
     rcases List.mem_append.1 hq with hq|hq
     ·exact dG q hq g (by simp[hg])
     ·rw[List.mem_singleton.1 hq];exact hbl g hg
    have hdh: ∀q∈D++[(rowG p b,1)],∀g∈bs,rowsF q.1 (rowG p g)<0:=fun q hq g hg=>by
     rcases List.mem_append.1 hq with hq|hq
     ·exact dH q hq g (by simp[hg])
     ·rw[List.mem_singleton.1 hq];exact row_lt hb (hH g (by simp[hg])) (pH1 g hg)
    have hge:=un_ge al bs;have hrest:=fun j=>chg_fold al bs (D++[(rowG p b,1)]) j (fun g hg=>hG g (by simp[hg])) (fun g hg=>hH g (by simp[hg])) pG2 pH2 hdn hdh (by rw[List.length_append];simp;omega);unfold tellG;by_cases er:rowsF (rowG p a) (rowG p b)=0
    ·rw[if_pos er,List.nil_append]
     have e2:=(rowsF_zero ha.row hb.row).1 er
     have e3:D++VG p (a::al)=(D++[(rowG p b,1)])++VG p al:=by
      rw[List.append_assoc];show D++(rowG p a,1)::VG p al=_;rw[e2];rfl
     rw[e3,hrest,List.append_assoc];rfl
    ·rw[if_neg er]
     show foldR (D++(rowG p a,1)::VG p al) i ((3,rowG p a)::(4,rowG p b)::changedG p al bs)=_;rw[foldR_cons (A':=D++VG p al) (add_del ha.row fun q hq=>dG q hq a (by simp))]
     rw[foldR_cons (A':=(D++[(rowG p b,1)])++VG p al) (by
      have:=add_put (D:=D) (X:=VG p al) hb.row (fun q hq=>dH q hq b (by simp)) (fun q hq=>by
       obtain⟨g,hg,rfl⟩:=List.mem_map.1 hq;have h1:=hbl g hg;have h2:=rowsF_flip hb.row (hG g (by simp[hg])).row;show 0<rowsF (rowG p g) (rowG p b);omega) (by unfold VG;rw[List.length_map];omega)
      rw[show addR (D++VG p al) (rowG p b) (stepI 4)=_ from this,List.append_assoc];rfl)]
     rw[hrest,List.append_assoc];rfl
termination_by G H=>G.length+H.length
def kdA (l:List (Int×List Val)) (i:Nat):Option Int:=(l[i]?).map fun c=>c.1
abbrev KForm (l:List (Int×List Val)):Prop:=(∀c∈l,GoodR c.2∧1≤c.1∧c.1≤4)∧(∀i:Nat,kdA l i=some 3→kdA l (i+1)=some 4)∧(∀i:Nat,kdA l i=some 4→ ∃j,i=j+1∧kdA l j=some 3)
theorem kdA_succ (c:Int×List Val)(l:List (Int×List Val))(i:Nat):kdA (c::l) (i+1)=kdA l i:=rfl
theorem kdA_zero (c:Int×List Val)(l:List (Int×List Val)):kdA (c::l) 0=some c.1:=rfl
theorem chg_one {k:Int}{r:List Val}{l:List (Int×List Val)}(hk:k=1∨k=2)(hr:GoodR r)(h:KForm l):KForm ((k,r)::l):=by
 refine⟨fun c hc=> ?_,fun i hi=> ?_,fun i hi=> ?_⟩
 ·rcases List.mem_cons.1 hc with rfl|hc
  ·exact⟨hr,by show 1≤k;omega,by show k≤4;omega⟩
  ·exact h.1 c hc
 ·cases i with
  |zero=>rw[kdA_zero]at hi;injection hi with hi;simp only at hi;omega
  |succ i=>rw[kdA_succ]at hi⊢;exact h.2.1 i hi
 ·cases i with
  |zero=>rw[kdA_zero]at hi;injection hi with hi;simp only at hi;omega
  |succ i=>
   rw[kdA_succ]at hi;obtain⟨j,rfl,h3⟩:=h.2.2 i hi;exact⟨j+1,rfl,h3⟩
theorem chg_two {r s:List Val}{l:List (Int×List Val)}(hr:GoodR r)(hs:GoodR s)(h:KForm l):KForm ([(3,r),(4,s)]++l):=by
 refine⟨fun c hc=> ?_,fun i hi=> ?_,fun i hi=> ?_⟩
 ·rcases List.mem_append.1 hc with hc|hc
  ·rcases List.mem_cons.1 hc with rfl|hc
   ·exact⟨hr,by show(1:Int)≤3;omega,by show(3:Int)≤4;omega⟩
   ·rw[List.mem_singleton.1 hc];exact⟨hs,by show(1:Int)≤4;omega,by show(4:Int)≤4;omega⟩
  ·exact h.1 c hc
 ·match i,hi with
  |0,_=>rfl
  |1,hi=>injection hi with hi;simp only at hi;omega
  |i+2,hi=>exact h.2.1 i hi
 ·match i,hi with
  |0,hi=>injection hi with hi;simp only at hi;omega
  |1,_=>exact⟨0,rfl,rfl⟩
  |i+2,hi=>
   obtain⟨j,rfl,h3⟩:=h.2.2 i hi;exact⟨j+2,rfl,h3⟩
theorem chg_kinds {p:Pl}{n:Nat}: ∀(G H:List Gp),(∀g∈G,GRow p n g)→(∀g∈H,GRow p n g)→KForm (changedG p G H)
 |[],[],_,_=>by
  unfold changedG;refine⟨nofun,fun i h=> ?_,fun i h=> ?_⟩
  ·cases h
  ·cases h
 |a::al,[],hG,hH=>by
  rw[show changedG p (a::al) []=(2,rowG p a)::changedG p al [] by conv=>lhs;unfold changedG];exact chg_one (.inr rfl) (hG a (by simp)).row (chg_kinds al [] (fun g hg=>hG g (by simp[hg])) hH)
 |[],b::bs,hG,hH=>by
  rw[show changedG p [] (b::bs)=(1,rowG p b)::changedG p [] bs by conv=>lhs;unfold changedG];exact chg_one (.inl rfl) (hH b (by simp)).row (chg_kinds [] bs hG fun g hg=>hH g (by simp[hg]))
 |a::al,b::bs,hG,hH=>by
  rw[show changedG p (a::al) (b::bs)=if rowsF a.r b.r<0 then(2,rowG p a)::changedG p al (b::bs)else if 0<rowsF a.r b.r then(1,rowG p b)::changedG p (a::al) bs else tellG p a b++changedG p al bs by conv=>lhs;unfold changedG];by_cases c1:rowsF a.r b.r<0
  ·rw[if_pos c1]
   exact chg_one (.inr rfl) (hG a (by simp)).row (chg_kinds al (b::bs) (fun g hg=>hG g (by simp[hg])) hH)
  ·rw[if_neg c1]
   by_cases c2:0<rowsF a.r b.r
   ·rw[if_pos c2]
    exact chg_one (.inl rfl) (hH b (by simp)).row (chg_kinds (a::al) bs hG fun g hg=>hH g (by simp[hg]))
   ·rw[if_neg c2]
    unfold tellG;by_cases er:rowsF (rowG p a) (rowG p b)=0
    ·rw[if_pos er,List.nil_append]
     exact chg_kinds al bs (fun g hg=>hG g (by simp[hg])) fun g hg=>hH g (by simp[hg])
    ·rw[if_neg er]
     exact chg_two (hG a (by simp)).row (hH b (by simp)).row (chg_kinds al bs (fun g hg=>hG g (by simp[hg])) fun g hg=>hH g (by simp[hg]))
termination_by G H=>G.length+H.length
end Go.Proofs.YtjhbeecmdgglgaaGreatDoor
namespace Go.Proofs.YtjhbeecmdgglgaaGreatDoor
theorem sub_len {α:Type}: ∀ {U M:List α},U.Pairwise (· ≠ ·)→(∀u∈U,u∈M)→U.length≤M.length
 |[],_,_,_=>Nat.zero_le _
 |u::U,M,hp,h=>by
  obtain⟨p1,p2⟩:=List.pairwise_cons.1 hp;obtain⟨M1,M2,rfl⟩:=List.append_of_mem (h u (by simp))
  have:=sub_len (M:=M1++M2) p2 fun v hv=>by
   have h1:=h v (by simp[hv]);have h2:=p1 v hv;rcases List.mem_append.1 h1 with h1|h1
   ·exact List.mem_append_left _ h1
   ·rcases List.mem_cons.1 h1 with h1|h1
    ·exact absurd h1.symm h2
    ·exact List.mem_append_right _ h1
  rw[List.length_append]at this;rw[List.length_append,List.length_cons,List.length_cons];omega
def mk2 (p:Pl):List Gp→List Gp→List (List Val×Bool)
 |[],[]=>[]
 |a::al,[]=>(a.r,true)::mk2 p al []
 |[],b::bs=>(b.r,true)::mk2 p [] bs
 |a::al,b::bs=>if rowsF a.r b.r<0 then(a.r,true)::mk2 p al (b::bs)else if 0<rowsF a.r b.r then(b.r,true)::mk2 p (a::al) bs else(b.r,rowsF (rowG p a) (rowG p b) != 0)::mk2 p al bs
theorem mk2_cc (p:Pl)(a:Gp)(al:List Gp)(b:Gp)(bs:List Gp):mk2 p (a::al) (b::bs)=if rowsF a.r b.r<0 then(a.r,true)::mk2 p al (b::bs)else if 0<rowsF a.r b.r then(b.r,true)::mk2 p (a::al) bs else(b.r,rowsF (rowG p a) (rowG p b) != 0)::mk2 p al bs:=by rw[mk2]
theorem mk2_g0 (p:Pl)(a:Gp)(al:List Gp):mk2 p (a::al) []=(a.r,true)::mk2 p al []:=by rw[mk2]
theorem mk2_0h (p:Pl)(b:Gp)(bs:List Gp):mk2 p [] (b::bs)=(b.r,true)::mk2 p [] bs:=by rw[mk2]
theorem mk2_00 (p:Pl):mk2 p [] []=[]:=by rw[mk2]
theorem un_mk (p:Pl): ∀(G H:List Gp),un G H=(mk2 p G H).length
 |[],[]=>by rw[un_00,mk2_00];rfl
 |a::al,[]=>by rw[un_g0,mk2_g0,un_mk p al []];rfl
 |[],b::bs=>by rw[un_0h,mk2_0h,un_mk p [] bs];rfl
 |a::al,b::bs=>by
  rw[mk2_cc,un_cc];split
  ·rw[un_mk p al (b::bs)];rfl
  ·split
   ·rw[un_mk p (a::al) bs];rfl
   ·rw[un_mk p al bs];rfl
termination_by G H=>G.length+H.length
theorem chg_len (p:Pl): ∀(G H:List Gp),(changedG p G H).length≤((mk2 p G H).filter (·.2)).length+G.length
 |[],[]=>by unfold changedG;simp
 |a::al,[]=>by
  have:=chg_len p al [];rw[show changedG p (a::al) []=(2,rowG p a)::changedG p al [] by conv=>lhs;unfold changedG];rw[mk2_g0,List.filter_cons,if_pos rfl];simp only[List.length_cons];omega
 |[],b::bs=>by
  have:=chg_len p [] bs;rw[show changedG p [] (b::bs)=(1,rowG p b)::changedG p [] bs by conv=>lhs;unfold changedG];rw[mk2_0h,List.filter_cons,if_pos rfl];simp only[List.length_cons,List.length_nil]at this⊢;omega
 |a::al,b::bs=>by
  rw[show changedG p (a::al) (b::bs)=if rowsF a.r b.r<0 then(2,rowG p a)::changedG p al (b::bs)else if 0<rowsF a.r b.r then(1,rowG p b)::changedG p (a::al) bs else tellG p a b++changedG p al bs by conv=>lhs;unfold changedG,mk2_cc];by_cases c1:rowsF a.r b.r<0
  ·have:=chg_len p al (b::bs)
   rw[if_pos c1,if_pos c1,List.filter_cons,if_pos rfl];simp only[List.length_cons];omega
  ·rw[if_neg c1,if_neg c1]
   by_cases c2:0<rowsF a.r b.r
   ·have:=chg_len p (a::al) bs
    rw[if_pos c2,if_pos c2,List.filter_cons,if_pos rfl];simp only[List.length_cons]at this⊢;omega
   ·have:=chg_len p al bs
    rw[if_neg c2,if_neg c2,List.filter_cons];unfold tellG;by_cases er:rowsF (rowG p a) (rowG p b)=0
    ·rw[if_pos er,bneF er,if_neg (by simp)]
     simp only[List.nil_append,List.length_cons];omega
    ·rw[if_neg er,bneT er,if_pos rfl]
     simp only[List.length_append,List.length_cons,List.length_nil];omega
termination_by G H=>G.length+H.length
theorem mk2_from (p:Pl): ∀(G H:List Gp),(∀g∈G,GoodR g.r)→(∀g∈H,GoodR g.r)→ ∀q∈mk2 p G H,(∃g∈G,g.r=q.1)∨ ∃g∈H,g.r=q.1
 |[],[],_,_,q,hq=>by rw[mk2_00]at hq;cases hq
 |a::al,[],hG,hH,q,hq=>by
  rw[mk2_g0]at hq;rcases List.mem_cons.1 hq with rfl|hq
  ·exact .inl ⟨a,by simp,rfl⟩
  ·rcases mk2_from p al [] (fun g hg=>hG g (by simp[hg])) hH q hq with⟨g,hg,e⟩|⟨g,hg,e⟩
   ·exact .inl ⟨g,by simp[hg],e⟩
   ·cases hg
 |[],b::bs,hG,hH,q,hq=>by
  rw[mk2_0h]at hq;rcases List.mem_cons.1 hq with rfl|hq
  ·exact .inr ⟨b,by simp,rfl⟩
  ·rcases mk2_from p [] bs hG (fun g hg=>hH g (by simp[hg])) q hq with⟨g,hg,e⟩|⟨g,hg,e⟩
   ·cases hg
   ·exact .inr ⟨g,by simp[hg],e⟩
 |a::al,b::bs,hG,hH,q,hq=>by
  rw[mk2_cc]at hq;split at hq
  ·rcases List.mem_cons.1 hq with rfl|hq
   ·exact .inl ⟨a,by simp,rfl⟩
   ·rcases mk2_from p al (b::bs) (fun g hg=>hG g (by simp[hg])) hH q hq with⟨g,hg,e⟩|h
    ·exact .inl ⟨g,by simp[hg],e⟩
    ·exact .inr h
  ·split at hq
   ·rcases List.mem_cons.1 hq with rfl|hq
    ·exact .inr ⟨b,by simp,rfl⟩
    ·rcases mk2_from p (a::al) bs hG (fun g hg=>hH g (by simp[hg])) q hq with h|⟨g,hg,e⟩
     ·exact .inl h
     ·exact .inr ⟨g,by simp[hg],e⟩
   ·rcases List.mem_cons.1 hq with rfl|hq
    ·exact .inr ⟨b,by simp,rfl⟩
    ·rcases mk2_from p al bs (fun g hg=>hG g (by simp[hg])) (fun g hg=>hH g (by simp[hg])) q hq with⟨g,hg,e⟩|⟨g,hg,e⟩
     ·exact .inl ⟨g,by simp[hg],e⟩
     ·exact .inr ⟨g,by simp[hg],e⟩
termination_by G H=>G.length+H.length
theorem mk2_rise (p:Pl): ∀(G H:List Gp),(∀g∈G,GoodR g.r)→(∀g∈H,GoodR g.r)→G.Pairwise (fun a b=>rowsF a.r b.r<0)→H.Pairwise (fun a b=>rowsF a.r b.r<0)→(mk2 p G H).Pairwise fun a b=>rowsF a.1 b.1<0
 |[],[],_,_,_,_=>by rw[mk2_00];exact .nil
 |a::al,[],hG,hH,pG,pH=>by
  rw[mk2_g0];refine List.pairwise_cons.2 ⟨fun q hq=> ?_,mk2_rise p al [] (fun g hg=>hG g (by simp[hg])) hH (List.pairwise_cons.1 pG).2 pH⟩;rcases mk2_from p al [] (fun g hg=>hG g (by simp[hg])) hH q hq with⟨g,hg,e⟩|⟨g,hg,e⟩
  ·rw[←e];exact(List.pairwise_cons.1 pG).1 g hg
  ·cases hg
 |[],b::bs,hG,hH,pG,pH=>by
  rw[mk2_0h];refine List.pairwise_cons.2 ⟨fun q hq=> ?_,mk2_rise p [] bs hG (fun g hg=>hH g (by simp[hg])) pG (List.pairwise_cons.1 pH).2⟩;rcases mk2_from p [] bs hG (fun g hg=>hH g (by simp[hg])) q hq with⟨g,hg,e⟩|⟨g,hg,e⟩
  ·cases hg
  ·rw[←e];exact(List.pairwise_cons.1 pH).1 g hg
 |a::al,b::bs,hG,hH,pG,pH=>by
  have ha:=hG a (by simp);have hb:=hH b (by simp);have hal: ∀g∈al,GoodR g.r:=fun g hg=>hG g (by simp[hg]);have hbs: ∀g∈bs,GoodR g.r:=fun g hg=>hH g (by simp[hg]);obtain⟨pG1,pG2⟩:=List.pairwise_cons.1 pG;obtain⟨pH1,pH2⟩:=List.pairwise_cons.1 pH;rw[mk2_cc];by_cases c1:rowsF a.r b.r<0
  ·rw[if_pos c1]
   refine List.pairwise_cons.2 ⟨fun q hq=> ?_,mk2_rise p al (b::bs) hal hH pG2 pH⟩;rcases mk2_from p al (b::bs) hal hH q hq with⟨g,hg,e⟩|⟨g,hg,e⟩
   ·rw[←e];exact pG1 g hg
   ·rw[←e]
    rcases List.mem_cons.1 hg with rfl|hg
    ·exact c1
    ·exact rowsF_trans ha hb (hbs g hg) c1 (pH1 g hg)
  ·rw[if_neg c1]
   by_cases c2:0<rowsF a.r b.r
   ·rw[if_pos c2]
    have c3:rowsF b.r a.r<0:=by rw[rowsF_flip ha hb];omega
    refine List.pairwise_cons.2 ⟨fun q hq=> ?_,mk2_rise p (a::al) bs hG hbs pG pH2⟩;rcases mk2_from p (a::al) bs hG hbs q hq with⟨g,hg,e⟩|⟨g,hg,e⟩
    ·rw[←e]
     rcases List.mem_cons.1 hg with rfl|hg
     ·exact c3
     ·exact rowsF_trans hb ha (hal g hg) c3 (pG1 g hg)
    ·rw[←e];exact pH1 g hg
   ·rw[if_neg c2]
    have ek:a.r=b.r:=(rowsF_zero ha hb).1 (by omega);refine List.pairwise_cons.2 ⟨fun q hq=> ?_,mk2_rise p al bs hal hbs pG2 pH2⟩;rcases mk2_from p al bs hal hbs q hq with⟨g,hg,e⟩|⟨g,hg,e⟩
    ·rw[←e,←ek];exact pG1 g hg
    ·rw[←e];exact pH1 g hg
termination_by G H=>G.length+H.length
theorem mk2_told (p:Pl): ∀(G H:List Gp),(∀g∈G,GoodR g.r)→(∀g∈H,GoodR g.r)→(∀g∈G,GoodR (rowG p g))→G.Pairwise (fun a b=>rowsF a.r b.r<0)→H.Pairwise (fun a b=>rowsF a.r b.r<0)→
 ∀k,(k,true)∈mk2 p G H→ ¬ ∃a∈G,∃b∈H,a.r=k∧b.r=k∧rowG p a=rowG p b
 |[],_,_,_,_,_,_,k,_=>fun⟨a,ha,_⟩=>by cases ha
 |a::al,[],_,_,_,_,_,k,_=>fun⟨_,_,b,hb,_⟩=>by cases hb
 |a::al,b::bs,hG,hH,hR,pG,pH,k,hk=>by
  have ha:=hG a (by simp);have hb:=hH b (by simp);have hal: ∀g∈al,GoodR g.r:=fun g hg=>hG g (by simp[hg]);have hbs: ∀g∈bs,GoodR g.r:=fun g hg=>hH g (by simp[hg]);have hRl: ∀g∈al,GoodR (rowG p g):=fun g hg=>hR g (by simp[hg]);obtain⟨pG1,pG2⟩:=List.pairwise_cons.1 pG;obtain⟨pH1,pH2⟩:=List.pairwise_cons.1 pH;have irr: ∀ {r:List Val},GoodR r→ ¬rowsF r r<0:=fun h=>by rw[rowsF_self h];omega
  rw[mk2_cc]at hk;rintro⟨x,hx,y,hy,ex,ey,er⟩;by_cases c1:rowsF a.r b.r<0
  ·rw[if_pos c1]at hk
   have hbig: ∀y∈b::bs,rowsF a.r y.r<0:=fun y hy=>by
    rcases List.mem_cons.1 hy with rfl|hy
    ·exact c1
    ·exact rowsF_trans ha hb (hbs y hy) c1 (pH1 y hy)
   have hxa: ¬x=a:=fun e=>by subst e;have:=hbig y hy;rw[ex,←ey]at this;exact irr (hH y hy) this
   have hx':x∈al:=by rcases List.mem_cons.1 hx with h|h;exact absurd h hxa;exact h
   rcases List.mem_cons.1 hk with e|hk
   ·injection e with e _
    have:=pG1 x hx';rw[ex,e]at this;exact irr ha this
   ·exact mk2_told p al (b::bs) hal hH hRl pG2 pH k hk ⟨x,hx',y,hy,ex,ey,er⟩
  ·rw[if_neg c1]at hk
   by_cases c2:0<rowsF a.r b.r
   ·rw[if_pos c2]at hk
    have c3:rowsF b.r a.r<0:=by rw[rowsF_flip ha hb];omega
    have hbig: ∀x∈a::al,rowsF b.r x.r<0:=fun x hx=>by
     rcases List.mem_cons.1 hx with rfl|hx
     ·exact c3
     ·exact rowsF_trans hb ha (hal x hx) c3 (pG1 x hx)
    have hyb: ¬y=b:=fun e=>by subst e;have:=hbig x hx;rw[ey,←ex]at this;exact irr (hG x hx) this
    have hy':y∈bs:=by rcases List.mem_cons.1 hy with h|h;exact absurd h hyb;exact h
    rcases List.mem_cons.1 hk with e|hk
    ·injection e with e _
     have:=pH1 y hy';rw[ey,e]at this;exact irr hb this
    ·exact mk2_told p (a::al) bs hG hbs hR pG pH2 k hk ⟨x,hx,y,hy',ex,ey,er⟩
   ·rw[if_neg c2]at hk
    have ek:a.r=b.r:=(rowsF_zero ha hb).1 (by omega);by_cases hxa:x=a
    ·subst hxa
     have hyb:y=b:=by
      rcases List.mem_cons.1 hy with h|h
      ·exact h
      ·have:=pH1 y h
       rw[ey,←ex,ek]at this;exact absurd this (irr hb)
     subst hyb;rcases List.mem_cons.1 hk with e|hk
     ·injection e with _ e
      rw[er,bneF (rowsF_self (by rw[←er];exact hR x (by simp)))]at e;cases e
     ·rcases mk2_from p al bs hal hbs _ hk with⟨g,hg,e⟩|⟨g,hg,e⟩
      ·have:=pG1 g hg;simp only at e;rw[e,←ex]at this;exact irr ha this
      ·have:=pH1 g hg;simp only at e;rw[e,←ey]at this;exact irr hb this
    ·have hx':x∈al:=by rcases List.mem_cons.1 hx with h|h;exact absurd h hxa;exact h
     have hyb: ¬y=b:=fun e=>by
      subst e;have:=pG1 x hx';rw[ex,←ey,ek]at this;exact irr hb this
     have hy':y∈bs:=by rcases List.mem_cons.1 hy with h|h;exact absurd h hyb;exact h
     rcases List.mem_cons.1 hk with e|hk
     ·injection e with e _
      have:=pH1 y hy';rw[ey,e]at this;exact irr hb this
     ·exact mk2_told p al bs hal hbs hRl pG2 pH2 k hk ⟨x,hx',y,hy',ex,ey,er⟩
termination_by G H=>G.length+H.length
theorem ofK_put {p:Pl}{A:AV}{r k:List Val}{n:Int}(h:cellsG p r≠k)(hA:Rises A)(hr:GoodR r):ofK p (putA A r n) k=ofK p A k:=by
 induction A with
 |nil=>unfold ofK putA;rw[List.filter_cons,if_neg (by simpa using h)]
 |cons x t ih=>
  obtain⟨x,m⟩:=x;have ih:=ih hA.tail;unfold ofK at ih⊢;unfold putA;by_cases e:rowsF x r=0
  ·have e':=(rowsF_zero hA.head.1 hr).1 e
   rw[if_pos e,List.filter_cons,List.filter_cons,if_neg (by rw[e'];simpa using h),if_neg (by rw[e'];simpa using h)]
  ·rw[if_neg e]
   split
   ·rw[List.filter_cons,List.filter_cons,ih]
   ·rw[List.filter_cons,if_neg (by simpa using h)]
theorem ofK_del {p:Pl}{A:AV}{r k:List Val}(h:cellsG p r≠k)(hA:Rises A)(hr:GoodR r):ofK p (delA A r) k=ofK p A k:=by
 induction A with
 |nil=>rfl
 |cons x t ih=>
  obtain⟨x,m⟩:=x;have ih:=ih hA.tail;unfold ofK at ih⊢;unfold delA;by_cases e:rowsF x r=0
  ·have e':=(rowsF_zero hA.head.1 hr).1 e
   rw[if_pos e,List.filter_cons,if_neg (by rw[e'];simpa using h)]
  ·rw[if_neg e,List.filter_cons,List.filter_cons,ih]
theorem ofK_rest {p:Pl}{k:List Val}: ∀ {l:List (Int×List Val)} {A:AV} {i:Int},GoodA A→(∀c∈l,GoodR c.2∧cellsG p c.2≠k)→(foldR A i l).2.2=0→ofK p (foldR A i l).1 k=ofK p A k
 |[],_,_,_,_,_=>rfl
 |c::l,A,i,hA,h,h0=>by
  unfold foldR at h0⊢;obtain⟨hc1,hc2⟩:=h c (by simp);by_cases e:(addR A c.2 (stepI c.1)).2=0
  ·rw[if_pos e]at h0⊢
   rw[ofK_rest (hA.add hc1 e) (fun d hd=>h d (by simp[hd])) h0];obtain⟨-,-,-,e2⟩:=addR_ok e;rw[e2];split
   ·exact ofK_del hc2 hA.rises hc1
   ·exact ofK_put hc2 hA.rises hc1
  ·rw[if_neg e]at h0;exact absurd h0 e
theorem has_ofK {p:Pl}{A:AV}{G:List Gp}(hA:GoodA A)(h:GrpOf p A G){k:List Val}(hk:GoodR k):(∃g∈G,g.r=k)↔ofK p A k≠[]:=by
 rw[h.has k hk,show(0<cntK p A k↔ ∃q∈A,decide (cellsG p q.1=k)=true)from sumBy_pos fun q hq=>(hA.nums q hq).1];unfold ofK;constructor
 ·rintro⟨q,hq,e⟩ h2
  rw[List.filter_eq_nil_iff]at h2;exact h2 q hq e
 ·intro h2
  obtain⟨q,hq⟩:=List.exists_mem_of_ne_nil _ h2;exact⟨q,(List.mem_filter.1 hq).1,(List.mem_filter.1 hq).2⟩
theorem grp_grow {p:Pl}{A:AV}{G:List Gp}(hp:checkP p=0)(hg:p.grouped=true)(h:GrpOf p A G): ∀g∈G,GRow p (ownT p).length g:=fun g hgm=>
 ⟨(h.good.each g hgm).row,row_good hp hg (h.good.each g hgm),(h.good.each g hgm).len⟩
theorem rise_ne {U:List (List Val×Bool)}(hg: ∀q∈U,GoodR q.1)(h:U.Pairwise fun a b=>rowsF a.1 b.1<0):(U.map (·.1)).Pairwise (· ≠ ·):=by
 rw[List.pairwise_map];exact h.imp_of_mem fun{a b} ha _ hlt e=>by rw[←e,rowsF_self (hg a ha)]at hlt;omega
theorem told_few {p:Pl}{L M:List (Int×List Val)}{A B:AV}{G H:List Gp}(hp:checkP p=0)(hg:p.grouped=true)(hL: ∀c∈L,GoodR c.2)(hM: ∀c∈M,GoodR c.2)(h1:(foldR [] 0 L).2.2=0)(eA:(foldR [] 0 L).1=A)(hA:GoodA A)
 (h2:(foldR A 0 M).2.2=0) (eB:(foldR A 0 M).1=B) (hB:GoodA B) (hG:GrpOf p A G) (hH:GrpOf p B H):
 G.length≤L.length∧(changedG p G H).length≤L.length+M.length∧un G H≤L.length+M.length:=by
 have gG:=grp_grow hp hg hG;have gH:=grp_grow hp hg hH;have hnil:GoodA []:=⟨by simp,Rises.nil,nofun⟩
 have keyG: ∀g∈G,g.r∈L.map fun c=>cellsG p c.2:=fun g hgm=>by
  have hne:=(has_ofK hA hG (gG g hgm).key).1 ⟨g,hgm,rfl⟩;apply Classical.byContradiction;intro hn;apply hne;rw[←eA,ofK_rest (k:=g.r) hnil (fun c hc=>⟨hL c hc,fun e=>hn (List.mem_map.2 ⟨c,hc,e⟩)⟩) h1];rfl
 have same: ∀k,GoodR k→(k∉M.map fun c=>cellsG p c.2)→ofK p B k=ofK p A k:=fun k hk hn=>by
  rw[←eB];exact ofK_rest hA (fun c hc=>⟨hM c hc,fun e=>hn (List.mem_map.2 ⟨c,hc,e⟩)⟩) h2
 have keyH: ∀g∈H,g.r∈L.map (fun c=>cellsG p c.2)++M.map fun c=>cellsG p c.2:=fun g hgm=>by
  apply Classical.byContradiction;intro hn;have hn1:g.r∉M.map fun c=>cellsG p c.2:=fun h=>hn (List.mem_append_right _ h);have hne:=(has_ofK hB hH (gH g hgm).key).1 ⟨g,hgm,rfl⟩;rw[same g.r (gH g hgm).key hn1]at hne;obtain⟨g',hg',e⟩:=(has_ofK hA hG (gH g hgm).key).2 hne;exact hn (List.mem_append_left _ (by rw[←e];exact keyG g' hg'))
 have kG: ∀g∈G,GoodR g.r:=fun g hg=>(gG g hg).key;have kH: ∀g∈H,GoodR g.r:=fun g hg=>(gH g hg).key
 have hmg: ∀q∈mk2 p G H,GoodR q.1:=fun q hq=>by
  rcases mk2_from p G H kG kH q hq with⟨g,hg,e⟩|⟨g,hg,e⟩
  ·rw[←e];exact kG g hg
  ·rw[←e];exact kH g hg
 have hrise:=mk2_rise p G H kG kH hG.good.rise hH.good.rise
 have n1:G.length≤L.length:=by
  have hpw:(G.map (·.r)).Pairwise (· ≠ ·):=by
   rw[List.pairwise_map];exact hG.good.rise.imp_of_mem fun{a b} ha _ hlt e=>by rw[←e,rowsF_self (kG a ha)]at hlt;omega
  have:=sub_len (M:=L.map fun c=>cellsG p c.2) hpw fun u hu=>by obtain⟨g,hg,rfl⟩:=List.mem_map.1 hu;exact keyG g hg
  simpa using this
 have n2:((mk2 p G H).filter (·.2)).length≤M.length:=by
  have hpw:=rise_ne (U:=(mk2 p G H).filter (·.2)) (fun q hq=>hmg q (List.mem_filter.1 hq).1) (hrise.filter _)
  have:=sub_len (M:=M.map fun c=>cellsG p c.2) hpw fun u hu=>by
   obtain⟨q,hq,rfl⟩:=List.mem_map.1 hu;obtain⟨hq,hq2⟩:=List.mem_filter.1 hq;apply Classical.byContradiction;intro hn;have hk:=hmg q hq;have hs:=same q.1 hk hn;obtain⟨k,t⟩:=q;simp only at hq2 hk hs hn;subst hq2;refine mk2_told p G H kG kH (fun g hg=>(gG g hg).row) hG.good.rise hH.good.rise k hq ?_;have hiff:=has_ofK hA hG hk;have hiff2:=has_ofK hB hH hk;rw[hs]at hiff2;have hex:(∃g∈G,g.r=k)∨ ∃g∈H,g.r=k:=mk2_from p G H kG kH _ hq;have hne:ofK p A k≠[]:=hex.elim hiff.1 hiff2.1;obtain⟨a,ha,ea⟩:=hiff.2 hne;obtain⟨b,hb,eb⟩:=hiff2.2 hne;refine⟨a,ha,b,hb,ea,eb,?_⟩;rw[grp_row hp hg hA hG ha,grp_row hp hg hB hH hb,ea,eb,hs]
  simpa using this
 refine⟨n1,?_,?_⟩
 ·have:=chg_len p G H
  omega
 ·rw[un_mk p]
  have:=sub_len (M:=L.map (fun c=>cellsG p c.2)++M.map fun c=>cellsG p c.2) (rise_ne hmg hrise) fun u hu=>by
   obtain⟨q,hq,rfl⟩:=List.mem_map.1 hu;rcases mk2_from p G H kG kH q hq with⟨g,hg,e⟩|⟨g,hg,e⟩
   ·rw[←e];exact List.mem_append_left _ (keyG g hg)
   ·rw[←e];exact keyH g hg
  simpa using this
end Go.Proofs.YtjhbeecmdgglgaaGreatDoor
namespace Go.Proofs.YtjhbeecmdgglgaaGreatDoor
end Go.Proofs.YtjhbeecmdgglgaaGreatDoor
namespace Go.Proofs.YtjhbeecmdgglgaaGreatDoor
def ltT (T:Int→Int) (x y:Int):Prop:=T x<T y∨(T x=T y∧x<y)
abbrev Srt (T:Int→Int) (l:List Int):Prop:=l.Pairwise (ltT T)
def Fore (l m:List Int):Prop:= ∀x∈l,∀y∈m,x<y
theorem Fore.perm {l l' m m':List Int}(h:Fore l m)(hl:l'.Perm l)(hm:m'.Perm m):Fore l' m':=fun x hx y hy=>h x (hl.mem_iff.1 hx) y (hm.mem_iff.1 hy)
theorem Fore.left {l l' m:List Int}(h:Fore (l++l') m):Fore l m:=fun x hx=>h x (List.mem_append_left _ hx)
theorem Fore.right {l l' m:List Int}(h:Fore (l++l') m):Fore l' m:=fun x hx=>h x (List.mem_append_right _ hx)
theorem Fore.snd {l m m':List Int}(h:Fore l (m++m')):Fore l m':=fun x hx y hy=>h x hx y (List.mem_append_right _ hy)
theorem Fore.app {l l' m:List Int}(h:Fore l m)(k:Fore l' m):Fore (l++l') m:=fun x hx=>(List.mem_append.1 hx).elim (h x) (k x)
theorem Fore.app2 {l m m':List Int}(h:Fore l m)(k:Fore l m'):Fore l (m++m'):=fun x hx y hy=>(List.mem_append.1 hy).elim (h x hx y) (k x hx y)
inductive Bk (T:Int→Int) (bs:Nat):List Int→Prop
 |last (l:List Int):l.length≤bs→Srt T l→Bk T bs l
 |cons (X l:List Int):X.length=bs→Srt T X→Fore X l→Bk T bs l→Bk T bs (X++l)
def Dn (T:Int→Int) (bs:Nat) (D:List Int):Prop:= ∀l,Fore D l→Bk T bs l→Bk T bs (D++l)
theorem Dn.nil {T:Int→Int}{bs:Nat}:Dn T bs []:=fun _ _ h=>h
theorem Dn.app {T:Int→Int}{bs:Nat}{D M:List Int}(h:Dn T bs D)(hf:Fore D M)(hl:M.length=bs)(hs:Srt T M):Dn T bs (D++M):=fun l hf2 hb=>by
 rw[List.append_assoc];exact h _ (hf.app2 hf2.left) (.cons M l hl hs hf2.right hb)
theorem Bk.cut {T:Int→Int}{bs:Nat}{l:List Int}(h:Bk T bs l)(hl:bs≤l.length)(hb:0<bs):Srt T (l.take bs)∧Fore (l.take bs) (l.drop bs)∧Bk T bs (l.drop bs):=by
 cases h with
 |last _ hl2 hs=>
  have e:l.length=bs:=by omega
  rw[List.take_of_length_le (by omega),List.drop_eq_nil_of_le (by omega)];exact⟨hs,fun x _ y hy=>(by cases hy),Bk.last _ (by simp) List.Pairwise.nil⟩
 |cons X l' hX hs hf hb'=>
  rw[List.take_left' hX,List.drop_left' hX];exact⟨hs,hf,hb'⟩
end Go.Proofs.YtjhbeecmdgglgaaGreatDoor
namespace Go.Proofs.YtjhbeecmdgglgaaGreatDoor
open Go.RowKit Go.Maps
end Go.Proofs.YtjhbeecmdgglgaaGreatDoor
namespace Go.Proofs.YtjhbeecmdgglgaaGreatDoor
open Go.RowKit Go.Maps
def colsT (p:Pl) (side:Int):List Int:=if side=2 then p.rkeys else p.lkeys
structure RowFine (p:Pl) (side:Int) (r:List Val):Prop where
 sides:side=1∨side=2
 short:p.short
 len:r.length≤4
 good: ∀x∈r,checkV x=0
 cols: ∀c∈colsT p side,0≤c∧c<r.length
 few:(colsT p side).length≤4
 one:side=1→colsT p side=p.lkeys
 two:side=2→colsT p side=p.rkeys
end Go.Proofs.YtjhbeecmdgglgaaGreatDoor
namespace Go.Proofs.YtjhbeecmdgglgaaGreatDoor
open tm (fitsB)
abbrev Cg:=Int×List Val
structure GoodB2 (p:Pl) (L R:List Cg):Prop where
 plan:checkP p=0
 few:L.length+R.length≤120
 lt: ∀x∈L,fitsB x.1=true
 rt: ∀x∈R,fitsB x.1=true
 lr: ∀x∈L,rowE p 1 x.2=0
 rr: ∀x∈R,rowE p 2 x.2=0
theorem firstNZ_zero {l:List Int}:firstNZ l=0↔ ∀x∈l,x=0:=by
 unfold firstNZ;cases h:l.find? (fun n=>n != 0)with
 |none=>
  rw[List.find?_eq_none]at h;exact⟨fun _ x hx=>by simpa using h x hx,fun _=>rfl⟩
 |some y=>
  have h1:=List.mem_of_find?_eq_some h;have h2:=List.find?_some h;simp only[Option.getD_some];exact⟨fun e=>by subst e;simp at h2,fun e=>e y h1⟩
end Go.Proofs.YtjhbeecmdgglgaaGreatDoor
namespace Go.Proofs.YtjhbeecmdgglgaaGreatDoor
theorem fineG_of {p:Pl}{g:Gp}(h:GoodG1 p g):FineG g:=by
 refine⟨fine_good h.row,by have:=h.num;omega,fun b hb x hx=> ?_⟩;obtain⟨i,hi⟩:=List.mem_iff_getElem?.1 hb;have hil:=(List.getElem?_eq_some_iff.1 hi).1;have ha:=List.getElem?_eq_getElem (l:=p.aggs) (i:=i) (by rw[←h.bl];exact hil);have hz:=h.bags (p.aggs[i]'(by rw[←h.bl];exact hil),b) (List.mem_iff_getElem?.2 ⟨i,by rw[List.getElem?_zip_eq_some];exact⟨ha,hi⟩⟩);rcases hz with⟨-,e⟩|⟨-,hg,hs⟩
 ·have e:b=[]:=e
  rw[e]at hx;cases hx
 ·have hg:GoodT _ b:=hg
  have hs:sumT b=g.n:=hs;have h1:=hg.vals x hx;have h2:=sumT_le hg.vals hx;have h3:=h.num;exact⟨fine_good h1.1,by omega⟩
theorem check_of {p:Pl}{G:List Gp}(hp:checkP p=0)(hg:p.grouped=true)(h:GoodGs p G):checkG p G=0:=
 (check_zeroG fun g hgm=>fineG_of (h.each g hgm)).2 ⟨hp,hg,h⟩
theorem types_codes {p:Pl}{l:List (Int×List Val)}(h:typesG p l≠0):typesG p l=2∨typesG p l=5:=by
 unfold typesG firstNZ at h⊢;cases hf:(l.map fun c=>fitE (allT p) c.2).find? (fun n=>n != 0)with
 |none=>rw[hf]at h;exact absurd rfl h
 |some y=>
  have hm:=List.mem_of_find?_eq_some hf;have hy:=List.find?_some hf;obtain⟨c,-,rfl⟩:=List.mem_map.1 hm;simp only[Option.getD_some];unfold fitE at hy⊢;split
  ·exact .inl rfl
  ·rename_i h1
   rw[if_neg h1]at hy;split
   ·rename_i h2;rw[if_pos h2]at hy;simp at hy
   ·exact .inr rfl
theorem types_all {p:Pl}{l:List (Int×List Val)}(h:typesG p l=0)(hg: ∀c∈l,GoodR c.2): ∀c∈l,TypedG p c.2:=fun c hc=>by
 unfold typesG at h;have:=firstNZ_zero.1 h (fitE (allT p) c.2) (List.mem_map.2 ⟨c,hc,rfl⟩);exact fit_zero (hg c hc) this
theorem ga_step {p:Pl}{A:AV}{G:List Gp}{m:List Chn}(hp:checkP p=0)(hg:p.grouped=true)(hA:GoodA A)(h:GrpOf p A G)(hm:InForm m)(h0:(foldR A 0 (ac m)).2.2=0):
 ((stepG p G m).2.2=2∨(stepG p G m).2.2=5)∨ ∃H,stepG p G m=(H,changedG p G H,0)∧GrpOf p (foldR A 0 (ac m)).1 H∧GoodA (foldR A 0 (ac m)).1:=by
 unfold stepG;rw[check_of hp hg h.good,if_neg (by simp),hm.form,if_neg (by simp)]
 have hgood: ∀c∈ac m,GoodR c.2:=fun c hc=>by
  obtain⟨x,hx,rfl⟩:=List.mem_map.1 hc;exact(hm.good x hx).1
 by_cases ht:typesG p (ac m)=0
 ·rw[if_neg (fun h=>h ht)]
  rcases grp_all hp hg (i:=0) hA h (types_all ht hgood) h0 with h1|⟨h1,h2,h3⟩
  ·rw[if_pos (by omega)]
   exact .inl (.inl h1)
  ·rw[if_neg (by omega)]
   exact .inr ⟨_,rfl,h2,h3⟩
 ·rw[if_pos ht]
  exact .inl (types_codes ht)
theorem vg_good {p:Pl}{G:List Gp}(hp:checkP p=0)(hg:p.grouped=true)(h:GoodGs p G):GoodA (VG p G)∧viewG p G=VG p G:=by
 have hrow: ∀r∈G.map (rowG p),GoodR r:=fun r hr=>by
  obtain⟨g,hgm,rfl⟩:=List.mem_map.1 hr;exact row_good hp hg (h.each g hgm)
 have hpw:(G.map (rowG p)).Pairwise fun a b=>rowsF a b<0:=by
  rw[List.pairwise_map];exact h.rise.imp_of_mem fun{a b} ha hb hlt=>rowsF_app (by rw[(h.each a ha).len,(h.each b hb).len]) hlt
 refine⟨⟨by unfold VG;rw[List.length_map];exact h.few,⟨fun q hq=> ?_,?_⟩,fun q hq=> ?_⟩,?_⟩
 ·obtain⟨g,hgm,rfl⟩:=List.mem_map.1 hq
  exact row_good hp hg (h.each g hgm)
 ·unfold VG
  rw[List.pairwise_map];rw[List.pairwise_map]at hpw;exact hpw
 ·obtain⟨g,hgm,rfl⟩:=List.mem_map.1 hq
  exact⟨Int.le_refl _,by show(1:Int)≤_;omega⟩
 ·have e1:viewG p G=viewR (G.map (rowG p)):=by
   unfold viewG viewR insG;rw[List.map_map];rfl
  rw[e1,viewR_rise hrow (by rw[List.length_map];exact h.few) hpw,List.map_map];rfl
theorem kform_fine {m:List Chn}{l:List (Int×List Val)}(h:ac m=l)(hk:KForm l)(hl:l.length≤4096):FineC m∧formC m=0:=by
 have hlen:m.length=l.length:=by rw[←h];exact(List.length_map _).symm
 have hkat: ∀i,kAt m i=(kdA l i).getD 0:=fun i=>by
  rw[←h];unfold kdA kAt ac;rw[List.getElem?_map];cases m[i]?<;>rfl
 have hg: ∀c∈m,GoodR c.r∧1≤c.k∧c.k≤4:=fun c hc=>hk.1 (c.k,c.r) (by rw[←h];exact List.mem_map.2 ⟨c,hc,rfl⟩)
 have hin:InForm m:=by
  refine⟨by omega,hg,fun i hi=> ?_,fun i hi=> ?_⟩
  ·rw[hkat]at hi⊢
   have h1:kdA l i=some 3:=by
    cases hh:kdA l i with
    |none=>rw[hh]at hi;cases hi
    |some z=>rw[hh]at hi;exact congrArg some hi
   rw[hk.2.1 i h1];rfl
  ·rw[hkat]at hi
   have h1:kdA l i=some 4:=by
    cases hh:kdA l i with
    |none=>rw[hh]at hi;cases hi
    |some z=>rw[hh]at hi;exact congrArg some hi
   obtain⟨j,e,h2⟩:=hk.2.2 i h1;exact⟨j,e,by rw[hkat,h2];rfl⟩
 exact⟨⟨fun c hc=>fine_good (hg c hc).1,fun c hc=>by have:=(hg c hc).2;omega⟩,hin.form⟩
theorem ga_fold {p:Pl}{G H:List Gp}{u:List Cnt}{m:List Chn}(hp:checkP p=0)(hg:p.grouped=true)(hG:GoodGs p G)(hH:GoodGs p H)(hu:av u=VG p G)(hm:ac m=changedG p G H)(h1:(changedG p G H).length≤4096)(h2:un G H≤4096):
 FineC m∧foldS u m=(VG p H,0,0):=by
 have gG: ∀g∈G,GRow p (ownT p).length g:=fun g hgm=>⟨(hG.each g hgm).row,row_good hp hg (hG.each g hgm),(hG.each g hgm).len⟩;have gH: ∀g∈H,GRow p (ownT p).length g:=fun g hgm=>⟨(hH.each g hgm).row,row_good hp hg (hH.each g hgm),(hH.each g hgm).len⟩;obtain⟨f1,f2⟩:=kform_fine hm (chg_kinds G H gG gH) h1;refine⟨f1,?_⟩;unfold foldS;rw[chk_of (by rw[hu];exact(vg_good hp hg hG).1),if_neg (by simp),f2,if_neg (by simp),hm,hu];exact chg_fold G H [] 0 gG gH hG.rise hH.rise nofun nofun (by simpa using h2)
theorem ga_view {p:Pl}{A:AV}{G:List Gp}(hp:checkP p=0)(hg:p.grouped=true)(hA:GoodA A)(hc: ∀c∈A,GoodR (cellsG p c.1))(h:GrpOf p A G):VG p G=groupV p A:=by
 have e:=grp_view hp hg hA hc h;have e1:VG p G=(G.map (rowG p)).map fun r=>(r,1):=by unfold VG;rw[List.map_map];rfl
 have e2:groupV p A=((partsP p A).map (headRow p)).map fun r=>(r,1):=by unfold groupV;rw[List.map_map];rfl
 rw[e1,e2,e]
end Go.Proofs.YtjhbeecmdgglgaaGreatDoor
namespace Go.Proofs.YtjhbeecmdgglgaaGreatDoor
open Go.RowKit Go.Maps
theorem InForm.rows {m:List Chn}(h:InForm m): ∀c∈ac m,GoodR c.2:=fun c hc=>by obtain⟨d,hd,rfl⟩:=List.mem_map.1 hc;exact(h.good d hd).1
theorem fold_good0 {l:List Cnt}{m:List Chn}(h:GoodA (av l))(hm:InForm m):foldS l m=foldR (av l) 0 (ac m):=by
 unfold foldS;rw[if_neg (fun h'=>h' (chk_of h)),if_neg (fun h'=>h' hm.form)]
theorem foldS_ok {l:List Cnt}{m:List Chn}(hf:FineV l)(hm:FineC m)(h:(foldS l m).2.2=0):GoodA (av l)∧InForm m∧foldS l m=foldR (av l) 0 (ac m):=by
 unfold foldS at h;by_cases h1:chkV l=0
 ·rw[if_neg (fun h=>h h1)]at h
  by_cases h2:formC m=0
  ·exact⟨(chk_zero hf h1).a,inForm hm h2,fold_good0 (chk_zero hf h1).a (inForm hm h2)⟩
  ·rw[if_pos h2]at h;exact absurd h h2
 ·rw[if_pos h1]at h;exact absurd h h1
set_option maxHeartbeats 4000000 in
set_option maxRecDepth 10000 in
theorem choose_any (cut n:Int)(w:World)(hc: -9223372036854775808≤cut∧cut≤9223372036854775807)(hn: -9223372036854775808≤n∧n≤9223372036854775807)(h0:n≠0):
 Calls Tryz.prog 28 #[.int .i64 cut,.int .i64 n] w fun e w'=> ∃k,e= .returned (.int .i64 k)∧(1≤n→0≤k∧k<n)∧Below w.heap.size w w':=by
 have hz:=bneT h0;have hz':=beqF h0
 have key: ∀x:Int,0≤x→x≤9223372036854775807→(1≤n→0≤x.tmod n∧x.tmod n<n)∧IntKind.i64.wrap (x.tmod n)=x.tmod n:=by
  intro x h1 h2;have e1:0≤x.tmod n:=Int.tmod_nonneg n h1
  have e2:x.tmod n≤x:=by
   have:=Int.natAbs_tmod x n;have h3:(x.natAbs%n.natAbs)≤x.natAbs:=Nat.mod_le _ _;omega
  refine⟨fun hn=>⟨e1,Int.tmod_lt_of_pos x (by omega)⟩,?_⟩;rw[IntKind.wrap_i64];omega
 by_cases hneg:cut<0
 ·have hw1:IntKind.i64.wrap (cut+1)=cut+1:=by rw[IntKind.wrap_i64];omega
  have hw2:IntKind.i64.wrap (-(cut+1))= -(cut+1):=by rw[IntKind.wrap_i64];omega
  obtain⟨k1,k2⟩:=key (-(cut+1)) (by omega) (by omega);have K1:=Lib.hid k1;clear k1 key;go_enter Tryz.func28,Tryz.ntmps28
  go_wp2;go_ret;exact⟨_,rfl,fun h=>by have:=K1.out h;rwa[Int.neg_tmod]at this,Below.refl _ _⟩
 ·obtain⟨k1,k2⟩:=key cut (by omega) (by omega)
  have K1:=Lib.hid k1;clear k1 key;go_enter Tryz.func28,Tryz.ntmps28
  go_wp2;go_ret;exact⟨_,rfl,fun h=>⟨Int.emod_nonneg _ (by omega),Int.emod_lt_of_pos _ (by omega)⟩,Below.refl _ _⟩
theorem Chs.take {w:World}{A:Option Addr}{c:Nat}{m:List Chn}(h:Chs w (.slice A m.length c) m){k:Nat}(hk:k≤m.length):Chs w (.slice A k c) (m.take k):=by
 have h1:=h.sl.take (size:=2) hk;rw[show(chnCells m).take (k*2)=chnCells (m.take k)from flat_take Chn.cells_len m k]at h1;exact⟨by rw[List.length_take,Nat.min_eq_left hk];exact h1,fun d hd=>h.rows d (List.mem_of_mem_take hd)⟩
theorem Chs.drop {w:World}{A:Option Addr}{c:Nat}{m:List Chn}(h:Chs w (.slice A m.length c) m){k:Nat}(hk:k≤m.length):
 Chs w (.slice (if c=k then A else A.map (·.add (k*2))) (m.length-k) (c-k)) (m.drop k):=by
 have h1:=h.sl.drop (size:=2) (flat_len Chn.cells_len m) hk;rw[show(chnCells m).drop (k*2)=chnCells (m.drop k)from flat_drop Chn.cells_len m k]at h1;exact⟨by rw[List.length_drop];exact h1,fun d hd=>h.rows d (List.mem_of_mem_drop hd)⟩
theorem fine_take {m:List Chn}(h:FineC m)(k:Nat):FineC (m.take k):=⟨fun c hc=>h.rows c (List.mem_of_mem_take hc),fun c hc=>h.nums c (List.mem_of_mem_take hc)⟩
theorem fine_drop {m:List Chn}(h:FineC m)(k:Nat):FineC (m.drop k):=⟨fun c hc=>h.rows c (List.mem_of_mem_drop hc),fun c hc=>h.nums c (List.mem_of_mem_drop hc)⟩
theorem ac_take (m:List Chn)(k:Nat):ac (m.take k)=(ac m).take k:=by unfold ac;rw[List.map_take]
theorem ac_drop (m:List Chn)(k:Nat):ac (m.drop k)=(ac m).drop k:=by unfold ac;rw[List.map_drop]
theorem fold_cut {A:AV}{L:KL}(hg: ∀c∈L,GoodR c.2)(hA:GoodA A)(h:(foldR A 0 L).2.2=0)(k:Nat):
 (foldR A 0 (L.take k)).2.2=0∧GoodA (foldR A 0 (L.take k)).1∧foldR (foldR A 0 (L.take k)).1 0 (L.drop k)=((foldR A 0 L).1,0,0):=by
 have h1:L.take k++L.drop k=L:=List.take_append_drop k L;have h2:(foldR A 0 (L.take k)).2.2=0:=fold_head (M:=L.drop k) (by rw[h1];exact h);have h3:=fold_app (L.take k) (L.drop k) A 0 h2;rw[h1]at h3;refine⟨h2,fold_good _ A 0 hA (fun c hc=>hg c (List.mem_of_mem_take hc)) h2,?_⟩;have h4:(foldR (foldR A 0 (L.take k)).1 (0+(L.take k).length) (L.drop k)).2.2=0:=by rw[←h3];exact h
 rw[fold_any_place _ _ _ 0 h4,←h3];have h5:=fold_place L A 0 h;generalize foldR A 0 L=S at h h5;obtain⟨a,b,c⟩:=S;simp only at h h5;rw[h,h5]
end Go.Proofs.YtjhbeecmdgglgaaGreatDoor
namespace Go.Proofs.YtjhbeecmdgglgaaGreatDoor
open Go.RowKit Go.Maps
structure KP (A C0 C:AV) (left:Lit→Bool) (m:Int):Prop where
 rises:Rises C
 has: ∀r,GoodR r→hasA C r=(hasA C0 r||(hasA A r&& !left (kOf r)))
 look: ∀r,GoodR r→0≤lookA C r∧lookA C r≤m
theorem KP.start {A C0:AV}{m:Int}(hA:Rises A)(hC:Rises C0)(hm: ∀r,GoodR r→0≤lookA C0 r∧lookA C0 r≤m):KP A C0 C0 (Maps.has (mkD A)) m:=⟨hC,fun r hr=>by
 rw[mkD_has hA.good hr];cases hasA A r<;>simp,hm⟩
theorem KP.step {A C0 C:AV}{left:Lit→Bool}{m:Int}{p:List Val×Int}(h:KP A C0 C left m)(hA:Rises A)(hp:p∈A)(hh:hasA A p.1=true):KP A C0 (putA C p.1 (lookA C p.1+1)) (fun z=>left z&& !z.sameKey (kOf p.1)) (m+1):=by
 have hg:=hA.good p hp;refine⟨rises_put h.rises hg,fun r hr=> ?_,fun r hr=> ?_⟩
 ·rw[has_put h.rises hg hr,h.has r hr,kOf_same hr hg,show(decide (rowsF r p.1=0))=decide (r=p.1)from decide_eq_decide.2 (rowsF_zero hr hg)]
  by_cases e:p.1=r
  ·subst e
   rw[hh];simp
  ·have e': ¬r=p.1:=fun h=>e h.symm
   simp[e,e']
 ·rw[look_put h.rises hg hr]
  have h1:=h.look r hr;have h2:=h.look p.1 hg;split<;>omega
theorem KP.done {A C0 C:AV}{left:Lit→Bool}{m:Int}(h:KP A C0 C left m)(hl: ∀kl,left kl=false): ∀r,GoodR r→hasA C r=(hasA C0 r||hasA A r):=fun r hr=>by rw[h.has r hr,hl];simp
end Go.Proofs.YtjhbeecmdgglgaaGreatDoor
