/-Batches: heads and parts of the reference's GroupAll. Batches: the reference's figure of any column. Plain law of batches: joined rows by what the row -/
import Derived.Test.YtjhbeecmdgglgaaGreatDoorGrpX41
import Derived.Test.YtjhbeecmdgglgaaGreatDoorGrpX20
import Derived.Test.YtjhbeecmdgglgaaGreatDoorGrpX24
import Derived.Test.YtjhbeecmdgglgaaGreatDoorGrpX35
import Derived.Test.YtjhbeecmdgglgaaGreatDoorGrpX26
import Derived.Test.YtjhbeecmdgglgaaGreatDoorGrpX37
import Derived.Test.YtjhbeecmdgglgaaGreatDoorGrpX13
set_option linter.unusedSimpArgs false
set_option linter.unusedVariables false
namespace Go.Proofs.YtjhbeecmdgglgaaGreatDoor
open Go.RowKit
structure Pts (w:World) (base:Nat) (pv:Value) (X:List Prt):Prop where
 own:w.ownsRow base 27 1 pv X.length (X.map (·.v))
 each: ∀q∈X,w.ownsRow base 45 2 q.v q.l.length (cntCells q.l)
 far: ∀q∈X,∀k,q.v.ownBlock=some k→pv.ownBlock≠some k
 apart: ∀(a b:Nat) (p q:Prt),a≠b→X[a]?=some p→X[b]?=some q→ ∀k,p.v.ownBlock=some k→q.v.ownBlock≠some k
def PB (pv:Value) (X:List Prt) (k:Nat):Prop:=pv.ownBlock=some k∨ ∃q∈X,q.v.ownBlock=some k
def HB (hv:Value) (HL:List Cnt) (k:Nat):Prop:=hv.ownBlock=some k∨ ∃c∈HL,c.v.ownBlock=some k
theorem Pts.turned {F:Nat→Prop}{w w':World}{base:Nat}{pv:Value}{X:List Prt}(h:Pts w base pv X)(ht:Turned F w w')(hf: ∀k,PB pv X k→ ¬F k):Pts w' base pv X:=
 ⟨own_turned h.own ht fun k hk=>hf k (.inl hk),fun q hq=>own_turned (h.each q hq) ht fun k hk=>hf k (.inr ⟨q,hq,hk⟩),h.far,h.apart⟩
theorem OwnV.turned {F:Nat→Prop}{w w':World}{base:Nat}{hv:Value}{HL:List Cnt}(h:OwnV w base hv HL)(ht:Turned F w w')(hf: ∀k,HB hv HL k→ ¬F k):OwnV w' base hv HL:=
 ⟨own_turned h.own ht fun k hk=>hf k (.inl hk),fun c hc=>sl_turned (h.rows c hc) ht fun k hk=>hf k (.inr ⟨c,hc,hk⟩),fun c hc k hk=>⟨Nat.lt_of_lt_of_le (h.far c hc k hk).1 ht.size,(h.far c hc k hk).2⟩⟩
theorem Pts.range {w:World}{base:Nat}{pv:Value}{X:List Prt}(h:Pts w base pv X){k:Nat}(hk:PB pv X k):base≤k∧k<w.heap.size:=by
 rcases hk with hk|⟨q,hq,hk⟩
 ·exact h.own.lt k hk
 ·exact(h.each q hq).lt k hk
theorem OwnV.range {w:World}{base:Nat}{hv:Value}{HL:List Cnt}(h:OwnV w base hv HL){k:Nat}(hk:HB hv HL k):k<w.heap.size:=by
 rcases hk with hk|⟨c,hc,hk⟩
 ·exact(h.own.lt k hk).2
 ·exact(h.far c hc k hk).1
structure GS (base:Nat) (w:World) (hv pv:Value) (HL:List Cnt) (X:List Prt) (l:List Cnt):Prop where
 heads:OwnV w base hv HL
 hav:av HL=X.map fun q=>(q.r,(1:Int))
 parts:Pts w base pv X
 cross: ∀k,HB hv HL k→ ¬PB pv X k
 mem: ∀q∈X,∀c∈q.l,c∈l
 few: ∀q∈X,q.l.length≤l.length
theorem GS.start (base:Nat)(w:World):GS base w (.slice none 0 0) (.slice none 0 0) [] [] []:=
 ⟨OwnV.nil _ _,rfl,⟨⟨rfl,.inl ⟨rfl,rfl⟩⟩,nofun,nofun,fun a b p q _ h=>by cases h⟩,fun k h _=>(by
  rcases h with h|⟨c,hc,-⟩
  ·cases h
  ·cases hc),nofun,nofun⟩
theorem GS.turned {F:Nat→Prop}{base:Nat}{w w':World}{hv pv:Value}{HL:List Cnt}{X:List Prt}{l:List Cnt}(h:GS base w hv pv HL X l)(ht:Turned F w w')(hf: ∀k,k<w.heap.size→ ¬F k):GS base w' hv pv HL X l:=
 ⟨h.heads.turned ht fun k hk=>hf k (h.heads.range hk),h.hav,h.parts.turned ht fun k hk=>hf k (h.parts.range hk).2,h.cross,h.mem,h.few⟩
theorem GS.below {base:Nat}{w w':World}{hv pv:Value}{HL:List Cnt}{X:List Prt}{l:List Cnt}(h:GS base w hv pv HL X l)(hb:Below w.heap.size w w'):GS base w' hv pv HL X l:=h.turned (turned_below (F:=fun _=>False) hb) fun _ _ hf=>hf
theorem GS.len {base:Nat}{w:World}{hv pv:Value}{HL:List Cnt}{X:List Prt}{l:List Cnt}(h:GS base w hv pv HL X l):HL.length=X.length:=by
 have:=congrArg List.length h.hav;unfold av at this;rwa[List.length_map,List.length_map]at this
theorem set_at {X:List Prt}{i:Nat}{Y:Prt}{j:Nat}{q:Prt}(h:(X.set i Y)[j]?=some q):(j=i∧q=Y)∨(j≠i∧X[j]?=some q):=by
 rw[List.getElem?_set]at h;by_cases e:i=j
 ·rw[if_pos e]at h
  split at h
  ·injection h with h;exact .inl ⟨e.symm,h.symm⟩
  ·cases h
 ·rw[if_neg e]at h
  exact .inr ⟨fun e2=>e e2.symm,h⟩
theorem lay_at {X:List Prt}{i:Nat}{Y:Prt}{j:Nat}{q:Prt}(hi:i≤X.length)(h:(X.take i++Y::X.drop i)[j]?=some q):(j=i∧q=Y)∨(j<i∧X[j]?=some q)∨(i<j∧X[j-1]?=some q):=by
 rcases Nat.lt_trichotomy j i with e|e|e
 ·rw[List.getElem?_append_left (by rw[List.length_take];omega),List.getElem?_take,if_pos e]at h
  exact .inr (.inl ⟨e,h⟩)
 ·subst e
  rw[List.getElem?_append_right (by rw[List.length_take];omega),List.length_take,Nat.min_eq_left hi,Nat.sub_self]at h;injection h with h;exact .inl ⟨rfl,h.symm⟩
 ·rw[List.getElem?_append_right (by rw[List.length_take];omega),List.length_take,Nat.min_eq_left hi]at h
  obtain⟨m,hm⟩: ∃m,j-i=m+1:=⟨j-i-1,by omega⟩;rw[hm,List.getElem?_cons_succ,List.getElem?_drop]at h;rw[show i+m=j-1 by omega]at h;exact .inr (.inr ⟨e,h⟩)
theorem GS.app {base:Nat}{w w1 w2:World}{hv:Value}{g n cap:Nat}{HL:List Cnt}{X:List Prt}{l:List Cnt}{i:Nat}{q:Prt}{c:Cnt}{v':Value}(h:GS base w hv (.slice (some ⟨g,0,none⟩) n cap) HL X l)(hq:X[i]?=some q)(hb:Below w.heap.size w w1)
 (hown:w2.ownsRow base 45 2 v' (q.l.length+1) (cntCells (q.l++[c]))) (hg:w1.grownBy w2 q.v.ownBlock) (hat:v'.ownBlock=q.v.ownBlock∨ ∀j,v'.ownBlock=some j→w1.heap.size≤j):
 GS base (w2.setCell ⟨g,i,none⟩ v') hv (.slice (some ⟨g,0,none⟩) n cap) HL (X.set i ⟨q.r,v',q.l++[c]⟩) (l++[c])∧ ∀a:World,Below base a w→base≤w.heap.size→Below base a (w2.setCell ⟨g,i,none⟩ v'):=by
 have hqm:=List.mem_of_getElem? hq;have hP:=h.parts;have hgb:(Value.slice (some ⟨g,0,none⟩) n cap).ownBlock=some g:=rfl;have hsz:=hb.size;have hqg:q.v.ownBlock≠some g:=fun e=>hP.far q hqm g e rfl
 have hv'new: ∀j,v'.ownBlock=some j→q.v.ownBlock=some j∨w.heap.size≤j:=fun j hj=>by
  rcases hat with e|e
  ·exact .inl (e▸hj)
  ·exact .inr (Nat.le_trans hsz (e j hj))
 have hglt:=hP.own.lt g rfl
 have hvg:v'.ownBlock≠some g:=fun e=>by
  rcases hv'new g e with h1|h1
  ·exact hqg h1
  ·omega
 have T:Turned (PB (.slice (some ⟨g,0,none⟩) n cap) X) w (w2.setCell ⟨g,i,none⟩ v'):=((turned_below (F:=PB (.slice (some ⟨g,0,none⟩) n cap) X) hb).transN (turned_grown hg) fun k _ e=> .inr ⟨q,hqm,e⟩).transN (turned_set _ _ _) fun k _ e=> .inl (by rw[e];rfl);have hold: ∀(j:Nat) (p:Prt),X[j]?=some p→ ∀k,p.v.ownBlock=some k→k<w.heap.size:=fun j p hp k hk=>((hP.each p (List.mem_of_getElem? hp)).lt k hk).2
 have hother: ∀(j:Nat) (p:Prt),j≠i→X[j]?=some p→ ∀k,p.v.ownBlock=some k→v'.ownBlock≠some k:=fun j p hj hp k hk e=>by
  rcases hv'new k e with h1|h1
  ·exact hP.apart j i p q hj hp hq k hk h1
  ·have:=hold j p hp k hk;omega
 refine⟨⟨h.heads.turned T fun k hk=>h.cross k hk,?_,⟨?_,fun r hr=> ?_,fun r hr k hk=> ?_,fun a b p r hab ha hr k hk e=> ?_⟩,fun k hk hp=> ?_,fun r hr d hd=> ?_,fun r hr=> ?_⟩,fun a hba hbl=> ?_⟩
 ·rw[h.hav,List.map_set]
  refine(List.ext_getElem? fun j=> ?_);rw[List.getElem?_set];split
  ·rename_i e;subst e
   rw[List.getElem?_map,hq];simp[(List.getElem?_eq_some_iff.1 hq).1]
  ·rfl
 ·have h1:=own_turned (own_below hP.own hb) (turned_grown hg) fun k hk e=>by
   have:g=k:=by injection hk
   exact hqg (by rw[this];exact e)
  have hn:n=X.length:=by
   rcases hP.own.2 with⟨h',-⟩|⟨g',cap',cur,h',-⟩
   ·cases h'
   ·injection h'
  subst hn;rw[List.length_set,List.map_set];exact(h1.stored i v').1
 ·obtain⟨j,hj⟩:=List.getElem?_of_mem hr
  rcases set_at hj with⟨rfl,rfl⟩|⟨hne,hj⟩
  ·have:=own_turned hown (turned_set w2 ⟨g,j,none⟩ v') fun k hk e=>hvg (by rw[hk,show k=g from e])
   simpa using this
  ·refine own_turned (own_turned (own_below (hP.each r (List.mem_of_getElem? hj)) hb) (turned_grown hg) fun k hk e=>hP.apart j i r q hne hj hq k hk e) (turned_set _ _ _) fun k hk e=>hP.far r (List.mem_of_getElem? hj) k hk (by rw[show k=g from e];rfl)
 ·obtain⟨j,hj⟩:=List.getElem?_of_mem hr
  rcases set_at hj with⟨rfl,rfl⟩|⟨hne,hj⟩
  ·exact fun e=>hvg (hk.trans e.symm)
  ·exact hP.far r (List.mem_of_getElem? hj) k hk
 ·rcases set_at ha with⟨ea,ep⟩|⟨hna,ha2⟩
  ·rcases set_at hr with⟨eb,er⟩|⟨hnr,hr2⟩
   ·exact hab (ea.trans eb.symm)
   ·rw[ep]at hk
    exact hother b r hnr hr2 k e hk
  ·rcases set_at hr with⟨eb,er⟩|⟨hnr,hr2⟩
   ·rw[er]at e
    exact hother a p hna ha2 k hk e
   ·exact hP.apart a b p r hab ha2 hr2 k hk e
 ·rcases hp with hp|⟨r,hr,hp⟩
  ·exact h.cross k hk (.inl hp)
  ·obtain⟨j,hj⟩:=List.getElem?_of_mem hr
   rcases set_at hj with⟨rfl,rfl⟩|⟨hne,hj⟩
   ·rcases hv'new k hp with h1|h1
    ·exact h.cross k hk (.inr ⟨q,hqm,h1⟩)
    ·have:=h.heads.range hk;omega
   ·exact h.cross k hk (.inr ⟨r,List.mem_of_getElem? hj,hp⟩)
 ·obtain⟨j,hj⟩:=List.getElem?_of_mem hr
  rcases set_at hj with⟨rfl,rfl⟩|⟨hne,hj⟩
  ·rcases List.mem_append.1 hd with hd|hd
   ·exact List.mem_append_left _ (h.mem q hqm d hd)
   ·exact List.mem_append_right _ hd
  ·exact List.mem_append_left _ (h.mem r (List.mem_of_getElem? hj) d hd)
 ·rw[List.length_append]
  obtain⟨j,hj⟩:=List.getElem?_of_mem hr;rcases set_at hj with⟨rfl,rfl⟩|⟨hne,hj⟩
  ·have:=h.few q hqm
   simp;omega
  ·have:=h.few r (List.mem_of_getElem? hj)
   omega
 ·exact hba.trans (T.below hbl fun k hk=>(hP.range hk).1)
theorem GS.ins {base:Nat}{w w5 w8:World}{hv hv' pv pv' vr:Value}{HL:List Cnt}{X:List Prt}{l:List Cnt}{i:Nat}{key:List Val}(h:GS base w hv pv HL X l)(hi:i≤X.length)(hh:OwnV w5 base hv' (HL.take i++⟨vr,key,1⟩::HL.drop i))
 (h5:w.grownBy w5 hv.ownBlock) (hat: ∀k,hv'.ownBlock=some k→hv.ownBlock=some k∨w.heap.size≤k) (hvr: ∀k,vr.ownBlock=some k→w.heap.size≤k)
 (hp:w8.ownsRow base 27 1 pv' (X.length+1) ((X.map (·.v)).take i++ .slice none 0 0::(X.map (·.v)).drop i)) (h8:w5.grownBy w8 pv.ownBlock) (hat': ∀k,pv'.ownBlock=some k→pv.ownBlock=some k∨w5.heap.size≤k):
 GS base w8 hv' pv' (HL.take i++⟨vr,key,1⟩::HL.drop i) (X.take i++⟨key,.slice none 0 0,[]⟩::X.drop i) l:=by
 have hP:=h.parts;have s5:=h5.size;have hpl: ∀k,pv.ownBlock=some k→k<w.heap.size:=fun k hk=>(hP.range (.inl hk)).2
 have hHB: ∀k,HB hv' (HL.take i++⟨vr,key,1⟩::HL.drop i) k→HB hv HL k∨w.heap.size≤k:=by
  intro k hk;rcases hk with hk|⟨c,hc,hk⟩
  ·rcases hat k hk with e|e
   ·exact .inl (.inl e)
   ·exact .inr e
  ·rcases List.mem_append.1 hc with hc|hc
   ·exact .inl (.inr ⟨c,List.mem_of_mem_take hc,hk⟩)
   ·rcases List.mem_cons.1 hc with rfl|hc
    ·exact .inr (hvr k hk)
    ·exact .inl (.inr ⟨c,List.mem_of_mem_drop hc,hk⟩)
 have hX: ∀q∈X.take i++(⟨key,.slice none 0 0,[]⟩:Prt)::X.drop i,q=⟨key,.slice none 0 0,[]⟩∨q∈X:=by
  intro q hq;rcases List.mem_append.1 hq with hq|hq
  ·exact .inr (List.mem_of_mem_take hq)
  ·rcases List.mem_cons.1 hq with rfl|hq
   ·exact .inl rfl
   ·exact .inr (List.mem_of_mem_drop hq)
 have hXl: ∀q∈X,∀k,q.v.ownBlock=some k→k<w.heap.size:=fun q hq k hk=>((hP.each q hq).lt k hk).2;refine⟨hh.turned (turned_grown h8) fun k hk e=> ?_,?_,⟨?_,fun q hq=> ?_,fun q hq k hk e=> ?_,fun a b p q hab ha hb k hk e=> ?_⟩,fun k hk hp=> ?_,fun q hq c hc=> ?_,fun q hq=> ?_⟩
 ·rcases hHB k hk with h1|h1
  ·exact h.cross k h1 (.inl e)
  ·have:=hpl k e;omega
 ·rw[av_lay,h.hav]
  simp[List.map_take,List.map_drop]
 ·have e1:(X.take i++(⟨key,.slice none 0 0,[]⟩:Prt)::X.drop i).length=X.length+1:=by simp;omega
  rw[e1];simpa[List.map_take,List.map_drop]using hp
 ·rcases hX q hq with rfl|hq
  ·exact⟨rfl,.inl ⟨rfl,rfl⟩⟩
  ·exact own_turned (own_turned (hP.each q hq) (turned_grown h5) fun k hk e=>h.cross k (.inl e) (.inr ⟨q,hq,hk⟩)) (turned_grown h8) fun k hk e=>hP.far q hq k hk e
 ·rcases hX q hq with rfl|hq
  ·cases hk
  ·rcases hat' k e with h1|h1
   ·exact hP.far q hq k hk h1
   ·have:=hXl q hq k hk;omega
 ·rcases lay_at hi ha with⟨ea,rfl⟩|⟨ea,ha⟩|⟨ea,ha⟩
  ·cases hk
  ·rcases lay_at hi hb with⟨eb,rfl⟩|⟨eb,hb⟩|⟨eb,hb⟩
   ·cases e
   ·exact hP.apart _ _ p q hab ha hb k hk e
   ·exact hP.apart _ _ p q (by omega) ha hb k hk e
  ·rcases lay_at hi hb with⟨eb,rfl⟩|⟨eb,hb⟩|⟨eb,hb⟩
   ·cases e
   ·exact hP.apart _ _ p q (by omega) ha hb k hk e
   ·exact hP.apart _ _ p q (by omega) ha hb k hk e
 ·have hpk:PB pv X k∨w5.heap.size≤k:=by
   rcases hp with hp|⟨q,hq,hp⟩
   ·rcases hat' k hp with h1|h1
    ·exact .inl (.inl h1)
    ·exact .inr h1
   ·rcases hX q hq with rfl|hq
    ·cases hp
    ·exact .inl (.inr ⟨q,hq,hp⟩)
  have hlt:=hh.range hk;rcases hpk with h1|h1
  ·rcases hHB k hk with h2|h2
   ·exact h.cross k h2 h1
   ·have:=(hP.range h1).2;omega
  ·omega
 ·rcases hX q hq with rfl|hq
  ·cases hc
  ·exact h.mem q hq c hc
 ·rcases hX q hq with rfl|hq
  ·exact Nat.zero_le _
  ·exact h.few q hq
theorem put_here {P:PT}{k:List Val}{c:List Val×Int}{i:Nat}(h:PlaceOf (P.map fun q=>(q.1,(1:Int))) k i true): ∃q,P[i]?=some q∧rowsF q.1 k=0∧putP P k c=P.set i (q.1,q.2++[c]):=by
 induction P generalizing i with
 |nil=>obtain⟨p,h1,-⟩:=h.here rfl;simp at h1
 |cons x t ih=>
  obtain⟨x,m⟩:=x;cases i with
  |zero=>
   obtain⟨p,h1,h2⟩:=h.here rfl;simp at h1;subst h1;exact⟨(x,m),rfl,h2,by unfold putP;rw[if_pos h2];rfl⟩
  |succ i=>
   obtain⟨h0,h1⟩:=place_skip h;simp only at h0;obtain⟨q,a,b,e⟩:=ih h1;refine⟨q,by simpa using a,b,?_⟩;unfold putP;rw[if_neg (by omega),if_pos h0,e];rfl
theorem put_none {P:PT}{k:List Val}{c:List Val×Int}{i:Nat}(h:PlaceOf (P.map fun q=>(q.1,(1:Int))) k i false):putP P k c=P.take i++(k,[c])::P.drop i:=by
 induction P generalizing i with
 |nil=>simp[putP]
 |cons x t ih=>
  obtain⟨x,m⟩:=x;cases i with
  |zero=>
   have h0:0<rowsF x k:=h.more rfl 0 (x,1) (by omega) rfl;unfold putP;rw[if_neg (by omega),if_neg (by omega)];rfl
  |succ i=>
   obtain⟨h0,h1⟩:=place_skip h;simp only at h0;have e:=ih h1;unfold putP;rw[if_neg (by omega),if_pos h0,e];rfl
end Go.Proofs.YtjhbeecmdgglgaaGreatDoor
namespace Go.Proofs.YtjhbeecmdgglgaaGreatDoor
open Go.RowKit
theorem col_at {col:Int}{l:List Cnt}{k:Nat}{x:Cnt}(h:l[k]?=some x):(colC col l)[k]?=some (x.r.getD col.toNat nullG,x.n):=by unfold colC;rw[List.getElem?_map,h];rfl
set_option maxHeartbeats 8000000 in
set_option maxRecDepth 10000 in
theorem rfigure_one (m:Int)(v:Value)(l:List Cnt)(w:World)(hv:View w v l):
 Calls Tryz.prog 69 #[.agg #[.int .i64 1,.int .i64 m],v] w fun e w'=>e= .returned (.agg #[.int .i64 (figF 1 (colC m l)).k,.int .i64 (figF 1 (colC m l)).n,.string (figF 1 (colC m l)).s])∧Below w.heap.size w w':=by
 have hL:l.length=(colC m l).length:=(List.length_map _).symm;have HL:=Lib.hid (fun k x (h:l[k]?=some x)=>col_at (col:=m) h);obtain⟨L,hLe⟩: ∃L,L=colC m l:=⟨_,rfl⟩;rw[←hLe]at hL HL⊢;have HV:=Lib.hid hv;obtain⟨R,hR⟩: ∃R,R=figF 1 L:=⟨_,rfl⟩;rw[←hR];unfold figF at hR;obtain⟨Av,cv,rfl,nv,mv,-⟩:=id hv.sl;unfold maxLen at mv;have hB:=below_trans (below_alloc w (.cells #[.int .i64 1,.int .i64 m] 94)) (below_alloc _ (.cells #[.int .i64 0,.int .i64 0,.string ⟨#[]⟩] 68));have K0:=new_first w 94 #[.int .i64 1,.int .i64 m] (.cells #[.int .i64 0,.int .i64 0,.string ⟨#[]⟩] 68);have K1:=new_second w 68 #[.int .i64 0,.int .i64 0,.string ⟨#[]⟩] (.cells #[.int .i64 1,.int .i64 m] 94);have hsz:((w.alloc (.cells #[.int .i64 1,.int .i64 m] 94)).alloc (.cells #[.int .i64 0,.int .i64 0,.string ⟨#[]⟩] 68)).heap.size=w.heap.size+1+1:=by rw[World.size_alloc,World.size_alloc]
 have HLN:=Lib.hid hL;clear hv hL hLe;have EE:=Lib.hid (hR.trans (if_pos rfl));clear hR;have y0:=K0.cell 0 _ rfl;have HK1:=Lib.hid K1;go_enter Tryz.func69,Tryz.ntmps69
 go_wp2_with fail
 go_loopw[5,6] (fun nv iv wr=> ∃(k:Nat) (s:Int),k≤l.length∧iv= .int .i64 k∧nv= .int .i64 s∧Hid (L.foldl cntF 0=(L.drop k).foldl cntF s)∧Below ((w.alloc (.cells #[.int .i64 1,.int .i64 m] 94)).alloc (.cells #[.int .i64 0,.int .i64 0,.string ⟨#[]⟩] 68)).heap.size ((w.alloc (.cells #[.int .i64 1,.int .i64 m] 94)).alloc (.cells #[.int .i64 0,.int .i64 0,.string ⟨#[]⟩] 68)) wr) (fun _ iv _=>l.length-(intOf iv).toNat)
 case atStart=>exact⟨0,0,by omega,rfl,rfl,Lib.hid rfl,Below.refl _ _⟩
 case round=>
  rename World=>wr1
  obtain⟨k,s,hk,rfl,rfl,HS,hbr⟩:=hrel;have hBr:=below_trans hB hbr;by_cases hlt:k<l.length
  ·have hx:=List.getElem?_eq_getElem (l:=l) hlt
   generalize l[k]=x at hx;obtain⟨bb,ob,hAb,-,hcb⟩:=cnt_cells HV.out.sl rfl hx;have hLy:=HL.out k x hx;generalize x.r.getD m.toNat nullG=y at hLy;obtain⟨d0,d1⟩:=hcb _ hBr;subst hAb;have HN:Hid (L.foldl cntF 0=(L.drop (k+1)).foldl cntF (cntF s (y,x.n))):=Lib.hid (by rw[HS.out,foldl_at hLy]);have hcf:cntF s (y,x.n)=wrap64 (s+x.n):=IntWalk.i64_left _;rw[hcf]at HN;have i0:(0:Int)≤(k:Int):=by omega
   have i1:(k:Int)<(l.length:Int):=by omega
   clear hx hcb hLy HS hcf;go_wp2;go_roundw
   case rel=>exact⟨k+1,_,by omega,by go_num,rfl,HN,hbr⟩
   case measure=>simp[intOf];omega
  ·obtain rfl:k=l.length:=by omega
   have hq1: ¬(l.length:Int)<(l.length:Int):=by omega
   have ES:Hid (R=⟨2,s,⟨#[]⟩⟩):=Lib.hid (by rw[EE.out,HS.out,HLN.out,List.drop_length];rfl);have HKE:=(HK1.out.below hbr);have z0:=HKE.cell 0 _ rfl;have f0:=HKE.free 0;have z1:=HKE.cell 1 _ rfl;have f1:=HKE.free 1;have z2:=HKE.cell 2 _ rfl;have f2:=HKE.free 2;clear HS;have KZ:=(HKE).setAll [.int .i64 2,.int .i64 s,.string ⟨#[]⟩] rfl;have hbz:=below_setAll (l:=[.int .i64 2,.int .i64 s,.string ⟨#[]⟩]) (i:=0) hBr (g:=w.heap.size+1) (by omega);simp only[setAll,Nat.reduceAdd]at KZ hbz;have v0:=KZ.cell 0 _ rfl;have v1:=KZ.cell 1 _ rfl;have v2:=KZ.cell 2 _ rfl;clear KZ;go_wp2;refine bodyPost_ret (v:= .agg #[.int .i64 2,.int .i64 s,.string ⟨#[]⟩]) (by simp[results,Tryz.results69,go_sem,v0,v1,v2]) rfl ?_;exact⟨by rw[ES.out],hbz⟩
theorem rfig_any (fn col:Int)(v:Value)(l:List Cnt)(w:World)(hv:View w v l)(hc:fn≠1→0≤col∧ ∀x∈l,col<x.r.length):
 Calls Tryz.prog 69 #[.agg #[.int .i64 fn,.int .i64 col],v] w fun e w'=>e= .returned (.agg #[.int .i64 (figF fn (colC col l)).k,.int .i64 (figF fn (colC col l)).n,.string (figF fn (colC col l)).s])∧Below w.heap.size w w':=by
 by_cases h1:fn=1
 ·subst h1;exact rfigure_one col v l w hv
 ·obtain⟨h0,h2⟩:=hc h1
  obtain⟨m,rfl⟩: ∃m:Nat,col=m:=⟨col.toNat,by omega⟩;refine rfigure_any fn m v l (colC m l) w hv ⟨(List.length_map _).symm,fun k c hk=> ?_⟩;have h3:m<c.r.length:=by have:=h2 c (List.mem_of_getElem? hk);omega
  exact⟨c.r[m],List.getElem?_eq_getElem h3,by rw[col_at hk];simp[List.getD,h3]⟩
end Go.Proofs.YtjhbeecmdgglgaaGreatDoor
namespace Go.Proofs.YtjhbeecmdgglgaaGreatDoor
open tm (fitsB)
def mtC (p:Pl) (x y:Cg):Bool:=(keyFor p 1 x.2).2&&((keyFor p 2 y.2).2&&(decide ((keyFor p 1 x.2).1=(keyFor p 2 y.2).1)&&meetT p.kind p.low p.high p.size x.1 y.1))
theorem range_filter {α:Type}(l:List α)(d:α)(f:α→Bool):((List.range l.length).filter fun i=>f (l.getD i d)).map (fun i=>l.getD i d)=l.filter f:=by
 induction l with
 |nil=>rfl
 |cons x l ih=>
  rw[List.length_cons,List.range_succ_eq_map,List.filter_cons,List.filter_cons,List.filter_map]
  have e:(((List.range l.length).filter ((fun i=>f ((x::l).getD i d))∘ Nat.succ)).map Nat.succ).map (fun i=>(x::l).getD i d)=l.filter f:=by
   rw[List.map_map,←ih];rfl
  cases hf:f x with
  |true=>
   have:f ((x::l).getD 0 d)=true:=hf;rw[if_pos this,if_pos rfl,List.map_cons];exact congrArg (List.cons x) e
  |false=>
   have: ¬f ((x::l).getD 0 d)=true:=by show ¬f x=true;rw[hf];simp
   rw[if_neg this,if_neg (by simp)];exact e
theorem with_rows {p:Pl}{R:List Cg}{x:Cg}(hk:p.kind≠3):(withI p R x).map (fun i=>R.getD i.toNat zC)=R.filter (mtC p x):=by
 rw[←withN_all];unfold withN;rw[List.map_map]
 have e:(List.range R.length).filter (fun i=>(withI p R x).contains ((i:Nat):Int))=(List.range R.length).filter (fun i=>mtC p x (R.getD i zC)):=by
  apply List.filter_congr;intro i hi;rw[with_pair hk (List.mem_range.1 hi)];unfold mtC rowAt timeAt;simp only[Int.toNat_natCast]
 rw[e,←range_filter R zC (mtC p x)];rfl
theorem late_mem {p:Pl}{L R:List Cg}{i:Nat}(hk:p.kind≠3)(hi:i<R.length):aloneB2 p L R i= !L.any fun x=>mtC p x (R.getD i zC):=by
 unfold aloneB2
 congr 1
 have: ∀l:List Cg,(l.any fun x=>(withI p R x).contains (i:Int))=l.any fun x=>mtC p x (R.getD i zC):=by
  intro l
  induction l with
  |nil=>rfl
  |cons y l ih=>
   rw[List.any_cons,List.any_cons,ih,with_pair hk hi];unfold mtC rowAt timeAt;simp only[Int.toNat_natCast]
 exact this L
def pairC (p:Pl) (R:List Cg) (x:Cg):List (List Val):=
 if(R.filter (mtC p x)).isEmpty then(if keepsB p 1 then[x.2++nullsR p.right.length]else[])else(R.filter (mtC p x)).map fun y=>x.2++y.2
def lateC (p:Pl) (L R:List Cg):List (List Val):=if keepsB p 2=true then(R.filter fun y=> !L.any fun x=>mtC p x y).map fun y=>nullsR p.left.length++y.2 else[]
theorem join_content {p:Pl}{L R:List Cg}(hk:p.kind≠3):joinL p L R=L.flatMap (pairC p R)++lateC p L R:=by
 unfold joinL
 congr 1
 ·congr 1
  funext x
  unfold pairsOf pairC;have h:=with_rows (R:=R) (x:=x) hk
  have hl:(withI p R x).isEmpty=(R.filter (mtC p x)).isEmpty:=by
   rw[←h];cases withI p R x<;>rfl
  rw[hl,←h,List.map_map];rfl
 ·unfold lateC
  by_cases hb:keepsB p 2=true
  ·rw[if_pos hb,←range_filter R zC (fun y=> !L.any fun x=>mtC p x y),List.map_map]
   have: ∀l:List Nat,(∀i∈l,i<R.length)→l.flatMap (lateOf p L R)=(l.filter fun i=> !L.any fun x=>mtC p x (R.getD i zC)).map ((fun y:Cg=>nullsR p.left.length++y.2)∘ fun i=>R.getD i zC):=by
    intro l
    induction l with
    |nil=>intro _;rfl
    |cons i l ih=>
     intro h;rw[List.flatMap_cons,ih fun j hj=>h j (by simp[hj]),List.filter_cons];unfold lateOf;rw[late_mem hk (h i (by simp)),hb];cases L.any fun x=>mtC p x (R.getD i zC)<;>rfl
   exact this _ fun i hi=>List.mem_range.1 hi
  ·rw[if_neg hb]
   have hb:keepsB p 2=false:=by simpa using hb
   have: ∀l:List Nat,l.flatMap (lateOf p L R)=[]:=by
    intro l
    induction l with
    |nil=>rfl
    |cons i l ih=>
     rw[List.flatMap_cons,ih];unfold lateOf;rw[hb];simp
   exact this _
end Go.Proofs.YtjhbeecmdgglgaaGreatDoor
namespace Go.Proofs.YtjhbeecmdgglgaaGreatDoor
open tm (fitsB winF)
def turnM (m:Int):Int:=if m=2 then 3 else if m=3 then 2 else m
def turnPl (p:Pl):Pl:=⟨p.kind,turnM p.mode,-p.high,-p.low,p.size,p.limit,p.vr,p.vl,p.vq,p.vk,false,.slice none 0 0,.slice none 0 0,p.right,p.left,p.rkeys,p.lkeys,[],[]⟩
def turnR (n:Nat) (r:List Val):List Val:=r.drop n++r.take n
theorem fits_negB {t:Int}(h:fitsB t=true):fitsB (-t)=true:=by
 unfold fitsB at h⊢;have:=of_decide_eq_true h;exact decide_eq_true (by omega)
theorem turn_check {p:Pl}(h:checkP p=0)(hk:p.kind≠3):checkP (turnPl p)=0:=by
 obtain⟨h1,h2,h3,h4,h5⟩:=check_ok h
 have k1:kindsB (turnPl p)=true:=by
  unfold kindsB at h1⊢;simp only[Bool.and_eq_true]at h1⊢;obtain⟨a1,a2,-⟩:=h1;have a2:=btw_of a2;rw[if_neg hk]at a2;refine⟨a1,?_,by simp[turnPl]⟩;show btw (turnM p.mode) 1 (if p.kind=3 then 2 else 4)=true;rw[if_neg hk];unfold turnM;split
  ·decide
  ·split
   ·decide
   ·exact btw_yes a2.1 a2.2
 have k2:rangesB (turnPl p)=true:=by
  unfold rangesB at h2⊢;rw[Bool.and_eq_true]at h2⊢;refine⟨?_,h2.2⟩;have h2:=h2.1;show(if p.kind=1 then fitsB (-p.high)&&(fitsB (-p.low)&&p.size==0)else if p.kind=2 then-p.high==0&&(-p.low==0&&btw p.size 1 1099511627776)else-p.high==0&&(-p.low==0&&p.size==0))=true;by_cases e1:p.kind=1
  ·rw[if_pos e1]at h2⊢
   simp only[Bool.and_eq_true]at h2⊢;exact⟨fits_negB h2.2.1,fits_negB h2.1,h2.2.2⟩
  ·rw[if_neg e1]at h2⊢
   by_cases e2:p.kind=2
   ·rw[if_pos e2]at h2⊢
    simp only[Bool.and_eq_true,beq_iff_eq]at h2⊢;exact⟨by omega,by omega,h2.2.2⟩
   ·rw[if_neg e2]at h2⊢
    simp only[Bool.and_eq_true,beq_iff_eq]at h2⊢;exact⟨by omega,by omega,h2.2.2⟩
 have k3:countsB (turnPl p)=true:=by
  unfold countsB at h3⊢;rw[Bool.and_eq_true]at h3⊢;refine⟨?_,by simp[turnPl]⟩;have h3:=h3.1;unfold lens at h3⊢;unfold allB at h3⊢;rw[List.all_eq_true]at h3⊢;intro b hb;refine h3 b ?_;simp only[turnPl,List.mem_cons,List.not_mem_nil,or_false]at hb⊢;rcases hb with h|h|h|h
  ·exact .inr (.inl h)
  ·exact .inl h
  ·exact .inr (.inr (.inr h))
  ·exact .inr (.inr (.inl h))
 have k4:typesB (turnPl p)=true:=by
  unfold typesB allB at h4⊢;rw[List.all_eq_true]at h4⊢;intro n hn
  exact h4 n (by
   rcases List.mem_append.1 hn with h|h
   ·exact List.mem_append_right _ h
   ·exact List.mem_append_left _ h)
 have k5:formB (turnPl p)=true:=by
  unfold formB at h5⊢;simp only[Bool.and_eq_true]at h5⊢;obtain⟨a1,a2,a3,a4,-,a6,-⟩:=h5;refine⟨?_,?_,a4,a3,rfl,?_,rfl⟩
  ·show(!decide (-p.low< -p.high))=true
   simp at a1⊢;omega
  ·show(p.rkeys.length==p.lkeys.length)=true
   rw[beq_iff_eq]at a2⊢;exact a2.symm
  ·unfold allB at a6⊢
   rw[List.all_eq_true]at a6⊢;rintro⟨a,b⟩ hab;have hab:(a,b)∈p.rkeys.zip p.lkeys:=hab
   have:(b,a)∈p.lkeys.zip p.rkeys:=by
    obtain⟨i,hi⟩:=List.mem_iff_getElem?.1 hab;rw[List.getElem?_zip_eq_some]at hi;exact List.mem_iff_getElem?.2 ⟨i,by rw[List.getElem?_zip_eq_some];exact⟨hi.2,hi.1⟩⟩
   have h6:=a6 _ this;unfold pairOk at h6⊢;show(p.right.getD a.toNat 0==p.left.getD b.toNat 0)=true;rw[beq_iff_eq]at h6⊢;exact h6.symm
 unfold checkP;rw[k1,k2,k3,k4,k5];rfl
theorem turn_meet {p:Pl}{x y:Cg}:mtC (turnPl p) y x=mtC p x y:=by
 unfold mtC;have k1:keyFor (turnPl p) 1 y.2=keyFor p 2 y.2:=rfl;have k2:keyFor (turnPl p) 2 x.2=keyFor p 1 x.2:=rfl;rw[k1,k2]
 have hm:meetT (turnPl p).kind (turnPl p).low (turnPl p).high (turnPl p).size y.1 x.1=meetT p.kind p.low p.high p.size x.1 y.1:=by
  show meetT p.kind (-p.high) (-p.low) p.size y.1 x.1=_;unfold meetT;split
  ·exact decide_eq_decide.2 (by omega)
  ·rw[Bool.eq_iff_iff,beq_iff_eq,beq_iff_eq]
   exact eq_comm
 rw[hm];have hd:decide ((keyFor p 2 y.2).1=(keyFor p 1 x.2).1)=decide ((keyFor p 1 x.2).1=(keyFor p 2 y.2).1):=decide_eq_decide.2 eq_comm;rw[hd];cases (keyFor p 2 y.2).2<;>cases (keyFor p 1 x.2).2<;>simp
theorem turn_keeps (p:Pl):keepsB (turnPl p) 1=keepsB p 2∧keepsB (turnPl p) 2=keepsB p 1:=by
 unfold keepsB turnPl turnM;simp only[if_pos,if_neg (show ¬(1:Int)=2 by decide)];by_cases h2:p.mode=2
 ·simp[h2]
 ·by_cases h3:p.mode=3
  ·simp[h3]
  ·rw[if_neg h2,if_neg h3,beqF h2,beqF h3]
   exact⟨rfl,rfl⟩
theorem flat_pairs {α β γ:Type}(L:List α)(R:List β)(m:α→β→Bool)(f:α→β→γ)(g:α→List γ):
 (L.flatMap fun x=>if(R.filter (m x)).isEmpty then g x else(R.filter (m x)).map (f x)).Perm ((L.flatMap fun x=>(R.filter (m x)).map (f x))++(L.filter fun x=> !R.any (m x)).flatMap g):=by
 induction L with
 |nil=>exact List.Perm.refl _
 |cons x L ih=>
  rw[List.flatMap_cons,List.flatMap_cons,List.filter_cons];by_cases h:(R.filter (m x)).isEmpty=true
  ·have he:R.filter (m x)=[]:=by simpa using h
   have ha:(!R.any (m x))=true:=by
    rw[List.filter_eq_nil_iff]at he;simpa using he
   rw[if_pos h,if_pos ha,List.flatMap_cons,he,List.map_nil,List.nil_append];refine(List.Perm.append_left _ ih).trans ?_;rw[←List.append_assoc,←List.append_assoc];exact List.Perm.append_right _ List.perm_append_comm
  ·have ha: ¬(!R.any (m x))=true:=by
    intro h2;apply h
    have:R.filter (m x)=[]:=by
     rw[List.filter_eq_nil_iff];simpa using h2
    rw[this];rfl
   rw[if_neg h,if_neg ha,List.append_assoc];exact List.Perm.append_left _ ih
theorem flat_swap {α β γ:Type}(m:α→β→Bool)(f:α→β→γ): ∀(L:List α) (R:List β),(L.flatMap fun x=>(R.filter (m x)).map (f x)).Perm (R.flatMap fun y=>(L.filter fun x=>m x y).map fun x=>f x y)
 |[],R=>by
  have:(R.flatMap fun y=>(([]:List α).filter fun x=>m x y).map fun x=>f x y)=[]:=by
   induction R with
   |nil=>rfl
   |cons y R ih=>rw[List.flatMap_cons,ih];rfl
  rw[this];exact List.Perm.refl _
 |x::L,R=>by
  rw[List.flatMap_cons];refine(List.Perm.append_left _ (flat_swap m f L R)).trans ?_
  induction R with
  |nil=>exact List.Perm.refl _
  |cons y R ih=>
   rw[List.flatMap_cons,List.flatMap_cons,List.filter_cons,List.filter_cons];by_cases h:m x y=true
   ·rw[if_pos h,if_pos h,List.map_cons,List.map_cons,List.cons_append,List.cons_append]
    refine List.Perm.cons _ ?_;refine List.Perm.trans ?_ (List.Perm.append_left _ ih);rw[←List.append_assoc,←List.append_assoc];exact List.Perm.append_right _ List.perm_append_comm
   ·rw[if_neg h,if_neg h]
    refine List.Perm.trans ?_ (List.Perm.append_left _ ih);rw[←List.append_assoc,←List.append_assoc];exact List.Perm.append_right _ List.perm_append_comm
theorem join_parts {p:Pl}{L R:List Cg}(hk:p.kind≠3):(joinL p L R).Perm ((L.flatMap fun x=>(R.filter (mtC p x)).map fun y=>x.2++y.2)++((if keepsB p 1=true then(L.filter fun x=> !R.any (mtC p x)).map fun x=>x.2++nullsR p.right.length else[])++lateC p L R)):=by
 rw[join_content hk,←List.append_assoc];refine List.Perm.append_right _ ?_;refine(flat_pairs L R (mtC p) (fun x y=>x.2++y.2) (fun x=>if keepsB p 1 then[x.2++nullsR p.right.length]else[])).trans ?_;refine List.Perm.append_left _ ?_;generalize (L.filter fun x=> !R.any (mtC p x))=M;by_cases h:keepsB p 1=true
 ·rw[if_pos h,h]
  induction M with
  |nil=>exact List.Perm.refl _
  |cons x M ih=>rw[List.flatMap_cons,List.map_cons];exact List.Perm.cons _ ih
 ·rw[if_neg h]
  have h:keepsB p 1=false:=by simpa using h
  rw[h]
  induction M with
  |nil=>exact List.Perm.refl _
  |cons x M ih=>rw[List.flatMap_cons];exact ih
theorem turnR_app {a b:List Val}{n:Nat}(h:a.length=n):turnR n (a++b)=b++a:=by
 unfold turnR;rw[List.drop_left' h,List.take_left' h]
theorem join_turned {p:Pl}{L R:List Cg}(hk:p.kind≠3)(hl: ∀x∈L,x.2.length=p.left.length)(hr: ∀x∈R,x.2.length=p.right.length):((joinL (turnPl p) R L).map (turnR p.right.length)).Perm (joinL p L R):=by
 refine((join_parts (p:=turnPl p) (L:=R) (R:=L) hk).map _).trans ((join_parts (L:=L) (R:=R) hk).trans ?_).symm;rw[List.map_append,List.map_append]
 have e1:((R.flatMap fun y=>(L.filter (mtC (turnPl p) y)).map fun x=>y.2++x.2).map (turnR p.right.length))=(R.flatMap fun y=>(L.filter fun x=>mtC p x y).map fun x=>x.2++y.2):=by
  rw[List.map_flatMap]
  have: ∀R':List Cg,(∀y∈R',y.2.length=p.right.length)→(R'.flatMap fun y=>((L.filter (mtC (turnPl p) y)).map fun x=>y.2++x.2).map (turnR p.right.length))=R'.flatMap fun y=>(L.filter fun x=>mtC p x y).map fun x=>x.2++y.2:=by
   intro R'
   induction R' with
   |nil=>intro _;rfl
   |cons y R' ih=>
    intro h;rw[List.flatMap_cons,List.flatMap_cons,ih fun z hz=>h z (by simp[hz])]
    congr 1
    rw[List.map_map];have ef:L.filter (mtC (turnPl p) y)=L.filter fun x=>mtC p x y:=List.filter_congr fun x _=>turn_meet;rw[ef];exact List.map_congr_left fun x _=>turnR_app (h y (by simp))
  exact this R hr
 rw[e1];refine List.Perm.append (flat_swap (mtC p) (fun x y=>x.2++y.2) L R) ?_;refine List.perm_append_comm.trans ?_;refine List.Perm.append ?_ ?_
 ·unfold lateC
  rw[(turn_keeps p).1];by_cases h:keepsB p 2=true
  ·rw[if_pos h,if_pos h,List.map_map]
   have ef:(R.filter fun y=> !L.any (mtC (turnPl p) y))=R.filter fun y=> !L.any fun x=>mtC p x y:=List.filter_congr fun y _=>by
    congr 1
    congr 1
    funext x
    exact turn_meet
   rw[ef];refine List.Perm.of_eq (List.map_congr_left fun y hy=> ?_);show _=turnR p.right.length (y.2++nullsR p.left.length);rw[turnR_app (hr y (List.mem_filter.1 hy).1)]
  ·rw[if_neg h,if_neg h]
   exact List.Perm.refl _
 ·unfold lateC
  rw[(turn_keeps p).2];by_cases h:keepsB p 1=true
  ·rw[if_pos h,if_pos h,List.map_map]
   have ef:(L.filter fun x=> !R.any fun y=>mtC (turnPl p) y x)=L.filter fun x=> !R.any (mtC p x):=List.filter_congr fun x _=>by
    congr 1
    congr 1
    funext y
    exact turn_meet
   rw[ef];refine List.Perm.of_eq (List.map_congr_left fun x hx=> ?_);show _=turnR p.right.length (nullsR p.right.length++x.2);rw[turnR_app (by unfold nullsR;simp)]
  ·rw[if_neg h,if_neg h]
   exact List.Perm.refl _
end Go.Proofs.YtjhbeecmdgglgaaGreatDoor
namespace Go.Proofs.YtjhbeecmdgglgaaGreatDoor
open tm (fitsB)
def expand (A:AV):List (List Val):=A.flatMap fun q=>List.replicate q.2.toNat q.1
theorem expand_count: ∀ {A:AV},Rises A→(∀q∈A,0≤q.2)→ ∀r,GoodR r→(((expand A).filter fun x=>decide (x=r)).length:Int)=lookA A r
 |[],_,_,_,_=>rfl
 |q::A,h,hn,r,hr=>by
  obtain⟨x,n⟩:=q;have hx:=h.head.1;have ih:=expand_count h.tail (fun q hq=>hn q (by simp[hq])) r hr;have h0:0≤n:=hn (x,n) (by simp);rw[look_good hx hr];unfold expand at ih⊢;rw[List.flatMap_cons,List.filter_append,List.length_append];show((((List.replicate n.toNat x).filter fun y=>decide (y=r)).length+_:Nat):Int)=_;rw[List.filter_replicate];by_cases e:x=r
  ·subst e
   rw[if_pos rfl];have hz:lookA A x=0:=(look_head h).1;rw[hz]at ih;rw[if_pos (decide_eq_true rfl),List.length_replicate];omega
  ·rw[if_neg e]
   rw[if_neg (by simpa using e),List.length_nil];omega
theorem expand_perm {rows:List (List Val)}(hg: ∀r∈rows,GoodR r)(hl:rows.length≤4096):(expand (viewR rows)).Perm rows:=by
 rw[viewR_N hg hl];obtain⟨h1,h2⟩:=viewN_tells _ rows rfl hg hl;generalize rows.foldl (fun A r=>(addR A r 1).1) []=A at h1 h2;have hn: ∀q∈A,0≤q.2:=fun q hq=>by have:=h1.nums q hq;omega
 rw[List.perm_iff_count];intro r
 have key (l:List (List Val)):l.count r=(l.filter fun x=>decide (x=r)).length:=by
  rw[List.count_eq_length_filter]
  congr 1
  apply List.filter_congr;intro x _;rw[Bool.eq_iff_iff,beq_iff_eq,decide_eq_true_eq]
 rw[key,key];by_cases hr:GoodR r
 ·have a:=expand_count h1.rises hn r hr
  have b:=(h2 r hr).2;unfold cntR at b;omega
 ·have z (l:List (List Val)) (hl: ∀x∈l,GoodR x):l.filter (fun x=>decide (x=r))=[]:=by
   rw[List.filter_eq_nil_iff];intro x hx e;exact hr (by have:=hl x hx;rwa[show x=r by simpa using e]at this)
  rw[z rows hg,z (expand A) ?_];intro x hx;obtain⟨q,hq,hx⟩:=List.mem_flatMap.1 hx;rw[(List.mem_replicate.1 hx).2];exact h1.rises.good q hq
theorem join_leftPerm {p:Pl}{L L' R:List Cg}(h:L.Perm L'):(joinL p L R).Perm (joinL p L' R):=by
 unfold joinL;refine List.Perm.append (h.flatMap_right _) ?_
 have:lateOf p L R=lateOf p L' R:=by
  funext i
  unfold lateOf aloneB2
  have:(L.any fun x=>(withI p R x).contains (i:Int))=L'.any fun x=>(withI p R x).contains (i:Int):=by
   rw[Bool.eq_iff_iff,List.any_eq_true,List.any_eq_true];exact⟨fun⟨x,hx,e⟩=>⟨x,h.mem_iff.1 hx,e⟩,fun⟨x,hx,e⟩=>⟨x,h.mem_iff.2 hx,e⟩⟩
  rw[this]
 rw[this]
theorem flat_perm {α β:Type}{f g:α→List β}: ∀(l:List α),(∀x∈l,(f x).Perm (g x))→(l.flatMap f).Perm (l.flatMap g)
 |[],_=>List.Perm.refl _
 |x::l,h=>by
  rw[List.flatMap_cons,List.flatMap_cons];exact List.Perm.append (h x (by simp)) (flat_perm l fun y hy=>h y (by simp[hy]))
theorem join_rightPerm {p:Pl}{L R R':List Cg}(hk:p.kind≠3)(h:R.Perm R'):(joinL p L R).Perm (joinL p L R'):=by
 refine(join_parts hk).trans (List.Perm.trans ?_ (join_parts hk).symm);refine List.Perm.append ?_ (List.Perm.append ?_ ?_)
 ·exact flat_perm L fun x _=>(h.filter _).map _
 ·have:(L.filter fun x=> !R.any (mtC p x))=L.filter fun x=> !R'.any (mtC p x):=List.filter_congr fun x _=>by
   congr 1
   rw[Bool.eq_iff_iff,List.any_eq_true,List.any_eq_true];exact⟨fun⟨y,hy,e⟩=>⟨y,h.mem_iff.1 hy,e⟩,fun⟨y,hy,e⟩=>⟨y,h.mem_iff.2 hy,e⟩⟩
  rw[this]
 ·unfold lateC
  split
  ·exact(h.filter _).map _
  ·exact List.Perm.refl _
def bestC (p:Pl) (R:List Cg) (x:Cg):Option Cg:=if(keyFor p 1 x.2).2=true then(bestI R x.1 (idxs p R (keyFor p 1 x.2).1)).map fun i=>R.getD i.toNat zC else none
def vsC (p:Pl) (x y:Cg):Bool:=(keyFor p 1 x.2).2&&(keyed p 2 y.2 (keyFor p 1 x.2).1&&decide (y.1≤x.1))
theorem best_content {p:Pl}{R:List Cg}{x:Cg}(hu:R.Pairwise fun a b=>a.1≠b.1):match bestC p R x with
 |none=> ∀y∈R,vsC p x y=false
 |some y=>y∈R∧vsC p x y=true∧ ∀z∈R,vsC p x z=true→z.1≤y.1:=by
 unfold bestC;by_cases hk:(keyFor p 1 x.2).2=true
 ·rw[if_pos hk]
  have hb:=best_is (R:=R) (t:=x.1) (idxs_up p R (keyFor p 1 x.2).1)
  have hidx: ∀y∈R,keyed p 2 y.2 (keyFor p 1 x.2).1=true→ ∃i:Int,i∈idxs p R (keyFor p 1 x.2).1∧timeAt R i=y.1:=fun y hy hky=>by
   obtain⟨i,hi,rfl⟩:=List.mem_iff_getElem.1 hy;refine⟨(i:Int),idxs_mem.2 ⟨by omega,by omega,?_⟩,?_⟩
   ·unfold rowAt;simp[List.getD,hi];exact hky
   ·unfold timeAt;simp[List.getD,hi]
  cases hbb:bestI R x.1 (idxs p R (keyFor p 1 x.2).1)with
  |none=>
   rw[hbb]at hb;intro y hy;unfold vsC;rw[hk];by_cases hky:keyed p 2 y.2 (keyFor p 1 x.2).1=true
   ·obtain⟨i,hi,e⟩:=hidx y hy hky
    have:=hb i hi;rw[e]at this;rw[decide_eq_false (by omega)];simp
   ·have:keyed p 2 y.2 (keyFor p 1 x.2).1=false:=by simpa using hky
    rw[this];simp
  |some b=>
   rw[hbb]at hb;obtain⟨b1,b2,b3⟩:=hb;obtain⟨i1,i2,i3⟩:=idxs_mem.1 b1;have hlt:b.toNat<R.length:=by omega
   have eg:R.getD b.toNat zC=R[b.toNat]:=by simp[List.getD,hlt]
   show R.getD b.toNat zC∈R∧vsC p x (R.getD b.toNat zC)=true∧_;refine⟨by rw[eg];exact List.getElem_mem hlt,?_,fun z hz hv=> ?_⟩
   ·unfold vsC
    rw[hk];unfold rowAt at i3;rw[i3];unfold timeAt at b2;rw[decide_eq_true b2];rfl
   ·unfold vsC at hv
    simp only[Bool.and_eq_true,decide_eq_true_eq]at hv;obtain⟨i,hi,e⟩:=hidx z hz hv.2.1;rcases b3 i hi (by rw[e];exact hv.2.2)with rfl|h
    ·rw[←e];exact Int.le_refl _
    ·unfold ltT at h
     rw[e]at h;have e2:timeAt R b=(R.getD b.toNat zC).1:=rfl;rw[e2]at h;show z.1≤(R.getD b.toNat zC).1;omega
 ·rw[if_neg hk]
  intro y _;unfold vsC;have:(keyFor p 1 x.2).2=false:=by simpa using hk
  rw[this];rfl
theorem same_time {R:List Cg}(hu:R.Pairwise fun a b=>a.1≠b.1){y z:Cg}(hy:y∈R)(hz:z∈R)(h:y.1=z.1):y=z:=by
 obtain⟨i,hi,rfl⟩:=List.mem_iff_getElem.1 hy;obtain⟨j,hj,rfl⟩:=List.mem_iff_getElem.1 hz;rcases Nat.lt_trichotomy i j with h1|h1|h1
 ·exact absurd h (List.pairwise_iff_getElem.1 hu i j hi hj h1)
 ·subst h1;rfl
 ·exact absurd h.symm (List.pairwise_iff_getElem.1 hu j i hj hi h1)
theorem best_perm {p:Pl}{R R':List Cg}{x:Cg}(hu:R.Pairwise fun a b=>a.1≠b.1)(h:R.Perm R'):bestC p R x=bestC p R' x:=by
 have hu':R'.Pairwise fun a b=>a.1≠b.1:=(h.pairwise_iff (fun{a b} h=>fun e=>h e.symm)).1 hu;have a:=best_content (p:=p) (x:=x) hu;have b:=best_content (p:=p) (x:=x) hu';cases ha:bestC p R x with
 |none=>
  rw[ha]at a;cases hb:bestC p R' x with
  |none=>rfl
  |some y=>rw[hb]at b;have:=a y (h.mem_iff.2 b.1);rw[b.2.1]at this;cases this
 |some y=>
  rw[ha]at a;cases hb:bestC p R' x with
  |none=>rw[hb]at b;have:=b y (h.mem_iff.1 a.1);rw[a.2.1]at this;cases this
  |some z=>
   rw[hb]at b;have h1:=a.2.2 z (h.mem_iff.2 b.1) b.2.1;have h2:=b.2.2 y (h.mem_iff.1 a.1) a.2.1;rw[same_time hu a.1 (h.mem_iff.2 b.1) (by omega)]
theorem pairs_temporal {p:Pl}{R:List Cg}{x:Cg}(hk:p.kind=3):pairsOf p R x=match bestC p R x with
 |some y=>[x.2++y.2]
 |none=>if keepsB p 1=true then[x.2++nullsR p.right.length]else[]:=by
 unfold pairsOf withI bestC;rw[if_pos hk];by_cases h:(keyFor p 1 x.2).2=true
 ·rw[if_pos h,if_pos h]
  cases bestI R x.1 (idxs p R (keyFor p 1 x.2).1)with
  |none=>rfl
  |some b=>rfl
 ·rw[if_neg h,if_neg h]
  rfl
theorem temporal_mode {p:Pl}(hp:checkP p=0)(hk:p.kind=3):keepsB p 2=false:=by
 have h:=(check_ok hp).1;unfold kindsB at h;simp only[Bool.and_eq_true]at h;have h:=btw_of h.2.1;rw[if_pos hk]at h;unfold keepsB;rw[if_pos rfl,beqF (by omega),beqF (by omega)];rfl
theorem join_rightPermT {p:Pl}{L R R':List Cg}(hp:checkP p=0)(hk:p.kind=3)(hu:R.Pairwise fun a b=>a.1≠b.1)(h:R.Perm R'):joinL p L R=joinL p L R':=by
 have hm:=temporal_mode hp hk
 have hlate: ∀R:List Cg,(List.range R.length).flatMap (lateOf p L R)=[]:=fun R=>by
  have: ∀l:List Nat,l.flatMap (lateOf p L R)=[]:=by
   intro l
   induction l with
   |nil=>rfl
   |cons i l ih=>
    rw[List.flatMap_cons,ih];unfold lateOf;rw[hm];simp
  exact this _
 unfold joinL;rw[hlate,hlate]
 congr 1
 congr 1
 funext x
 rw[pairs_temporal hk,pairs_temporal hk,best_perm hu h]
theorem good_perm {p:Pl}{L R L' R':List Cg}(h:GoodB2 p L R)(hl:L.Perm L')(hr:R.Perm R'):GoodB2 p L' R':=
 ⟨h.plan,by rw[←hl.length_eq,←hr.length_eq];exact h.few,fun x hx=>h.lt x (hl.mem_iff.2 hx),fun x hx=>h.rt x (hr.mem_iff.2 hx),fun x hx=>h.lr x (hl.mem_iff.2 hx),fun x hx=>h.rr x (hr.mem_iff.2 hx)⟩
end Go.Proofs.YtjhbeecmdgglgaaGreatDoor
namespace Go.Proofs.YtjhbeecmdgglgaaGreatDoor
open tm (fitsB)
def withM (p:Pl) (m:Int):Pl:=⟨p.kind,m,p.low,p.high,p.size,p.limit,p.vl,p.vr,p.vk,p.vq,p.grouped,p.vg,p.va,p.left,p.right,p.lkeys,p.rkeys,p.group,p.aggs⟩
theorem withM_check {p:Pl}{m:Int}(h:checkP p=0)(hm:m=1∨m=2):checkP (withM p m)=0:=by
 obtain⟨h1,h2,h3,h4,h5⟩:=check_ok h
 have k1:kindsB (withM p m)=true:=by
  unfold kindsB at h1⊢;simp only[Bool.and_eq_true]at h1⊢;refine⟨h1.1,?_,h1.2.2⟩;show btw m 1 (if p.kind=3 then 2 else 4)=true;split
  ·exact btw_yes (by omega) (by omega)
  ·exact btw_yes (by omega) (by omega)
 unfold checkP;rw[k1,show rangesB (withM p m)=true from h2,show countsB (withM p m)=true from h3,show typesB (withM p m)=true from h4,show formB (withM p m)=true from h5];rfl
theorem withM_good {p:Pl}{m:Int}{L R:List Cg}(h:GoodB2 p L R)(hm:m=1∨m=2):GoodB2 (withM p m) L R:=
 ⟨withM_check h.plan hm,h.few,h.lt,h.rt,h.lr,h.rr⟩
theorem withM_with (p:Pl)(m:Int)(R:List Cg)(x:Cg):withI (withM p m) R x=withI p R x:=rfl
theorem inner_sub (p:Pl)(L R:List Cg):(joinL (withM p 1) L R).Sublist (joinL p L R):=by
 have h1: ∀l:List Cg,(l.flatMap (pairsOf (withM p 1) R)).Sublist (l.flatMap (pairsOf p R)):=by
  intro l
  induction l with
  |nil=>exact List.Sublist.refl _
  |cons x l ih=>
   rw[List.flatMap_cons,List.flatMap_cons];refine List.Sublist.append ?_ ih;unfold pairsOf;rw[withM_with];by_cases h:(withI p R x).isEmpty=true
   ·rw[if_pos h,if_pos h]
    have:keepsB (withM p 1) 1=false:=rfl;rw[this];exact List.nil_sublist _
   ·rw[if_neg h,if_neg h]
    exact List.Sublist.refl _
 have h2: ∀l:List Nat,l.flatMap (lateOf (withM p 1) L R)=[]:=by
  intro l
  induction l with
  |nil=>rfl
  |cons i l ih=>
   rw[List.flatMap_cons,ih];unfold lateOf;have:keepsB (withM p 1) 2=false:=rfl;rw[this];simp
 unfold joinL;rw[h2];exact List.Sublist.append (h1 L) (List.nil_sublist _)
theorem sub_cnt {a b:List (List Val)}(h:a.Sublist b)(r:List Val):cntR a r≤cntR b r:=by
 unfold cntR;have:=(h.filter fun x=>decide (x=r)).length_le;omega
def tot:AV→Int
 |[]=>0
 |q::A=>q.2+tot A
theorem tot_merge (A B:AV):tot (mergeD A B)=tot B-tot A:=by
 have hneg: ∀A:AV,tot (A.map fun p=>(p.1,-p.2))= -tot A:=by
  intro A
  induction A with
  |nil=>rfl
  |cons q A ih=>show-q.2+tot (A.map _)= -(q.2+tot A);rw[ih];omega
 induction A,B using mergeD.induct with
 |case1 B=>rw[merge_nil'];show tot B=tot B-0;omega
 |case2 A h=>rw[merge_nil,hneg];show _=0-tot A;omega
 |case3 a m A b n B h ih=>rw[mergeD,if_pos h];show-m+tot _=(n+tot B)-(m+tot A);rw[ih];show-m+((n+tot B)-tot A)=_;omega
 |case4 a m A b n B h h' ih=>rw[mergeD,if_neg h,if_pos h'];show(n-m)+tot _=(n+tot B)-(m+tot A);rw[ih];omega
 |case5 a m A b n B h h' ih=>rw[mergeD,if_neg h,if_neg h'];show n+tot _=(n+tot B)-(m+tot A);rw[ih];show n+(tot B-(m+tot A))=_;omega
theorem inss_tot: ∀ {A:AV},(∀q∈A,0≤q.2)→((inss A).length:Int)=tot A
 |[],_=>rfl
 |q::A,h=>by
  have h0:=h q (by simp);have ih:=inss_tot (A:=A) fun r hr=>h r (by simp[hr]);show(((List.replicate q.2.toNat ((1:Int),q.1))++inss A).length:Int)=q.2+tot A;rw[List.length_append,List.length_replicate];omega
theorem dels_none: ∀ {A:AV},(∀q∈A,0≤q.2)→dels A=[]
 |[],_=>rfl
 |q::A,h=>by
  have h0:=h q (by simp);show List.replicate (-q.2).toNat ((2:Int),q.1)++dels A=[];rw[dels_none (A:=A) fun r hr=>h r (by simp[hr]),show(-q.2).toNat=0 by omega];rfl
theorem rises_look {A:AV}(h:Rises A){q:List Val×Int}(hq:q∈A):lookA A q.1=q.2:=by
 induction A with
 |nil=>cases hq
 |cons x t ih=>
  obtain⟨x,m⟩:=x;have hx:=h.head.1;rcases List.mem_cons.1 hq with rfl|hq
  ·rw[look_good hx hx,if_pos rfl]
  ·have hg:=h.tail.good q hq
   rw[look_good hx hg];by_cases e:x=q.1
   ·have:=(List.pairwise_cons.1 h.rise).1 q hq
    simp only at this;rw[e,rowsF_self hg]at this;omega
   ·rw[if_neg e]
    exact ih h.tail hq
theorem expand_len {A:AV}(h: ∀q∈A,0≤q.2):((expand A).length:Int)=tot A:=by
 have: ∀A:AV,(∀q∈A,0≤q.2)→((expand A).length:Int)=tot A:=by
  intro A
  induction A with
  |nil=>intro _;rfl
  |cons q A ih=>
   intro h;have h0:=h q (by simp);show(((List.replicate q.2.toNat q.1)++expand A).length:Int)=q.2+tot A;rw[List.length_append,List.length_replicate];have:=ih fun r hr=>h r (by simp[hr]);omega
 exact this A h
theorem diff_more {a b:List (List Val)}(ha: ∀r∈a,GoodR r)(hb: ∀r∈b,GoodR r)(hal:a.length≤4096)(hbl:b.length≤4096)(h:a.Sublist b):
 (∀c∈tell (mergeD (viewR a) (viewR b)),c.1=1)∧(tell (mergeD (viewR a) (viewR b))).length≤4096:=by
 have pa:=expand_perm ha hal;have pb:=expand_perm hb hbl;rw[viewR_N ha hal,viewR_N hb hbl]at*;obtain⟨a1,a2⟩:=viewN_tells _ a rfl ha hal;obtain⟨b1,b2⟩:=viewN_tells _ b rfl hb hbl;generalize a.foldl (fun A r=>(addR A r 1).1) []=A at a1 a2 pa⊢;generalize b.foldl (fun A r=>(addR A r 1).1) []=B at b1 b2 pb⊢;have hD:=merge_rises a1.rises b1.rises
 have hn: ∀q∈mergeD A B,0≤q.2:=fun q hq=>by
  have hg:=hD.good q hq;have e:=rises_look hD hq;rw[merge_look a1.rises b1.rises hg,(a2 _ hg).2,(b2 _ hg).2]at e;have:=sub_cnt h q.1;omega
 have hd:=dels_none hn;refine⟨fun c hc=> ?_,?_⟩
 ·unfold tell at hc
  rw[hd,List.nil_append]at hc;obtain⟨q,-,hq⟩:=List.mem_flatMap.1 hc;rw[(List.mem_replicate.1 hq).2]
 ·unfold tell
  rw[hd,List.nil_append];have h1:=inss_tot hn;rw[tot_merge]at h1;have na: ∀q∈A,0≤q.2:=fun q hq=>by have:=a1.nums q hq;omega
  have nb: ∀q∈B,0≤q.2:=fun q hq=>by have:=b1.nums q hq;omega
  have h2:=expand_len na;have h3:=expand_len nb;have h4:=pb.length_eq;omega
def startsR (r x:List Val):Bool:=decide (r.length≤x.length)&&decide (x.take r.length=r)
def leftN (r:List Val):AV→Int
 |[]=>0
 |q::A=>(if startsR r q.1=true then q.2 else 0)+leftN r A
theorem leftN_expand (r:List Val): ∀ {A:AV},(∀q∈A,0≤q.2)→leftN r A=(((expand A).filter (startsR r)).length:Int)
 |[],_=>rfl
 |q::A,h=>by
  have h0:=h q (by simp);have ih:=leftN_expand r (A:=A) fun s hs=>h s (by simp[hs]);show(if startsR r q.1=true then q.2 else 0)+leftN r A=((((List.replicate q.2.toNat q.1)++expand A).filter (startsR r)).length:Int);rw[List.filter_append,List.length_append,List.filter_replicate,ih];by_cases e:startsR r q.1=true
  ·rw[if_pos e,if_pos e,List.length_replicate];omega
  ·rw[if_neg e,if_neg e,List.length_nil];omega
theorem leftN_rows {rows:List (List Val)}(hg: ∀r∈rows,GoodR r)(hl:rows.length≤4096)(r:List Val):leftN r (viewR rows)=((rows.filter (startsR r)).length:Int):=by
 have hp:=expand_perm hg hl;rw[leftN_expand,(hp.filter _).length_eq];rw[viewR_N hg hl];intro q hq;have:=(viewN_tells _ rows rfl hg hl).1.nums q hq;omega
def cameN (r:List Val) (L:List Cg):Int:=((L.filter fun y=>decide (y.2=r)).length:Nat)
theorem starts_app {r a b:List Val}(h:a.length=r.length):startsR r (a++b)=decide (a=r):=by
 unfold startsR;rw[List.take_left' h,List.length_append,decide_eq_true (by omega)];rfl
theorem pairs_start {p:Pl}{R:List Cg}{x:Cg}: ∀r∈pairsOf p R x,∃b,r=x.2++b:=by
 intro r hr;unfold pairsOf at hr;split at hr
 ·split at hr
  ·exact⟨_,List.mem_singleton.1 hr⟩
  ·cases hr
 ·obtain⟨i,-,rfl⟩:=List.mem_map.1 hr
  exact⟨_,rfl⟩
theorem pairs_some {p:Pl}{R:List Cg}{x:Cg}(h:keepsB p 1=true):1≤(pairsOf p R x).length:=by
 unfold pairsOf;split
 ·simp[h]
 ·rename_i h2
  rw[List.length_map];cases hw:withI p R x with
  |nil=>rw[hw]at h2;simp at h2
  |cons a l=>simp
theorem pairs_oneT {p:Pl}{R:List Cg}{x:Cg}(h:keepsB p 1=true)(hk:p.kind=3):(pairsOf p R x).length=1:=by
 rw[pairs_temporal hk];cases bestC p R x with
 |none=>simp[h]
 |some y=>rfl
theorem outer_keeps {p:Pl}{L R:List Cg}(n:Nat)(hL: ∀x∈L,x.2.length=n){r:List Val}(hr:r.length=n):
 cameN r L≤((joinL (withM p 2) L R).filter (startsR r)).length∧(p.kind=3→cameN r L=((joinL (withM p 2) L R).filter (startsR r)).length):=by
 have h2: ∀l:List Nat,l.flatMap (lateOf (withM p 2) L R)=[]:=by
  intro l
  induction l with
  |nil=>rfl
  |cons i l ih=>
   rw[List.flatMap_cons,ih];unfold lateOf;have:keepsB (withM p 2) 2=false:=rfl;rw[this];simp
 have hk1:keepsB (withM p 2) 1=true:=rfl;unfold joinL;rw[h2,List.append_nil];unfold cameN
 have key: ∀l:List Cg,(∀x∈l,x.2.length=n)→((l.filter fun y=>decide (y.2=r)).length≤((l.flatMap (pairsOf (withM p 2) R)).filter (startsR r)).length)∧(p.kind=3→(l.filter fun y=>decide (y.2=r)).length=((l.flatMap (pairsOf (withM p 2) R)).filter (startsR r)).length):=by
  intro l
  induction l with
  |nil=>intro _;exact⟨Nat.le_refl _,fun _=>rfl⟩
  |cons x l ih=>
   intro h;obtain⟨i1,i2⟩:=ih fun y hy=>h y (by simp[hy])
   have hx:=h x (by simp);rw[List.flatMap_cons,List.filter_append,List.length_append,List.filter_cons]
   have hf:(pairsOf (withM p 2) R x).filter (startsR r)=if decide (x.2=r)=true then pairsOf (withM p 2) R x else[]:=by
    split
    ·rename_i e
     rw[List.filter_eq_self];intro y hy;obtain⟨b,rfl⟩:=pairs_start y hy;rw[starts_app (by omega)];exact e
    ·rename_i e
     rw[List.filter_eq_nil_iff];intro y hy;obtain⟨b,rfl⟩:=pairs_start y hy;rw[starts_app (by omega)];exact e
   rw[hf];have p1:=pairs_some (R:=R) (x:=x) hk1;by_cases e:decide (x.2=r)=true
   ·rw[if_pos e,if_pos e,List.length_cons]
    refine⟨by omega,fun hk=> ?_⟩;have p2:=pairs_oneT (R:=R) (x:=x) hk1 hk;have:=i2 hk;omega
   ·rw[if_neg e,if_neg e,List.length_nil]
    exact⟨by omega,fun hk=>by have:=i2 hk;omega⟩
 obtain⟨k1,k2⟩:=key L hL;exact⟨by omega,fun hk=>by have:=k2 hk;omega⟩
end Go.Proofs.YtjhbeecmdgglgaaGreatDoor
namespace Go.Proofs.YtjhbeecmdgglgaaGreatDoor
open Go.RowKit Go.Maps
end Go.Proofs.YtjhbeecmdgglgaaGreatDoor
namespace Go.Proofs.YtjhbeecmdgglgaaGreatDoor
open Go.RowKit Go.Maps
end Go.Proofs.YtjhbeecmdgglgaaGreatDoor
namespace Go.Proofs.YtjhbeecmdgglgaaGreatDoor
open Go.RowKit Go.Maps
end Go.Proofs.YtjhbeecmdgglgaaGreatDoor
