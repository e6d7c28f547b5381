/-Views and piles, plain law: a pile's datum is the view, sorted by keys. Plain law of groups: what is wrong with groups; their rows. Views: in memory;  -/
import Derived.Test.YtjhbeecmdgglgaaGreatDoorGrpX13
import Derived.Maps.Views
import Derived.Maps.OwnSet
import Derived.Test.YtjhbeecmdgglgaaGreatDoorGrpX8
import Derived.Test.YtjhbeecmdgglgaaGreatDoorGrpX4
import Derived.Test.YtjhbeecmdgglgaaGreatDoorGrpX6
set_option linter.unusedSimpArgs false
set_option linter.unusedVariables false
namespace Go.Proofs.YtjhbeecmdgglgaaGreatDoor
open Go.RowKit Go.Maps
open Go.Lib (compareBytes)
abbrev AV:=List (List Val×Int)
theorem before_eq (a b:List UInt8):bytesBefore a b=decide (compareBytes a b<0):=by
 induction a generalizing b with
 |nil=>
  cases b with
  |nil=>simp[bytesBefore,compareBytes]
  |cons y b=>simp[bytesBefore,compareBytes]
 |cons x a ih=>
  cases b with
  |nil=>simp[bytesBefore,compareBytes]
  |cons y b=>
   unfold bytesBefore;by_cases h1:x<y
   ·rw[cb_lt _ _ h1];simp[h1]
   ·by_cases h2:y<x
    ·rw[cb_gt _ _ h2]
     have:x≠y:=by rintro rfl;exact h1 h2
     simp[h1,this]
    ·have:x=y:=by
      rw[u8_lt]at h1 h2;exact UInt8.toNat_inj.1 (by omega)
     subst this;rw[cb_same,ih];simp[u8_lt_irr]
structure GoodR (r:List Val):Prop where
 good:Good r
 few:r.length≤8
theorem goodR_of {r:List Val}(hf:Fine r)(h:keyErr r=0):GoodR r:=by
 obtain⟨h8,hg⟩:=keyErr_zero h;exact⟨fun x hx=>⟨hg x hx,hf.nums x hx⟩,h8⟩
theorem rowsF_zero {a b:List Val}(ha:GoodR a)(hb:GoodR b):rowsF a b=0↔a=b:=by
 have h1:=key_same ha.good hb.good;have h2:=key_tells ha.good hb.good ha.few hb.few;rw[h1]at h2;constructor
 ·intro h
  rw[decide_eq_true h]at h2;exact(sameR_iff a b).1 h2.symm
 ·rintro rfl
  rw[(sameR_iff a a).2 rfl]at h2;simpa using h2
theorem rowsF_self {a:List Val}(ha:GoodR a):rowsF a a=0:=(rowsF_zero ha ha).2 rfl
theorem cb_flip (a b:List UInt8):compareBytes b a= -compareBytes a b:=by
 induction a generalizing b with
 |nil=>cases b<;>simp[compareBytes]
 |cons x a ih=>
  cases b with
  |nil=>simp[compareBytes]
  |cons y b=>
   by_cases h1:x<y
   ·rw[cb_lt _ _ h1,cb_gt _ _ h1];rfl
   ·by_cases h2:y<x
    ·rw[cb_gt _ _ h2,cb_lt _ _ h2]
    ·have:x=y:=by
      rw[u8_lt]at h1 h2;exact UInt8.toNat_inj.1 (by omega)
     subst this;rw[cb_same,cb_same,ih]
theorem cb_trans {a b c:List UInt8}(h1:compareBytes a b<0)(h2:compareBytes b c<0):compareBytes a c<0:=by
 induction a generalizing b c with
 |nil=>
  cases b with
  |nil=>simp[compareBytes]at h1
  |cons y b=>
   cases c with
   |nil=>simp[compareBytes]at h2
   |cons z c=>simp[compareBytes]
 |cons x a ih=>
  cases b with
  |nil=>simp[compareBytes]at h1
  |cons y b=>
   cases c with
   |nil=>simp[compareBytes]at h2
   |cons z c=>
    have t1:x<y∨(x=y∧compareBytes a b<0):=by
     by_cases e1:x<y
     ·exact .inl e1
     ·by_cases e2:y<x
      ·rw[cb_gt _ _ e2]at h1;omega
      ·have:x=y:=by
        rw[u8_lt]at e1 e2;exact UInt8.toNat_inj.1 (by omega)
       subst this;rw[cb_same]at h1;exact .inr ⟨rfl,h1⟩
    have t2:y<z∨(y=z∧compareBytes b c<0):=by
     by_cases e1:y<z
     ·exact .inl e1
     ·by_cases e2:z<y
      ·rw[cb_gt _ _ e2]at h2;omega
      ·have:y=z:=by
        rw[u8_lt]at e1 e2;exact UInt8.toNat_inj.1 (by omega)
       subst this;rw[cb_same]at h2;exact .inr ⟨rfl,h2⟩
    rcases t1 with t1|⟨rfl,t1⟩
    ·rcases t2 with t2|⟨rfl,t2⟩
     ·rw[cb_lt _ _ (by rw[u8_lt]at*;omega)];omega
     ·rw[cb_lt _ _ t1];omega
    ·rcases t2 with t2|⟨rfl,t2⟩
     ·rw[cb_lt _ _ t2];omega
     ·rw[cb_same];exact ih t1 t2
theorem rowsF_flip {a b:List Val}(ha:GoodR a)(hb:GoodR b):rowsF b a= -rowsF a b:=by
 rw[←key_order a b ha.good hb.good,←key_order b a hb.good ha.good,cb_flip]
theorem rowsF_trans {a b c:List Val}(ha:GoodR a)(hb:GoodR b)(hc:GoodR c)(h1:rowsF a b<0)(h2:rowsF b c<0):rowsF a c<0:=by
 rw[←key_order a b ha.good hb.good]at h1;rw[←key_order b c hb.good hc.good]at h2;rw[←key_order a c ha.good hc.good];exact cb_trans h1 h2
def kOf (r:List Val):Lit:= .string (keyRow r)
theorem kOf_before {a b:List Val}(ha:GoodR a)(hb:GoodR b):(kOf a).before (kOf b)=decide (rowsF a b<0):=by
 show bytesBefore (keyRow a) (keyRow b)=_;rw[before_eq,key_order a b ha.good hb.good]
theorem kOf_same {a b:List Val}(ha:GoodR a)(hb:GoodR b):(kOf a).sameKey (kOf b)=decide (rowsF a b=0):=by
 show(keyRow a==keyRow b)=_;exact key_same ha.good hb.good
structure Rises (A:AV):Prop where
 good: ∀p∈A,GoodR p.1
 rise:A.Pairwise fun p q=>rowsF p.1 q.1<0
theorem Rises.nil:Rises []:=⟨nofun,.nil⟩
theorem Rises.tail {x:List Val×Int}{t:AV}(h:Rises (x::t)):Rises t:=⟨fun p hp=>h.good p (by simp[hp]),(List.pairwise_cons.1 h.rise).2⟩
def lookA:AV→List Val→Int
 |[],_=>0
 |(x,m)::t,r=>if rowsF x r=0 then m else lookA t r
def hasA:AV→List Val→Bool
 |[],_=>false
 |(x,_)::t,r=>decide (rowsF x r=0)||hasA t r
def putA:AV→List Val→Int→AV
 |[],r,n=>[(r,n)]
 |(x,m)::t,r,n=>if rowsF x r=0 then(x,n)::t else if rowsF x r<0 then(x,m)::putA t r n else(r,n)::(x,m)::t
def delA:AV→List Val→AV
 |[],_=>[]
 |(x,m)::t,r=>if rowsF x r=0 then t else(x,m)::delA t r
def ent (p:List Val×Int):Lit×DataW Unit:=(kOf p.1,.lit (.int .i64 p.2))
def mkD (A:AV):DataW Unit:= .map (A.map ent)
theorem mkD_size (A:AV):Maps.size (mkD A)=A.length:=by rw[mkD,size_eq,List.length_map]
theorem mkD_at {A:AV}{r:List Val}(h: ∀p∈A,GoodR p.1)(hr:GoodR r):(mkD A).atKey (kOf r) (.lit (.int .i64 0))= .lit (.int .i64 (lookA A r)):=by
 unfold mkD DataW.atKey
 induction A with
 |nil=>rfl
 |cons x t ih=>
  obtain⟨x,m⟩:=x;have hx:GoodR x:=h (x,m) (by simp);simp only[List.map_cons,List.find?_cons,ent,kOf_same hx hr,lookA];by_cases e:rowsF x r=0
  ·simp[e]
  ·simp only[e,decide_false,if_false]
   exact ih fun p hp=>h p (by simp[hp])
theorem mkD_has {A:AV}{r:List Val}(h: ∀p∈A,GoodR p.1)(hr:GoodR r):Maps.has (mkD A) (kOf r)=hasA A r:=by
 show(A.map ent).any (fun p=>p.1.sameKey (kOf r))=_
 induction A with
 |nil=>rfl
 |cons x t ih=>
  obtain⟨x,m⟩:=x;have hx:GoodR x:=h (x,m) (by simp);simp only[List.map_cons,List.any_cons,ent,kOf_same hx hr,hasA]
  congr 1
  exact ih fun p hp=>h p (by simp[hp])
theorem filter_keep {A:AV}{r:List Val}(h: ∀p∈A,GoodR p.1)(hr:GoodR r)(hn: ∀p∈A,rowsF p.1 r≠0):(A.map ent).filter (fun p=> !p.1.sameKey (kOf r))=A.map ent:=by
 rw[List.filter_eq_self];intro q hq;obtain⟨p,hp,rfl⟩:=List.mem_map.1 hq;simp[ent,kOf_same (h p hp) hr,hn p hp]
theorem insert_front {A:AV}{r:List Val}{n:Int}(h: ∀p∈A,GoodR p.1)(hr:GoodR r)(hn: ∀p∈A,rowsF r p.1<0):DataW.insert (ent (r,n)) (A.map ent)=(A.map ent |> fun l=>ent (r,n)::l):=by
 cases A with
 |nil=>rfl
 |cons x t=>
  simp only[List.map_cons,DataW.insert]
  have:(ent (r,n)).1.before (ent x).1=true:=by
   show(kOf r).before (kOf x.1)=true;rw[kOf_before hr (h x (by simp))];exact decide_eq_true (hn x (by simp))
  rw[if_pos this]
theorem mkD_put {A:AV}{r:List Val}{n:Int}(h:Rises A)(hr:GoodR r):(mkD A).put (kOf r) (.lit (.int .i64 n))=mkD (putA A r n):=by
 show DataW.map (DataW.insert (ent (r,n)) ((A.map ent).filter fun p=> !p.1.sameKey (kOf r)))= .map _
 congr 1
 induction A with
 |nil=>rfl
 |cons x t ih=>
  obtain⟨x,m⟩:=x;have hx:GoodR x:=h.good (x,m) (by simp);obtain⟨h1,h2⟩:=List.pairwise_cons.1 h.rise;have h1: ∀p∈t,rowsF x p.1<0:=h1;have hg: ∀p∈t,GoodR p.1:=h.tail.good;unfold putA;by_cases e:rowsF x r=0
  ·have exr:=(rowsF_zero hx hr).1 e
   subst exr;have hgt: ∀p∈t,rowsF x p.1<0:=fun p hp=>h1 p hp;have hne: ∀p∈t,rowsF p.1 x≠0:=fun p hp=>by rw[rowsF_flip hx (hg p hp)];have:=hgt p hp;omega
   rw[if_pos e];simp only[List.map_cons];rw[List.filter_cons_of_neg (by simp[ent,kOf_same hx hr,e]),filter_keep hg hr hne,insert_front hg hr hgt]
  ·rw[if_neg e]
   have hk:(!(ent (x,m)).1.sameKey (kOf r))=true:=by simp[ent,kOf_same hx hr,e]
   simp only[List.map_cons];rw[List.filter_cons_of_pos (p:=fun p:Lit×DataW Unit=> !p.1.sameKey (kOf r)) hk];by_cases l:rowsF x r<0
   ·rw[if_pos l]
    simp only[DataW.insert,List.map_cons]
    have hb:(ent (r,n)).1.before (ent (x,m)).1=false:=by
     show(kOf r).before (kOf x)=false;rw[kOf_before hr hx,rowsF_flip hx hr];exact decide_eq_false (by omega)
    rw[hb,if_neg (by decide),ih h.tail]
   ·rw[if_neg l]
    have hlt:rowsF r x<0:=by rw[rowsF_flip hx hr];omega
    have hgt: ∀p∈t,rowsF r p.1<0:=fun p hp=>rowsF_trans hr hx (hg p hp) hlt (h1 p hp);have hne: ∀p∈t,rowsF p.1 r≠0:=fun p hp=>by rw[rowsF_flip hr (hg p hp)];have:=hgt p hp;omega
    rw[filter_keep hg hr hne]
    have:=insert_front (A:=(x,m)::t) (r:=r) (n:=n) h.good hr (by
     intro p hp;rcases List.mem_cons.1 hp with rfl|hp
     ·exact hlt
     ·exact hgt p hp)
    exact this
theorem mkD_del {A:AV}{r:List Val}(h:Rises A)(hr:GoodR r):(mkD A).del (kOf r)=mkD (delA A r):=by
 show DataW.map ((A.map ent).filter fun p=> !p.1.sameKey (kOf r))= .map _
 congr 1
 induction A with
 |nil=>rfl
 |cons x t ih=>
  obtain⟨x,m⟩:=x;have hx:GoodR x:=h.good (x,m) (by simp);obtain⟨h1,h2⟩:=List.pairwise_cons.1 h.rise;have h1: ∀p∈t,rowsF x p.1<0:=h1;have hg: ∀p∈t,GoodR p.1:=h.tail.good;unfold delA;by_cases e:rowsF x r=0
  ·have exr:=(rowsF_zero hx hr).1 e
   subst exr;have hne: ∀p∈t,rowsF p.1 x≠0:=fun p hp=>by rw[rowsF_flip hx (hg p hp)];have:=h1 p hp;omega
   rw[if_pos e];simp only[List.map_cons];rw[List.filter_cons_of_neg (by simp[ent,kOf_same hx hr,e]),filter_keep hg hr hne]
  ·rw[if_neg e]
   have hk:(!(ent (x,m)).1.sameKey (kOf r))=true:=by simp[ent,kOf_same hx hr,e]
   simp only[List.map_cons];rw[List.filter_cons_of_pos (p:=fun p:Lit×DataW Unit=> !p.1.sameKey (kOf r)) hk,ih h.tail]
theorem put_mem {A:AV}{r:List Val}{n:Int}{p:List Val×Int}(h:p∈putA A r n):p∈A∨p.1=r∧p.2=n∨(p.2=n∧ ∃m,(p.1,m)∈A):=by
 induction A with
 |nil=>simp[putA]at h;subst h;exact .inr (.inl ⟨rfl,rfl⟩)
 |cons x t ih=>
  obtain⟨x,m⟩:=x;unfold putA at h;split at h
  ·rcases List.mem_cons.1 h with rfl|h
   ·exact .inr (.inr ⟨rfl,m,by simp⟩)
   ·exact .inl (by simp[h])
  ·split at h
   ·rcases List.mem_cons.1 h with rfl|h
    ·exact .inl (by simp)
    ·rcases ih h with h|h|⟨h1,m',h2⟩
     ·exact .inl (by simp[h])
     ·exact .inr (.inl h)
     ·exact .inr (.inr ⟨h1,m',by simp[h2]⟩)
   ·rcases List.mem_cons.1 h with rfl|h
    ·exact .inr (.inl ⟨rfl,rfl⟩)
    ·exact .inl h
theorem del_mem {A:AV}{r:List Val}{p:List Val×Int}(h:p∈delA A r):p∈A:=by
 induction A with
 |nil=>exact h
 |cons x t ih=>
  obtain⟨x,m⟩:=x;unfold delA at h;split at h
  ·simp[h]
  ·rcases List.mem_cons.1 h with rfl|h
   ·simp
   ·simp[ih h]
theorem rises_put {A:AV}{r:List Val}{n:Int}(h:Rises A)(hr:GoodR r):Rises (putA A r n):=by
 refine⟨fun p hp=> ?_,?_⟩
 ·rcases put_mem hp with hp|⟨e,-⟩|⟨-,m,hp⟩
  ·exact h.good p hp
  ·rw[e];exact hr
  ·exact h.good (p.1,m) hp
 ·induction A with
  |nil=>simp[putA]
  |cons x t ih=>
   obtain⟨x,m⟩:=x;have hx:GoodR x:=h.good (x,m) (by simp);obtain⟨h1,h2⟩:=List.pairwise_cons.1 h.rise;have h1: ∀p∈t,rowsF x p.1<0:=h1;have hg: ∀p∈t,GoodR p.1:=h.tail.good;unfold putA;split
   ·exact List.pairwise_cons.2 ⟨h1,h2⟩
   ·rename_i e
    split
    ·rename_i l
     refine List.pairwise_cons.2 ⟨fun p hp=> ?_,ih h.tail⟩;rcases put_mem hp with hp|⟨e',-⟩|⟨-,m',hp⟩
     ·exact h1 p hp
     ·rw[e'];exact l
     ·exact h1 (p.1,m') hp
    ·rename_i l
     have hlt:rowsF r x<0:=by rw[rowsF_flip hx hr];omega
     refine List.pairwise_cons.2 ⟨fun p hp=> ?_,h.rise⟩;rcases List.mem_cons.1 hp with rfl|hp
     ·exact hlt
     ·exact rowsF_trans hr hx (hg p hp) hlt (h1 p hp)
theorem rises_del {A:AV}{r:List Val}(h:Rises A):Rises (delA A r):=by
 refine⟨fun p hp=>h.good p (del_mem hp),?_⟩
 induction A with
 |nil=>exact h.rise
 |cons x t ih=>
  obtain⟨x,m⟩:=x;obtain⟨h1,h2⟩:=List.pairwise_cons.1 h.rise;have h1: ∀p∈t,rowsF x p.1<0:=h1;unfold delA;split
  ·exact h2
  ·exact List.pairwise_cons.2 ⟨fun p hp=>h1 p (del_mem hp),ih h.tail⟩
end Go.Proofs.YtjhbeecmdgglgaaGreatDoor
namespace Go.Proofs.YtjhbeecmdgglgaaGreatDoor
structure Tl where
 v:Val
 n:Int
structure Gp where
 r:List Val
 n:Int
 bags:List (List Tl)
def allT (p:Pl):List Int:=p.left++p.right
def ownT (p:Pl):List Int:=p.group.map fun c=>(allT p).getD c.toNat 0
def nullG:Val:=⟨0,0,⟨#[]⟩⟩
def wrapI (n:Int):Int:=IntKind.i64.wrap n
def sumG (bag:List Tl):Int:=bag.foldl (fun s x=>wrapI (s+wrapI (x.v.n*x.n))) 0
def solid (bag:List Tl):List Tl:=match bag with
 |x::t=>if x.v.k=0 then t else x::t
 |[]=>[]
def figG (fn:Int) (n:Int) (bag:List Tl):Val:=
 if fn=1 then⟨2,n,⟨#[]⟩⟩else match solid bag with
 |[]=>nullG
 |x::t=>if fn=3 then x.v else if fn=4 then((x::t).getLast (by simp)).v else⟨2,sumG (x::t),⟨#[]⟩⟩
def rowG (p:Pl) (g:Gp):List Val:=g.r++(p.aggs.zip g.bags).map fun q=>figG q.1.1 g.n q.2
end Go.Proofs.YtjhbeecmdgglgaaGreatDoor
namespace Go.Proofs.YtjhbeecmdgglgaaGreatDoor
open Go.RowKit
structure Cnt where
 v:Value
 r:List Val
 n:Int
def Cnt.cells (c:Cnt):List Value:=[c.v,.int .i64 c.n]
theorem Cnt.cells_len (c:Cnt):c.cells.length=2:=rfl
def cntCells (l:List Cnt):List Value:=l.flatMap Cnt.cells
structure View (w:World) (v:Value) (l:List Cnt):Prop where
 sl:Sl w v l.length (cntCells l)
 rows: ∀c∈l,Sl w c.v c.r.length (rowCells c.r)
theorem View.below {w w':World}{v:Value}{l:List Cnt}(h:View w v l)(hb:Below w.heap.size w w'):View w' v l:=⟨h.sl.below hb,fun c hc=>(h.rows c hc).below hb⟩
theorem View.drew {w:World}{v:Value}{l:List Cnt}(h:View w v l):View w.drew v l:=⟨h.sl,h.rows⟩
structure FineV (l:List Cnt):Prop where
 rows: ∀c∈l,Fine c.r
 nums: ∀c∈l,-9223372036854775808≤c.n∧c.n≤9223372036854775807
def av (l:List Cnt):AV:=l.map fun c=>(c.r,c.n)
theorem cnt_at {w:World}{l:List Cnt}{v:Value}(h:Sl w v l.length (cntCells l)){A:Option Addr}{n c:Nat}(hv:v= .slice A n c){k:Nat}{x:Cnt}(hk:l[k]?=some x):
 ∃b off,A=some ⟨b,off,none⟩∧b<w.heap.size∧ ∀w',Below w.heap.size w w'→
  w'.cell? ⟨b,off+k*2,none⟩=some x.v∧w'.cell? ⟨b,off+k*2+1,none⟩=some (.int .i64 x.n):=by
 obtain⟨A',c',hv',h1,h2,-,h3⟩:=h;rw[hv]at hv';injection hv' with e1 e2 e3;subst e1;have a1:=flat_at Cnt.cells_len l k 0 (by omega);have a2:=flat_at Cnt.cells_len l k 1 (by omega);rw[hk]at a1 a2;simp only[Option.bind_some,Nat.add_zero]at a1 a2;obtain⟨b,off,hA,hc⟩:=h3 (by intro h0;rw[show l.flatMap Cnt.cells=cntCells l from rfl,h0]at a1;simp[Cnt.cells]at a1);have c1:=hc _ _ a1;have c2:=hc _ _ a2;exact⟨b,off,hA,World.block_lt_of_cell? w _ c1,fun w' hb=>⟨cell_below hb c1,cell_below hb c2⟩⟩
def okC (c:Cnt):Bool:=(keyErr c.r==0)&&btw c.n 1 1073741824
def okAt (l:List Cnt) (k:Nat):Bool:=
 match l[k]? with
 |none=>true
 |some c=>okC c&&(if k=0 then true else match l[k-1]? with
  |none=>true
  |some d=>decide (rowsF d.r c.r<0))
def chkV (l:List Cnt):Int:=if 4096<l.length then 2 else if allB (okAt l) (List.range l.length)then 0 else 1
theorem okAt_zero {l:List Cnt}{c:Cnt}(h:l[0]?=some c):okAt l 0=okC c:=by simp[okAt,h]
theorem okAt_succ {l:List Cnt}{k:Nat}{c d:Cnt}(h:l[k+1]?=some c)(hd:l[k]?=some d):okAt l (k+1)=(okC c&&decide (rowsF d.r c.r<0)):=by simp[okAt,h,hd]
theorem range_at {n k:Nat}(h:k<n):(List.range n)[k]?=some k:=by simp[h]
theorem chk_bad {l:List Cnt}{k:Nat}(h0: ¬4096<l.length)(hk:k<l.length)(h:okAt l k=false):chkV l=1:=by
 unfold chkV;rw[if_neg h0,all_no (range_at hk) h];rfl
theorem chk_good {l:List Cnt}(h0: ¬4096<l.length)(h: ∀j∈(List.range l.length).take l.length,okAt l j=true):chkV l=0:=by
 unfold chkV;rw[if_neg h0,all_yes (f:=okAt l) (by rwa[List.length_range])];rfl
structure GoodV (l:List Cnt):Prop where
 few:l.length≤4096
 rises:Rises (av l)
 nums: ∀p∈av l,1≤p.2∧p.2≤1073741824
theorem chk_zero {l:List Cnt}(hf:FineV l)(h:chkV l=0):GoodV l:=by
 unfold chkV at h;by_cases h0:4096<l.length
 ·rw[if_pos h0]at h;omega
 ·rw[if_neg h0]at h
  have hall:allB (okAt l) (List.range l.length)=true:=by
   cases hb:allB (okAt l) (List.range l.length)
   ·rw[hb]at h;simp at h
   ·rfl
  rw[allB,List.all_eq_true]at hall
  have hok: ∀k c,l[k]?=some c→okC c=true∧(k≠0→ ∀d,l[k-1]?=some d→rowsF d.r c.r<0):=by
   intro k c hc;have hk:=(List.getElem?_eq_some_iff.1 hc).1;have:=hall k (List.mem_range.2 hk);unfold okAt at this;rw[hc]at this;simp only[Bool.and_eq_true]at this;refine⟨this.1,fun hk0 d hd=> ?_⟩;have h2:=this.2;rw[if_neg hk0,hd]at h2;simpa using h2
  have hgood: ∀c∈l,GoodR c.r∧1≤c.n∧c.n≤1073741824:=by
   intro c hc;obtain⟨k,hk⟩:=List.getElem?_of_mem hc;have:=(hok k c hk).1;unfold okC at this;rw[Bool.and_eq_true,beq_iff_eq]at this;have hb:=btw_of this.2;exact⟨goodR_of (hf.rows c hc) this.1,hb.1,hb.2⟩
  refine⟨by omega,⟨fun p hp=> ?_,?_⟩,fun p hp=> ?_⟩
  ·obtain⟨c,hc,rfl⟩:=List.mem_map.1 hp
   exact(hgood c hc).1
  ·unfold av
   rw[List.pairwise_map,List.pairwise_iff_getElem];intro i j hi hj hij
   have step: ∀n i (hi:i<l.length) (hj:i+n+1<l.length),rowsF (l[i]).r (l[i+n+1]).r<0:=by
    intro n
    induction n with
    |zero=>
     intro i hi hj;exact(hok (i+1) _ (List.getElem?_eq_getElem hj)).2 (by omega) _ (List.getElem?_eq_getElem hi)
    |succ n ih=>
     intro i hi hj;have h1:=ih i hi (by omega);have h2:=(hok (i+(n+1)+1) _ (List.getElem?_eq_getElem hj)).2 (by omega) _ (List.getElem?_eq_getElem (show i+n+1<l.length by omega));exact rowsF_trans (hgood _ (List.getElem_mem _)).1 (hgood _ (List.getElem_mem _)).1 (hgood _ (List.getElem_mem _)).1 h1 h2
   have:=step (j-i-1) i hi (by omega);simpa[show i+(j-i-1)+1=j by omega]using this
  ·obtain⟨c,hc,rfl⟩:=List.mem_map.1 hp
   exact(hgood c hc).2
theorem str_less {a b:List Val}(ha:GoodR a)(hb:GoodR b):Op.bytesLess (str (keyRow a)).toList (str (keyRow b)).toList=decide (rowsF a b<0):=by rw[str_toList,str_toList];exact key_less ha.good hb.good
theorem str_same {a b:List Val}(ha:GoodR a)(hb:GoodR b):((str (keyRow a)).toList==(str (keyRow b)).toList)=decide (rowsF a b=0):=by rw[str_toList,str_toList];exact key_same ha.good hb.good
def lastKey (l:List Cnt) (k:Nat):ByteArray:=if k=0 then⟨#[]⟩else match l[k-1]? with|none=>⟨#[]⟩|some c=>str (keyRow c.r)
end Go.Proofs.YtjhbeecmdgglgaaGreatDoor
namespace Go.Proofs.YtjhbeecmdgglgaaGreatDoor
open Go.RowKit
structure Chn where
 v:Value
 r:List Val
 k:Int
def Chn.cells (c:Chn):List Value:=[.int .i64 c.k,c.v]
theorem Chn.cells_len (c:Chn):c.cells.length=2:=rfl
def chnCells (l:List Chn):List Value:=l.flatMap Chn.cells
structure Chs (w:World) (v:Value) (l:List Chn):Prop where
 sl:Sl w v l.length (chnCells l)
 rows: ∀c∈l,Sl w c.v c.r.length (rowCells c.r)
theorem Chs.below {w w':World}{v:Value}{l:List Chn}(h:Chs w v l)(hb:Below w.heap.size w w'):Chs w' v l:=⟨h.sl.below hb,fun c hc=>(h.rows c hc).below hb⟩
theorem Chs.drew {w:World}{v:Value}{l:List Chn}(h:Chs w v l):Chs w.drew v l:=⟨h.sl,h.rows⟩
theorem Chs.nil (w:World):Chs w (.slice none 0 0) []:=⟨Sl.nil_ w,nofun⟩
structure FineC (l:List Chn):Prop where
 rows: ∀c∈l,Fine c.r
 nums: ∀c∈l,-9223372036854775808≤c.k∧c.k≤9223372036854775807
def ac (l:List Chn):List (Int×List Val):=l.map fun c=>(c.k,c.r)
theorem chn_at {w:World}{l:List Chn}{v:Value}(h:Sl w v l.length (chnCells l)){A:Option Addr}{n c:Nat}(hv:v= .slice A n c){k:Nat}{x:Chn}(hk:l[k]?=some x):
 ∃b off,A=some ⟨b,off,none⟩∧b<w.heap.size∧ ∀w',Below w.heap.size w w'→
  w'.cell? ⟨b,off+k*2,none⟩=some (.int .i64 x.k)∧w'.cell? ⟨b,off+k*2+1,none⟩=some x.v:=by
 obtain⟨A',c',hv',h1,h2,-,h3⟩:=h;rw[hv]at hv';injection hv' with e1 e2 e3;subst e1;have a1:=flat_at Chn.cells_len l k 0 (by omega);have a2:=flat_at Chn.cells_len l k 1 (by omega);rw[hk]at a1 a2;simp only[Option.bind_some,Nat.add_zero]at a1 a2;obtain⟨b,off,hA,hc⟩:=h3 (by intro h0;rw[show l.flatMap Chn.cells=chnCells l from rfl,h0]at a1;simp[Chn.cells]at a1);have c1:=hc _ _ a1;have c2:=hc _ _ a2;exact⟨b,off,hA,World.block_lt_of_cell? w _ c1,fun w' hb=>⟨cell_below hb c1,cell_below hb c2⟩⟩
def kAt (l:List Chn) (i:Nat):Int:=match l[i]? with|some c=>c.k|none=>0
def errAt (l:List Chn) (i:Nat):Int:=match l[i]? with
 |none=>0
 |some c=>if btw c.k 1 4=false then 4 else if keyErr c.r≠0 then keyErr c.r else if(c.k=3∧kAt l (i+1)≠4)∨(c.k=4∧(i=0∨kAt l (i-1)≠3))then 6 else 0
def formC (l:List Chn):Int:=if 4096<l.length then 2 else firstNZ ((List.range l.length).map (errAt l))
theorem form_bad {l:List Chn}{k:Nat}{e:Int}(h0: ¬4096<l.length)(hk:k<l.length)(hpre: ∀j,j<k→errAt l j=0)(he:errAt l k=e)(hne:e≠0):formC l=e:=by
 unfold formC;rw[if_neg h0];refine firstNZ_hit (k:=k) (fun x hx=> ?_) (by simp[hk,he]) hne;rw[←List.map_take,List.mem_map]at hx;obtain⟨j,hj,rfl⟩:=hx;rw[List.take_range,List.mem_range]at hj;exact hpre j (by omega)
theorem form_good {l:List Chn}(h0: ¬4096<l.length)(hpre: ∀j,j<l.length→errAt l j=0):formC l=0:=by
 unfold formC;rw[if_neg h0];refine firstNZ_none (fun x hx=> ?_);obtain⟨j,hj,rfl⟩:=List.mem_map.1 hx;exact hpre j (List.mem_range.1 hj)
theorem kAt_some {l:List Chn}{i:Nat}{x:Chn}(h:l[i]?=some x):kAt l i=x.k:=by simp[kAt,h]
theorem kAt_none {l:List Chn}{i:Nat}(h:l.length≤i):kAt l i=0:=by simp[kAt,List.getElem?_eq_none h]
def openAt (l:List Chn):Nat→Bool
 |0=>false
 |k+1=>decide (kAt l k=3)
theorem open_next {l:List Chn}{k:Nat}(hpre: ∀j,j<k→errAt l j=0)(ho:openAt l k=true):k≠0∧kAt l (k-1)=3∧kAt l k=4:=by
 cases k with
 |zero=>simp[openAt]at ho
 |succ k=>
  have h3:kAt l k=3:=of_decide_eq_true ho;refine⟨by omega,h3,?_⟩;have he:=hpre k (by omega);unfold errAt at he;cases hx:l[k]? with
  |none=>simp[kAt,hx]at h3
  |some c=>
   have hc:c.k=3:=by rw[←kAt_some hx];exact h3
   rw[hx]at he;simp only[hc]at he;have:btw 3 1 4=true:=by decide
   rw[this]at he;by_cases hk:keyErr c.r=0
   ·by_cases h4:kAt l (k+1)=4
    ·exact h4
    ·simp[hk,h4]at he
   ·simp[hk]at he
theorem open_not {l:List Chn}{k:Nat}(ho:openAt l k=false):k=0∨kAt l (k-1)≠3:=by
 cases k with
 |zero=>exact .inl rfl
 |succ k=>exact .inr (of_decide_eq_false ho)
theorem err_one {l:List Chn}{i:Nat}{c:Chn}(h:l[i]?=some c)(hk:c.k<1∨4<c.k):errAt l i=4:=by
 unfold errAt;rw[h];simp only[btw_no hk,if_true]
theorem err_two {l:List Chn}{i:Nat}{c:Chn}(h:l[i]?=some c)(h1:1≤c.k)(h2:c.k≤4)(hy:keyErr c.r≠0):errAt l i=keyErr c.r:=by
 unfold errAt;rw[h];simp[btw_yes h1 h2,hy]
theorem err_six {l:List Chn}{i:Nat}{c:Chn}(h:l[i]?=some c)(h1:1≤c.k)(h2:c.k≤4)(hy:keyErr c.r=0)(h6:(c.k=3∧kAt l (i+1)≠4)∨(c.k=4∧(i=0∨kAt l (i-1)≠3))):errAt l i=6:=by
 unfold errAt;rw[h];simp only[btw_yes h1 h2,hy];rw[if_neg (by simp),if_neg (by simp),if_pos h6]
theorem err_no {l:List Chn}{i:Nat}{c:Chn}(h:l[i]?=some c)(h1:1≤c.k)(h2:c.k≤4)(hy:keyErr c.r=0)(h6: ¬((c.k=3∧kAt l (i+1)≠4)∨(c.k=4∧(i=0∨kAt l (i-1)≠3)))):errAt l i=0:=by
 unfold errAt;rw[h];simp only[btw_yes h1 h2,hy];rw[if_neg (by simp),if_neg (by simp),if_neg h6]
theorem pre_more {l:List Chn}{k:Nat}(h: ∀j,j<k→errAt l j=0)(hk:errAt l k=0): ∀j,j<k+1→errAt l j=0:=by
 intro j hj;by_cases e:j=k
 ·rw[e];exact hk
 ·exact h j (by omega)
theorem keyErr_ok {r:List Val}(h:keyErr r=0):keyR r=(str (keyRow r),0):=if_neg (by rw[h];simp)
theorem keyErr_bad {r:List Val}(h:keyErr r≠0):keyR r=(⟨#[]⟩,keyErr r):=if_pos h
set_option maxHeartbeats 4000000 in
set_option maxRecDepth 10000 in
theorem cform_any (v:Value)(l:List Chn)(w:World)(h:Chs w v l)(hf:FineC l)(hm:Mx w):
 Calls Tryz.prog 29 #[v] w fun e w'=>e= .returned (.int .i64 (formC l))∧Below w.heap.size w w':=by
 have HV:=Lib.hid h;have HF:=Lib.hid hf;have HM:=Lib.hid hm;obtain⟨A,c,rfl,h1,h2,-⟩:=h.sl;clear h hf hm;unfold maxLen at h2;by_cases hn:4096<l.length
 ·have e1:=Lib.hid (show formC l=2 from if_pos hn)
  go_enter Tryz.func29,Tryz.ntmps29
  go_wp2;go_ret;exact⟨ret_int (by rw[e1.out]),Below.refl _ _⟩
 ·have HBAD:=Lib.hid (fun k e=>form_bad (l:=l) (k:=k) (e:=e) hn)
  have HGOOD:=Lib.hid (form_good (l:=l) hn);generalize formC l=R at HBAD HGOOD⊢;go_enter Tryz.func29,Tryz.ntmps29
  go_wp2_with fail
  go_loopw[3,4,5,6,7,13] (fun op _ _ _ _ i wr=> ∃k:Nat,k≤l.length∧i= .int .i64 k∧op= .bool (openAt l k)∧Hid (∀j,j<k→errAt l j=0)∧Below w.heap.size w wr) (fun _ _ _ _ _ i _=>l.length-(intOf i).toNat)
  case atStart=>exact⟨0,by omega,rfl,rfl,Lib.hid (fun j hj=>by omega),Below.refl _ _⟩
  case round=>
   obtain⟨k,hk,rfl,rfl,H,hbw⟩:=hrel;by_cases hlt:k<l.length
   ·have hx:=List.getElem?_eq_getElem (l:=l) hlt
    generalize l[k]=x at hx;obtain⟨g,off,rfl,-,hc⟩:=chn_at HV.out.sl rfl hx;obtain⟨d1,d2⟩:=hc _ hbw;have hmem:=List.mem_of_getElem? hx;have HRW:=Lib.hid (HV.out.rows x hmem);have HFX:=Lib.hid (HF.out.rows x hmem);have hxn:=HF.out.nums x hmem;have HX:=Lib.hid hx;have HO:=Lib.hid (fun ho=>open_next (l:=l) (k:=k) H.out ho);have HO':=Lib.hid (fun ho=>open_not (l:=l) (k:=k) ho);have HON:Hid (openAt l (k+1)=decide (x.k=3)):=Lib.hid (by show decide (kAt l k=3)=_;rw[kAt_some hx]);generalize openAt l k=o at HO HO'⊢;clear hx hc hmem;obtain⟨xv,xr,xk⟩:=x;simp only at d1 d2 HRW HFX hxn HON;obtain⟨Ax,cx,rfl,-⟩:=id HRW.out;have hbw2:=hbw.alloc hbw.size (.cells #[.int .i64 xk,.slice Ax xr.length cx] 48);have HSX:=Lib.hid (HRW.out.below hbw2);have kb:=(Blk.new wr 48 #[.int .i64 xk,.slice Ax xr.length cx]);by_cases q1:xk<1
    ·have EE:=Lib.hid (HBAD.out k 4 hlt H.out (err_one HX.out (.inl q1)) (by omega))
     clear HO HO' HON;go_wp2;go_ret;exact⟨ret_int (by rw[EE.out]),hbw2⟩
    ·by_cases q2:4<xk
     ·have EE:=Lib.hid (HBAD.out k 4 hlt H.out (err_one HX.out (.inr q2)) (by omega))
      clear HO HO' HON;go_wp2;go_ret;exact⟨ret_int (by rw[EE.out]),hbw2⟩
     ·by_cases hy:keyErr xr=0
      ·have HKE:=Lib.hid (keyErr_ok hy)
       have HY:=Lib.hid hy;clear hy
       go_wp2_with fail
       refine(key_any _ xr _ HSX.out HFX.out (HM.out.below hbw2)).mono ?_;rw[HKE.out];rintro e w2 ⟨rfl,hb2⟩;have y0:=(kb.below hb2).cell 0 _ rfl;have hbw3:=below_trans hbw2 hb2;have hq:xk=1∨xk=2∨xk=3∨xk=4:=by omega
       clear q1 q2 hxn;rcases hq with rfl|rfl|rfl|rfl
       ·cases o
        ·have HZ:=Lib.hid (err_no HX.out (by simp) (by simp) HY.out (by simp))
         clear HO HO';go_wp2;go_roundw
         case rel=>exact⟨k+1,by omega,by go_num,by rw[HON.out];rfl,Lib.hid (pre_more H.out HZ.out),hbw3⟩
         case measure=>simp[intOf];omega
        ·exact absurd (HO.out rfl).2.2 (by rw[kAt_some HX.out];simp)
       ·cases o
        ·have HZ:=Lib.hid (err_no HX.out (by simp) (by simp) HY.out (by simp))
         clear HO HO';go_wp2;go_roundw
         case rel=>exact⟨k+1,by omega,by go_num,by rw[HON.out];rfl,Lib.hid (pre_more H.out HZ.out),hbw3⟩
         case measure=>simp[intOf];omega
        ·exact absurd (HO.out rfl).2.2 (by rw[kAt_some HX.out];simp)
       ·cases o
        ·clear HO HO'
         by_cases hl2:k+1<l.length
         ·have hx2:=List.getElem?_eq_getElem (l:=l) hl2
          generalize l[k+1]=x2 at hx2;obtain⟨g2,off2,hg2,-,hc2⟩:=chn_at HV.out.sl rfl hx2;injection hg2 with hg2;injection hg2 with hg2 hg3;subst hg2;subst hg3;have d3:=(hc2 _ hbw3).1;rw[show off+(k+1)*2=off+(k+1)*2 from rfl]at d3;have HK2:=Lib.hid (kAt_some hx2);clear hx2 hc2;generalize x2.k=y2 at d3 HK2;have hw:IntKind.i64.wrap ((k:Int)+1)=(k:Int)+1:=by rw[IntKind.wrap_i64];omega
          have hw1:((k:Int)+1).toNat=k+1:=by omega
          have i1:(0:Int)≤(k:Int)+1:=by omega
          have i2:(k:Int)+1<(l.length:Int):=by omega
          have i3:((k:Int)+1==(l.length:Int))=false:=beqF (by omega);by_cases q4:y2=4
          ·have HZ:=Lib.hid (err_no HX.out (by simp) (by simp) HY.out (by rintro(⟨-,h⟩|⟨h,-⟩);exact h (by rw[HK2.out];exact q4);exact absurd h (by simp)))
           subst q4;go_wp2;go_roundw
           case rel=>exact⟨k+1,by omega,by go_num,by rw[HON.out];rfl,Lib.hid (pre_more H.out HZ.out),hbw3⟩
           case measure=>simp[intOf];omega
          ·have EE:=Lib.hid (HBAD.out k 6 hlt H.out (err_six HX.out (by simp) (by simp) HY.out (.inl ⟨rfl,by rw[HK2.out];exact q4⟩)) (by decide))
           have q4':=beqF q4;go_wp2;go_ret;exact⟨ret_int (by rw[EE.out]),hbw3⟩
         ·have hke:l.length=k+1:=by omega
          have HKE2:=Lib.hid hke;have EE:=Lib.hid (HBAD.out k 6 hlt H.out (err_six HX.out (by simp) (by simp) HY.out (.inl ⟨rfl,by rw[kAt_none (by omega)];decide⟩)) (by decide));have hw:IntKind.i64.wrap ((k:Int)+1)=(k:Int)+1:=by rw[IntKind.wrap_i64];omega
          have i3:((k:Int)+1==(l.length:Int))=true:=beqT (by omega);clear hke;go_wp2;go_ret;exact⟨ret_int (by rw[EE.out]),hbw3⟩
        ·exact absurd (HO.out rfl).2.2 (by rw[kAt_some HX.out];simp)
       ·cases o
        ·have EE:=Lib.hid (HBAD.out k 6 hlt H.out (err_six HX.out (by simp) (by simp) HY.out (.inr ⟨rfl,HO'.out rfl⟩)) (by decide))
         clear HO HO';go_wp2;go_ret;exact⟨ret_int (by rw[EE.out]),hbw3⟩
        ·have HZ:=Lib.hid (err_no HX.out (by simp) (by simp) HY.out (by rintro(⟨h,-⟩|⟨-,h|h⟩);exact absurd h (by simp);exact absurd h (HO.out rfl).1;exact h (HO.out rfl).2.1))
         clear HO HO';go_wp2;go_roundw
         case rel=>exact⟨k+1,by omega,by go_num,by rw[HON.out];rfl,Lib.hid (pre_more H.out HZ.out),hbw3⟩
         case measure=>simp[intOf];omega
      ·have EE:=Lib.hid (HBAD.out k _ hlt H.out (err_two HX.out (show(1:Int)≤xk by omega) (show xk≤4 by omega) hy) hy)
       have HKE:=Lib.hid (keyErr_bad hy);have hy':=beqF hy;simp only at EE;generalize keyErr xr=y at EE HKE hy';clear HO HO' HON hy
       go_wp2_with fail
       refine(key_any _ xr _ HSX.out HFX.out (HM.out.below hbw2)).mono ?_;rw[HKE.out];rintro e w2 ⟨rfl,hb2⟩;have hbw3:=below_trans hbw2 hb2;go_wp2;go_ret;exact⟨ret_int (by rw[EE.out]),hbw3⟩
   ·obtain rfl:k=l.length:=by omega
    have EE:=Lib.hid (HGOOD.out H.out);go_wp2;go_ret;exact⟨ret_int (by rw[EE.out]),hbw⟩
end Go.Proofs.YtjhbeecmdgglgaaGreatDoor
namespace Go.Proofs.YtjhbeecmdgglgaaGreatDoor
open Go.RowKit
end Go.Proofs.YtjhbeecmdgglgaaGreatDoor
namespace Go.Proofs.YtjhbeecmdgglgaaGreatDoor
open Go.RowKit Go.Maps
def stepI (k:Int):Int:=if k=1∨k=4 then 1 else-1
theorem stepI_two (k:Int):stepI k=1∨stepI k= -1:=by unfold stepI;split<;>simp
set_option maxHeartbeats 1000000 in
theorem cstep_any (k:Int)(v:Value)(w:World)(h1:1≤k)(h4:k≤4):
 Calls Tryz.prog 72 #[.agg #[.int .i64 k,v]] w fun e w'=>e= .returned (.int .i64 (stepI k))∧Below w.heap.size w w':=by
 have hq:k=1∨k=2∨k=3∨k=4:=by omega
 have hB:=below_alloc w (.cells #[.int .i64 k,v] 48);rcases hq with rfl|rfl|rfl|rfl<;>
 ·go_enter Tryz.func72,Tryz.ntmps72
  go_wp2;go_ret;exact⟨rfl,hB⟩
structure GoodC (l:List Chn):Prop where
 few:l.length≤4096
 good: ∀c∈l,GoodR c.r∧1≤c.k∧c.k≤4
theorem err_zero {l:List Chn}{i:Nat}{c:Chn}(h:l[i]?=some c)(he:errAt l i=0):keyErr c.r=0∧1≤c.k∧c.k≤4:=by
 by_cases h1:c.k<1∨4<c.k
 ·rw[err_one h h1]at he;omega
 ·by_cases hy:keyErr c.r=0
  ·exact⟨hy,by omega,by omega⟩
  ·rw[err_two h (by omega) (by omega) hy]at he;exact absurd he hy
theorem form_errs {l:List Chn}(h:formC l=0):l.length≤4096∧ ∀i,i<l.length→errAt l i=0:=by
 have h0: ¬4096<l.length:=by
  intro h0;unfold formC at h;rw[if_pos h0]at h;omega
 refine⟨by omega,fun i=> ?_⟩
 induction i using Nat.strongRecOn with
 |ind i ih=>
  intro hi;by_cases e:errAt l i=0
  ·exact e
  ·have:=form_bad h0 hi (fun j hj=>ih j hj (by omega)) rfl e
   rw[h]at this;exact absurd this.symm e
theorem form_zero {l:List Chn}(hf:FineC l)(h:formC l=0):GoodC l:=by
 obtain⟨h1,h2⟩:=form_errs h;refine⟨h1,fun c hc=> ?_⟩;obtain⟨i,hi,rfl⟩:=List.mem_iff_getElem.1 hc;have:=err_zero (List.getElem?_eq_getElem hi) (h2 i hi);exact⟨goodR_of (hf.rows _ hc) this.1,this.2⟩
end Go.Proofs.YtjhbeecmdgglgaaGreatDoor
