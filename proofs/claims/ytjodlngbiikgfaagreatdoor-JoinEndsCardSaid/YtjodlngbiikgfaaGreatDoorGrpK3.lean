/-The reference's front and Back: the plain law (what is read is what decG reads). The plain law: the order of keys is the order of rows. Views and pile -/
import Derived.Test.YtjodlngbiikgfaaGreatDoorGrpK2
import Derived.Maps.Views
import Derived.Maps.OwnSet
set_option linter.unusedSimpArgs false
set_option linter.unusedVariables false
namespace Go.Proofs.YtjodlngbiikgfaaGreatDoor
open Go.RowKit
theorem cell2 (r:List UInt8):cellF (2::r)=if 8≤r.length then some (⟨2,(be8N (r.take 8):Int)-9223372036854775808,⟨#[]⟩⟩,9)else none:=rfl
end Go.Proofs.YtjodlngbiikgfaaGreatDoor
namespace Go.Proofs.YtjodlngbiikgfaaGreatDoor
open Go.RowKit
open Go.Lib (compareBytes)
theorem u8_lt {a b:UInt8}:a<b↔a.toNat<b.toNat:=UInt8.lt_iff_toNat_lt
theorem u8_lt_irr (a:UInt8): ¬a<a:=by rw[u8_lt];omega
theorem cb_lt {x y:UInt8}(a b:List UInt8)(h:x<y):compareBytes (x::a) (y::b)= -1:=by rw[compareBytes,if_pos h]
theorem cb_gt {x y:UInt8}(a b:List UInt8)(h:y<x):compareBytes (x::a) (y::b)=1:=by
 rw[compareBytes,if_neg,if_pos h];rw[u8_lt]at*;omega
theorem cb_same (x:UInt8)(a b:List UInt8):compareBytes (x::a) (x::b)=compareBytes a b:=by
 rw[compareBytes,if_neg (u8_lt_irr x),if_neg (u8_lt_irr x)]
theorem cb_prefix (p a b:List UInt8):compareBytes (p++a) (p++b)=compareBytes a b:=by
 induction p with
 |nil=>rfl
 |cons x p ih=>rw[List.cons_append,List.cons_append,cb_same,ih]
theorem cb_self (a:List UInt8):compareBytes a a=0:=by
 have:=cb_prefix a [] [];simpa[compareBytes]using this
theorem cb_zero {a b:List UInt8}(h:compareBytes a b=0):a=b:=by
 induction a generalizing b with
 |nil=>cases b with
  |nil=>rfl
  |cons y b=>simp[compareBytes]at h
 |cons x a ih=>
  cases b with
  |nil=>simp[compareBytes]at h
  |cons y b=>
   rcases Nat.lt_trichotomy x.toNat y.toNat with hl|he|hg
   ·rw[cb_lt _ _ (u8_lt.2 hl)]at h;simp at h
   ·obtain rfl:=UInt8.toNat_inj.1 he
    rw[cb_same]at h;rw[ih h]
   ·rw[cb_gt _ _ (u8_lt.2 hg)]at h;simp at h
theorem be8N_cons (x:UInt8)(a:List UInt8):be8N (x::a)=x.toNat*256 ^ a.length+be8N a:=by
 unfold be8N
 have h: ∀(l:List UInt8) (m:Nat),l.foldl (fun m b=>m*256+b.toNat) m=m*256 ^ l.length+l.foldl (fun m b=>m*256+b.toNat) 0:=by
  intro l
  induction l with
  |nil=>intro m;simp
  |cons y l ih=>
   intro m;rw[List.foldl_cons,List.foldl_cons,ih,ih (0*256+y.toNat),List.length_cons,Nat.pow_succ,Nat.zero_mul,Nat.zero_add,Nat.add_mul];rw[←Nat.add_assoc,Nat.mul_assoc,Nat.mul_comm 256]
 rw[List.foldl_cons,h];simp
theorem be8N_lt (l:List UInt8):be8N l<256 ^ l.length:=by
 induction l with
 |nil=>decide
 |cons x l ih=>
  rw[be8N_cons,List.length_cons,Nat.pow_succ];have:=x.toNat_lt;have h2:x.toNat*256 ^ l.length≤255*256 ^ l.length:=Nat.mul_le_mul_right _ (by omega);omega
theorem cb_num (a b r t:List UInt8)(h:a.length=b.length):compareBytes (a++r) (b++t)=if be8N a<be8N b then-1 else if be8N b<be8N a then 1 else compareBytes r t:=by
 induction a generalizing b with
 |nil=>
  obtain rfl:b=[]:=List.length_eq_zero_iff.1 (by simpa using h.symm);simp[be8N]
 |cons x a ih=>
  cases b with
  |nil=>simp at h
  |cons y b=>
   have hl:a.length=b.length:=by simpa using h
   have ha:=be8N_lt a;have hb:=be8N_lt b;rw[be8N_cons,be8N_cons,hl,List.cons_append,List.cons_append];rw[hl]at ha;rcases Nat.lt_trichotomy x.toNat y.toNat with h1|h1|h1
   ·rw[cb_lt _ _ (u8_lt.2 h1),if_pos]
    have:(x.toNat+1)*256 ^ b.length≤y.toNat*256 ^ b.length:=Nat.mul_le_mul_right _ h1;rw[Nat.add_mul]at this;omega
   ·obtain rfl:=UInt8.toNat_inj.1 h1
    rw[cb_same,ih b hl];by_cases hq:be8N a<be8N b
    ·rw[if_pos hq,if_pos (by omega)]
    ·by_cases hq2:be8N b<be8N a
     ·rw[if_neg hq,if_pos hq2,if_neg (by omega),if_pos (by omega)]
     ·rw[if_neg hq,if_neg hq2,if_neg (by omega),if_neg (by omega)]
   ·rw[cb_gt _ _ (u8_lt.2 h1)]
    have:(y.toNat+1)*256 ^ b.length≤x.toNat*256 ^ b.length:=Nat.mul_le_mul_right _ h1;rw[Nat.add_mul]at this;rw[if_neg (by omega),if_pos (by omega)]
theorem cb_esc (s t r q:List UInt8):compareBytes (esc s++(0::1::r)) (esc t++(0::1::q))=if s=t then compareBytes r q else compareBytes s t:=by
 have pos: ∀c:UInt8,c≠0→(0:UInt8)<c:=by
  intro c hc;rw[u8_lt];have:c.toNat≠0:=fun h=>hc (UInt8.toNat_inj.1 h);show 0<c.toNat;omega
 induction s generalizing t with
 |nil=>
  cases t with
  |nil=>rw[if_pos rfl,cb_prefix];rw[cb_same,cb_same]
  |cons d t=>
   rw[if_neg (by simp),esc_cons];show compareBytes (0::1::r) _= -1;by_cases hd:d=0
   ·subst hd
    rw[if_pos rfl];show compareBytes (0::1::r) (0::255::_)= -1;rw[cb_same,cb_lt _ _ (by decide)]
   ·rw[if_neg hd]
    exact cb_lt _ _ (pos d hd)
 |cons c s ih=>
  cases t with
  |nil=>
   rw[if_neg (by simp),esc_cons];show compareBytes _ (0::1::q)=1;by_cases hd:c=0
   ·subst hd
    rw[if_pos rfl];show compareBytes (0::255::_) (0::1::q)=1;rw[cb_same,cb_gt _ _ (by decide)]
   ·rw[if_neg hd]
    exact cb_gt _ _ (pos c hd)
  |cons d t=>
   by_cases hcd:c=d
   ·subst hcd
    rw[esc_cons,esc_cons,List.append_assoc,List.append_assoc,cb_prefix,ih t,cb_same];by_cases hst:s=t
    ·rw[if_pos hst,if_pos (by rw[hst])]
    ·rw[if_neg hst,if_neg (by simpa using hst)]
   ·rw[if_neg (by simp[hcd])]
    have hne:c.toNat≠d.toNat:=fun h=>hcd (UInt8.toNat_inj.1 h);rcases Nat.lt_or_ge c.toNat d.toNat with h1|h1
    ·have hd:d≠0:=by
      rintro rfl;have:(0:UInt8).toNat=0:=rfl;omega
     rw[cb_lt _ _ (u8_lt.2 h1),esc_cons,esc_cons,if_neg hd];by_cases hc:c=0
     ·subst hc
      rw[if_pos rfl];exact cb_lt _ _ (u8_lt.2 h1)
     ·rw[if_neg hc]
      exact cb_lt _ _ (u8_lt.2 h1)
    ·have h2:d.toNat<c.toNat:=by omega
     have hc:c≠0:=by
      rintro rfl;have:(0:UInt8).toNat=0:=rfl;omega
     rw[cb_gt _ _ (u8_lt.2 h2),esc_cons,esc_cons,if_neg hc];by_cases hd:d=0
     ·subst hd
      rw[if_pos rfl];exact cb_gt _ _ (u8_lt.2 h2)
     ·rw[if_neg hd]
      exact cb_gt _ _ (u8_lt.2 h2)
theorem ordI_lt {a b:Int}(h:a<b):ordI a b= -1:=by unfold ordI;rw[if_pos h]
theorem ordI_gt {a b:Int}(h:b<a):ordI a b=1:=by unfold ordI;rw[if_neg (by omega),if_pos h]
theorem ordI_self (a:Int):ordI a a=0:=by unfold ordI;rw[if_neg (by omega),if_neg (by omega)]
theorem cmpB_self (s:ByteArray):cmpB s s=0:=by rw[←compare_eq,cb_self]
theorem cmpV_self (x:Val):cmpV x x=0:=by
 unfold cmpV;rw[ordI_self,ordI_self,cmpB_self];rfl
theorem keyCell_hd (x:Val): ∃q,keyCell x=UInt8.ofNat x.k.toNat::q:=⟨_,rfl⟩
theorem cmpV_n {x y:Val}(h:x.k=y.k)(hs:x.s=y.s):cmpV x y=ordI x.n y.n:=by
 unfold cmpV;rw[h,hs,ordI_self,cmpB_self];unfold ordI;split
 ·rfl
 ·split<;>rfl
theorem cmpV_s {x y:Val}(h:x.k=y.k)(hs:x.n=y.n):cmpV x y=cmpB x.s y.s:=by
 unfold cmpV firstNZ;rw[h,hs,ordI_self,ordI_self];by_cases h3:cmpB x.s y.s=0
 ·rw[h3];rfl
 ·simp[h3]
theorem cmpV_k {x y:Val}(h:ordI x.k y.k≠0):cmpV x y=ordI x.k y.k:=by
 unfold cmpV firstNZ;simp[h]
theorem key_cells (x y:Val)(r t:List UInt8)(hx:checkV x=0)(hy:checkV y=0)(x1: -9223372036854775808≤x.n)(y1: -9223372036854775808≤y.n)(x2:x.n≤9223372036854775807)(y2:y.n≤9223372036854775807):
 compareBytes (keyCell x++r) (keyCell y++t)=if cmpV x y≠0 then cmpV x y else compareBytes r t:=by
 have same:x=y→compareBytes (keyCell x++r) (keyCell y++t)=if cmpV x y≠0 then cmpV x y else compareBytes r t:=by
  rintro rfl;rw[cb_prefix,cmpV_self,if_neg (by simp)]
 have hkx:x.k=0∨x.k=1∨x.k=2∨x.k=3:=by
  rcases good_cells x hx with e|e|e|e|⟨e,-⟩<;>rw[e]<;>simp
 have hky:y.k=0∨y.k=1∨y.k=2∨y.k=3:=by
  rcases good_cells y hy with e|e|e|e|⟨e,-⟩<;>rw[e]<;>simp
 by_cases hk:x.k=y.k
 ·rcases good_cells x hx with e|e|e|e|⟨e,hsx⟩<;>rcases good_cells y hy with e'|e'|e'|e'|⟨e',hsy⟩
  all_goals
   first
    |(exfalso;rw[e,e']at hk;revert hk;simp only;decide)
    |(exact same (e.trans e'.symm))
    |skip
  ·have h0:cmpV x y= -1:=by rw[e,e'];rfl
   rw[h0,e,e'];show compareBytes (1::0::r) (1::1::t)=_;rw[cb_same,cb_lt _ _ (by decide)];rfl
  ·have h0:cmpV x y=1:=by rw[e,e'];rfl
   rw[h0,e,e'];show compareBytes (1::1::r) (1::0::t)=_;rw[cb_same,cb_gt _ _ (by decide)];rfl
  ·have hc:cmpV x y=ordI x.n y.n:=cmpV_n hk (by rw[e,e'])
   rw[hc];have kx:keyCell x=2::be8 (bias x.n):=by rw[e];rfl
   have ky:keyCell y=2::be8 (bias y.n):=by rw[e'];rfl
   have bx:bias x.n<18446744073709551616:=by unfold bias;omega
   have by':bias y.n<18446744073709551616:=by unfold bias;omega
   rw[kx,ky,List.cons_append,List.cons_append,cb_same,cb_num _ _ _ _ (by rw[be8_len,be8_len]),be8_make _ bx,be8_make _ by'];rcases Int.lt_trichotomy x.n y.n with h1|h1|h1
   ·rw[ordI_lt h1,if_pos (by unfold bias;omega)];rfl
   ·rw[h1,ordI_self,if_neg (by omega),if_neg (by omega),if_neg (by simp)]
   ·rw[ordI_gt h1,if_neg (by unfold bias;omega),if_pos (by unfold bias;omega)];rfl
  ·have hc:cmpV x y=cmpB x.s y.s:=cmpV_s hk (by rw[e,e'])
   rw[hc];have kx:keyCell x=3::(esc x.s.toList++[0,1]):=by rw[e];rfl
   have ky:keyCell y=3::(esc y.s.toList++[0,1]):=by rw[e'];rfl
   rw[kx,ky,List.cons_append,List.cons_append,cb_same,List.append_assoc,List.append_assoc];show compareBytes (esc x.s.toList++(0::1::r)) (esc y.s.toList++(0::1::t))=_;rw[cb_esc,←compare_eq,←ByteArray.toList_eq,←ByteArray.toList_eq];by_cases hs:x.s.toList=y.s.toList
   ·rw[if_pos hs,hs,cb_self,if_neg (by simp)]
   ·rw[if_neg hs,if_pos (fun h=>hs (cb_zero h))]
 ·obtain⟨q,hq⟩:=keyCell_hd x
  obtain⟨p,hp⟩:=keyCell_hd y;rw[hq,hp,List.cons_append,List.cons_append];have lx:(UInt8.ofNat x.k.toNat).toNat=x.k.toNat:=by rw[UInt8.toNat_ofNat',Nat.mod_eq_of_lt (by omega)]
  have ly:(UInt8.ofNat y.k.toNat).toNat=y.k.toNat:=by rw[UInt8.toNat_ofNat',Nat.mod_eq_of_lt (by omega)]
  rcases Int.lt_or_gt_of_ne hk with h1|h1
  ·have e:=ordI_lt h1
   have hc:cmpV x y= -1:=by rw[cmpV_k (by rw[e];decide),e]
   rw[hc,cb_lt _ _ (by rw[u8_lt,lx,ly];omega)];rfl
  ·have e:=ordI_gt h1
   have hc:cmpV x y=1:=by rw[cmpV_k (by rw[e];decide),e]
   rw[hc,cb_gt _ _ (by rw[u8_lt,lx,ly];omega)];rfl
def Good (l:List Val):Prop:= ∀x∈l,checkV x=0∧ -9223372036854775808≤x.n∧x.n≤9223372036854775807
theorem key_order: ∀(a b:List Val),Good a→Good b→compareBytes (keyRow a) (keyRow b)=rowsF a b
 |[],[],_,_=>rfl
 |[],y::t,_,_=>by
  obtain⟨q,hq⟩:=keyCell_hd y;show compareBytes [] (keyRow (y::t))= -1;rw[show keyRow (y::t)=keyCell y++keyRow t from List.flatMap_cons,hq];rfl
 |x::r,[],_,_=>by
  obtain⟨q,hq⟩:=keyCell_hd x;show compareBytes (keyRow (x::r)) []=1;rw[show keyRow (x::r)=keyCell x++keyRow r from List.flatMap_cons,hq];rfl
 |x::r,y::t,ha,hb=>by
  obtain⟨c1,c2,c3⟩:=ha x (by simp);obtain⟨d1,d2,d3⟩:=hb y (by simp);have ih:=key_order r t (fun z hz=>ha z (by simp[hz])) (fun z hz=>hb z (by simp[hz]));rw[show keyRow (x::r)=keyCell x++keyRow r from List.flatMap_cons,show keyRow (y::t)=keyCell y++keyRow t from List.flatMap_cons,key_cells x y _ _ c1 d1 c2 d2 c3 d3,ih];rfl
theorem key_less {a b:List Val}(ha:Good a)(hb:Good b):Op.bytesLess (keyRow a) (keyRow b)=decide (rowsF a b<0):=by
 rw[←key_order a b ha hb,cmpB_eq];cases Op.bytesLess (keyRow a) (keyRow b)
 ·cases keyRow a==keyRow b<;>rfl
 ·rfl
theorem key_same {a b:List Val}(ha:Good a)(hb:Good b):(keyRow a==keyRow b)=decide (rowsF a b=0):=by
 rw[←key_order a b ha hb,Bool.eq_iff_iff,beq_iff_eq,decide_eq_true_iff];exact⟨fun h=>by rw[h,cb_self],cb_zero⟩
theorem key_tells {a b:List Val}(ha:Good a)(hb:Good b)(la:a.length≤8)(lb:b.length≤8):(keyRow a==keyRow b)=sameR a b:=by
 rw[Bool.eq_iff_iff,beq_iff_eq,sameR_iff];refine⟨fun h=> ?_,fun h=>by rw[h]⟩;have h1:=dec_make a 8 la ha;have h2:=dec_make b 8 lb hb;rw[h,h2]at h1;exact(Option.some.inj h1).symm
end Go.Proofs.YtjodlngbiikgfaaGreatDoor
namespace Go.Proofs.YtjodlngbiikgfaaGreatDoor
open Go.RowKit Go.Maps
open Go.Lib (compareBytes)
abbrev AV:=List (List Val×Int)
theorem before_eq (a b:List UInt8):bytesBefore a b=decide (compareBytes a b<0):=by
 induction a generalizing b with
 |nil=>
  cases b with
  |nil=>simp[bytesBefore,compareBytes]
  |cons y b=>simp[bytesBefore,compareBytes]
 |cons x a ih=>
  cases b with
  |nil=>simp[bytesBefore,compareBytes]
  |cons y b=>
   unfold bytesBefore;by_cases h1:x<y
   ·rw[cb_lt _ _ h1];simp[h1]
   ·by_cases h2:y<x
    ·rw[cb_gt _ _ h2]
     have:x≠y:=by rintro rfl;exact h1 h2
     simp[h1,this]
    ·have:x=y:=by
      rw[u8_lt]at h1 h2;exact UInt8.toNat_inj.1 (by omega)
     subst this;rw[cb_same,ih];simp[u8_lt_irr]
structure GoodR (r:List Val):Prop where
 good:Good r
 few:r.length≤8
theorem goodR_of {r:List Val}(hf:Fine r)(h:keyErr r=0):GoodR r:=by
 obtain⟨h8,hg⟩:=keyErr_zero h;exact⟨fun x hx=>⟨hg x hx,hf.nums x hx⟩,h8⟩
theorem rowsF_zero {a b:List Val}(ha:GoodR a)(hb:GoodR b):rowsF a b=0↔a=b:=by
 have h1:=key_same ha.good hb.good;have h2:=key_tells ha.good hb.good ha.few hb.few;rw[h1]at h2;constructor
 ·intro h
  rw[decide_eq_true h]at h2;exact(sameR_iff a b).1 h2.symm
 ·rintro rfl
  rw[(sameR_iff a a).2 rfl]at h2;simpa using h2
theorem rowsF_self {a:List Val}(ha:GoodR a):rowsF a a=0:=(rowsF_zero ha ha).2 rfl
theorem cb_flip (a b:List UInt8):compareBytes b a= -compareBytes a b:=by
 induction a generalizing b with
 |nil=>cases b<;>simp[compareBytes]
 |cons x a ih=>
  cases b with
  |nil=>simp[compareBytes]
  |cons y b=>
   by_cases h1:x<y
   ·rw[cb_lt _ _ h1,cb_gt _ _ h1];rfl
   ·by_cases h2:y<x
    ·rw[cb_gt _ _ h2,cb_lt _ _ h2]
    ·have:x=y:=by
      rw[u8_lt]at h1 h2;exact UInt8.toNat_inj.1 (by omega)
     subst this;rw[cb_same,cb_same,ih]
theorem cb_trans {a b c:List UInt8}(h1:compareBytes a b<0)(h2:compareBytes b c<0):compareBytes a c<0:=by
 induction a generalizing b c with
 |nil=>
  cases b with
  |nil=>simp[compareBytes]at h1
  |cons y b=>
   cases c with
   |nil=>simp[compareBytes]at h2
   |cons z c=>simp[compareBytes]
 |cons x a ih=>
  cases b with
  |nil=>simp[compareBytes]at h1
  |cons y b=>
   cases c with
   |nil=>simp[compareBytes]at h2
   |cons z c=>
    have t1:x<y∨(x=y∧compareBytes a b<0):=by
     by_cases e1:x<y
     ·exact .inl e1
     ·by_cases e2:y<x
      ·rw[cb_gt _ _ e2]at h1;omega
      ·have:x=y:=by
        rw[u8_lt]at e1 e2;exact UInt8.toNat_inj.1 (by omega)
       subst this;rw[cb_same]at h1;exact .inr ⟨rfl,h1⟩
    have t2:y<z∨(y=z∧compareBytes b c<0):=by
     by_cases e1:y<z
     ·exact .inl e1
     ·by_cases e2:z<y
      ·rw[cb_gt _ _ e2]at h2;omega
      ·have:y=z:=by
        rw[u8_lt]at e1 e2;exact UInt8.toNat_inj.1 (by omega)
       subst this;rw[cb_same]at h2;exact .inr ⟨rfl,h2⟩
    rcases t1 with t1|⟨rfl,t1⟩
    ·rcases t2 with t2|⟨rfl,t2⟩
     ·rw[cb_lt _ _ (by rw[u8_lt]at*;omega)];omega
     ·rw[cb_lt _ _ t1];omega
    ·rcases t2 with t2|⟨rfl,t2⟩
     ·rw[cb_lt _ _ t2];omega
     ·rw[cb_same];exact ih t1 t2
theorem rowsF_flip {a b:List Val}(ha:GoodR a)(hb:GoodR b):rowsF b a= -rowsF a b:=by
 rw[←key_order a b ha.good hb.good,←key_order b a hb.good ha.good,cb_flip]
theorem rowsF_trans {a b c:List Val}(ha:GoodR a)(hb:GoodR b)(hc:GoodR c)(h1:rowsF a b<0)(h2:rowsF b c<0):rowsF a c<0:=by
 rw[←key_order a b ha.good hb.good]at h1;rw[←key_order b c hb.good hc.good]at h2;rw[←key_order a c ha.good hc.good];exact cb_trans h1 h2
def kOf (r:List Val):Lit:= .string (keyRow r)
theorem kOf_before {a b:List Val}(ha:GoodR a)(hb:GoodR b):(kOf a).before (kOf b)=decide (rowsF a b<0):=by
 show bytesBefore (keyRow a) (keyRow b)=_;rw[before_eq,key_order a b ha.good hb.good]
theorem kOf_same {a b:List Val}(ha:GoodR a)(hb:GoodR b):(kOf a).sameKey (kOf b)=decide (rowsF a b=0):=by
 show(keyRow a==keyRow b)=_;exact key_same ha.good hb.good
structure Rises (A:AV):Prop where
 good: ∀p∈A,GoodR p.1
 rise:A.Pairwise fun p q=>rowsF p.1 q.1<0
theorem Rises.nil:Rises []:=⟨nofun,.nil⟩
theorem Rises.tail {x:List Val×Int}{t:AV}(h:Rises (x::t)):Rises t:=⟨fun p hp=>h.good p (by simp[hp]),(List.pairwise_cons.1 h.rise).2⟩
def lookA:AV→List Val→Int
 |[],_=>0
 |(x,m)::t,r=>if rowsF x r=0 then m else lookA t r
def hasA:AV→List Val→Bool
 |[],_=>false
 |(x,_)::t,r=>decide (rowsF x r=0)||hasA t r
def putA:AV→List Val→Int→AV
 |[],r,n=>[(r,n)]
 |(x,m)::t,r,n=>if rowsF x r=0 then(x,n)::t else if rowsF x r<0 then(x,m)::putA t r n else(r,n)::(x,m)::t
def delA:AV→List Val→AV
 |[],_=>[]
 |(x,m)::t,r=>if rowsF x r=0 then t else(x,m)::delA t r
def ent (p:List Val×Int):Lit×DataW Unit:=(kOf p.1,.lit (.int .i64 p.2))
def mkD (A:AV):DataW Unit:= .map (A.map ent)
theorem mkD_size (A:AV):Maps.size (mkD A)=A.length:=by rw[mkD,size_eq,List.length_map]
theorem mkD_at {A:AV}{r:List Val}(h: ∀p∈A,GoodR p.1)(hr:GoodR r):(mkD A).atKey (kOf r) (.lit (.int .i64 0))= .lit (.int .i64 (lookA A r)):=by
 unfold mkD DataW.atKey
 induction A with
 |nil=>rfl
 |cons x t ih=>
  obtain⟨x,m⟩:=x;have hx:GoodR x:=h (x,m) (by simp);simp only[List.map_cons,List.find?_cons,ent,kOf_same hx hr,lookA];by_cases e:rowsF x r=0
  ·simp[e]
  ·simp only[e,decide_false,if_false]
   exact ih fun p hp=>h p (by simp[hp])
theorem mkD_has {A:AV}{r:List Val}(h: ∀p∈A,GoodR p.1)(hr:GoodR r):Maps.has (mkD A) (kOf r)=hasA A r:=by
 show(A.map ent).any (fun p=>p.1.sameKey (kOf r))=_
 induction A with
 |nil=>rfl
 |cons x t ih=>
  obtain⟨x,m⟩:=x;have hx:GoodR x:=h (x,m) (by simp);simp only[List.map_cons,List.any_cons,ent,kOf_same hx hr,hasA]
  congr 1
  exact ih fun p hp=>h p (by simp[hp])
theorem filter_keep {A:AV}{r:List Val}(h: ∀p∈A,GoodR p.1)(hr:GoodR r)(hn: ∀p∈A,rowsF p.1 r≠0):(A.map ent).filter (fun p=> !p.1.sameKey (kOf r))=A.map ent:=by
 rw[List.filter_eq_self];intro q hq;obtain⟨p,hp,rfl⟩:=List.mem_map.1 hq;simp[ent,kOf_same (h p hp) hr,hn p hp]
theorem insert_front {A:AV}{r:List Val}{n:Int}(h: ∀p∈A,GoodR p.1)(hr:GoodR r)(hn: ∀p∈A,rowsF r p.1<0):DataW.insert (ent (r,n)) (A.map ent)=(A.map ent |> fun l=>ent (r,n)::l):=by
 cases A with
 |nil=>rfl
 |cons x t=>
  simp only[List.map_cons,DataW.insert]
  have:(ent (r,n)).1.before (ent x).1=true:=by
   show(kOf r).before (kOf x.1)=true;rw[kOf_before hr (h x (by simp))];exact decide_eq_true (hn x (by simp))
  rw[if_pos this]
theorem mkD_put {A:AV}{r:List Val}{n:Int}(h:Rises A)(hr:GoodR r):(mkD A).put (kOf r) (.lit (.int .i64 n))=mkD (putA A r n):=by
 show DataW.map (DataW.insert (ent (r,n)) ((A.map ent).filter fun p=> !p.1.sameKey (kOf r)))= .map _
 congr 1
 induction A with
 |nil=>rfl
 |cons x t ih=>
  obtain⟨x,m⟩:=x;have hx:GoodR x:=h.good (x,m) (by simp);obtain⟨h1,h2⟩:=List.pairwise_cons.1 h.rise;have h1: ∀p∈t,rowsF x p.1<0:=h1;have hg: ∀p∈t,GoodR p.1:=h.tail.good;unfold putA;by_cases e:rowsF x r=0
  ·have exr:=(rowsF_zero hx hr).1 e
   subst exr;have hgt: ∀p∈t,rowsF x p.1<0:=fun p hp=>h1 p hp;have hne: ∀p∈t,rowsF p.1 x≠0:=fun p hp=>by rw[rowsF_flip hx (hg p hp)];have:=hgt p hp;omega
   rw[if_pos e];simp only[List.map_cons];rw[List.filter_cons_of_neg (by simp[ent,kOf_same hx hr,e]),filter_keep hg hr hne,insert_front hg hr hgt]
  ·rw[if_neg e]
   have hk:(!(ent (x,m)).1.sameKey (kOf r))=true:=by simp[ent,kOf_same hx hr,e]
   simp only[List.map_cons];rw[List.filter_cons_of_pos (p:=fun p:Lit×DataW Unit=> !p.1.sameKey (kOf r)) hk];by_cases l:rowsF x r<0
   ·rw[if_pos l]
    simp only[DataW.insert,List.map_cons]
    have hb:(ent (r,n)).1.before (ent (x,m)).1=false:=by
     show(kOf r).before (kOf x)=false;rw[kOf_before hr hx,rowsF_flip hx hr];exact decide_eq_false (by omega)
    rw[hb,if_neg (by decide),ih h.tail]
   ·rw[if_neg l]
    have hlt:rowsF r x<0:=by rw[rowsF_flip hx hr];omega
    have hgt: ∀p∈t,rowsF r p.1<0:=fun p hp=>rowsF_trans hr hx (hg p hp) hlt (h1 p hp);have hne: ∀p∈t,rowsF p.1 r≠0:=fun p hp=>by rw[rowsF_flip hr (hg p hp)];have:=hgt p hp;omega
    rw[filter_keep hg hr hne]
    have:=insert_front (A:=(x,m)::t) (r:=r) (n:=n) h.good hr (by
     intro p hp;rcases List.mem_cons.1 hp with rfl|hp
     ·exact hlt
     ·exact hgt p hp)
    exact this
theorem mkD_del {A:AV}{r:List Val}(h:Rises A)(hr:GoodR r):(mkD A).del (kOf r)=mkD (delA A r):=by
 show DataW.map ((A.map ent).filter fun p=> !p.1.sameKey (kOf r))= .map _
 congr 1
 induction A with
 |nil=>rfl
 |cons x t ih=>
  obtain⟨x,m⟩:=x;have hx:GoodR x:=h.good (x,m) (by simp);obtain⟨h1,h2⟩:=List.pairwise_cons.1 h.rise;have h1: ∀p∈t,rowsF x p.1<0:=h1;have hg: ∀p∈t,GoodR p.1:=h.tail.good;unfold delA;by_cases e:rowsF x r=0
  ·have exr:=(rowsF_zero hx hr).1 e
   subst exr;have hne: ∀p∈t,rowsF p.1 x≠0:=fun p hp=>by rw[rowsF_flip hx (hg p hp)];have:=h1 p hp;omega
   rw[if_pos e];simp only[List.map_cons];rw[List.filter_cons_of_neg (by simp[ent,kOf_same hx hr,e]),filter_keep hg hr hne]
  ·rw[if_neg e]
   have hk:(!(ent (x,m)).1.sameKey (kOf r))=true:=by simp[ent,kOf_same hx hr,e]
   simp only[List.map_cons];rw[List.filter_cons_of_pos (p:=fun p:Lit×DataW Unit=> !p.1.sameKey (kOf r)) hk,ih h.tail]
theorem put_mem {A:AV}{r:List Val}{n:Int}{p:List Val×Int}(h:p∈putA A r n):p∈A∨p.1=r∧p.2=n∨(p.2=n∧ ∃m,(p.1,m)∈A):=by
 induction A with
 |nil=>simp[putA]at h;subst h;exact .inr (.inl ⟨rfl,rfl⟩)
 |cons x t ih=>
  obtain⟨x,m⟩:=x;unfold putA at h;split at h
  ·rcases List.mem_cons.1 h with rfl|h
   ·exact .inr (.inr ⟨rfl,m,by simp⟩)
   ·exact .inl (by simp[h])
  ·split at h
   ·rcases List.mem_cons.1 h with rfl|h
    ·exact .inl (by simp)
    ·rcases ih h with h|h|⟨h1,m',h2⟩
     ·exact .inl (by simp[h])
     ·exact .inr (.inl h)
     ·exact .inr (.inr ⟨h1,m',by simp[h2]⟩)
   ·rcases List.mem_cons.1 h with rfl|h
    ·exact .inr (.inl ⟨rfl,rfl⟩)
    ·exact .inl h
theorem del_mem {A:AV}{r:List Val}{p:List Val×Int}(h:p∈delA A r):p∈A:=by
 induction A with
 |nil=>exact h
 |cons x t ih=>
  obtain⟨x,m⟩:=x;unfold delA at h;split at h
  ·simp[h]
  ·rcases List.mem_cons.1 h with rfl|h
   ·simp
   ·simp[ih h]
theorem rises_put {A:AV}{r:List Val}{n:Int}(h:Rises A)(hr:GoodR r):Rises (putA A r n):=by
 refine⟨fun p hp=> ?_,?_⟩
 ·rcases put_mem hp with hp|⟨e,-⟩|⟨-,m,hp⟩
  ·exact h.good p hp
  ·rw[e];exact hr
  ·exact h.good (p.1,m) hp
 ·induction A with
  |nil=>simp[putA]
  |cons x t ih=>
   obtain⟨x,m⟩:=x;have hx:GoodR x:=h.good (x,m) (by simp);obtain⟨h1,h2⟩:=List.pairwise_cons.1 h.rise;have h1: ∀p∈t,rowsF x p.1<0:=h1;have hg: ∀p∈t,GoodR p.1:=h.tail.good;unfold putA;split
   ·exact List.pairwise_cons.2 ⟨h1,h2⟩
   ·rename_i e
    split
    ·rename_i l
     refine List.pairwise_cons.2 ⟨fun p hp=> ?_,ih h.tail⟩;rcases put_mem hp with hp|⟨e',-⟩|⟨-,m',hp⟩
     ·exact h1 p hp
     ·rw[e'];exact l
     ·exact h1 (p.1,m') hp
    ·rename_i l
     have hlt:rowsF r x<0:=by rw[rowsF_flip hx hr];omega
     refine List.pairwise_cons.2 ⟨fun p hp=> ?_,h.rise⟩;rcases List.mem_cons.1 hp with rfl|hp
     ·exact hlt
     ·exact rowsF_trans hr hx (hg p hp) hlt (h1 p hp)
theorem rises_del {A:AV}{r:List Val}(h:Rises A):Rises (delA A r):=by
 refine⟨fun p hp=>h.good p (del_mem hp),?_⟩
 induction A with
 |nil=>exact h.rise
 |cons x t ih=>
  obtain⟨x,m⟩:=x;obtain⟨h1,h2⟩:=List.pairwise_cons.1 h.rise;have h1: ∀p∈t,rowsF x p.1<0:=h1;unfold delA;split
  ·exact h2
  ·exact List.pairwise_cons.2 ⟨fun p hp=>h1 p (del_mem hp),ih h.tail⟩
end Go.Proofs.YtjodlngbiikgfaaGreatDoor
namespace Go.Proofs.YtjodlngbiikgfaaGreatDoor
open Go.Lib (compareBytes)
def inB (n lo hi:Int):Bool:=decide (lo≤n∧n≤hi)
theorem inB_yes {n lo hi:Int}(h1:lo≤n)(h2:n≤hi):inB n lo hi=true:=by simp[inB,h1,h2]
theorem inB_no {n lo hi:Int}(h:n<lo∨hi<n):inB n lo hi=false:=by simp[inB];omega
structure En where
 key:List UInt8
 t:Int
 s:Int
 r:List Val
 met:Bool
theorem ordE_zero {a b:Int}:ordI a b=0↔a=b:=by unfold ordI;split<;>(try split)<;>omega
theorem ordE_flip (a b:Int):ordI b a= -ordI a b:=by unfold ordI;repeat' split
                                                    all_goals omega
theorem ordE_neg {a b:Int}:ordI a b<0↔a<b:=by unfold ordI;split<;>(try split)<;>omega
def cmpE (a b:En):Int:=if compareBytes a.key b.key≠0 then compareBytes a.key b.key else if ordI a.t b.t≠0 then ordI a.t b.t else ordI a.s b.s
theorem cbE_zero {a b:List UInt8}:compareBytes a b=0↔a=b:=⟨cb_zero,fun h=>by rw[h];exact cb_self b⟩
theorem cmpE_zero {a b:En}:cmpE a b=0↔a.key=b.key∧a.t=b.t∧a.s=b.s:=by
 unfold cmpE;by_cases h:compareBytes a.key b.key=0
 ·rw[if_neg (fun h'=>h' h)]
  by_cases h2:ordI a.t b.t=0
  ·rw[if_neg (fun h'=>h' h2),ordE_zero]
   exact⟨fun h3=>⟨cbE_zero.1 h,ordE_zero.1 h2,h3⟩,fun h3=>h3.2.2⟩
  ·rw[if_pos h2]
   exact⟨fun h3=>absurd h3 h2,fun h3=>absurd (ordE_zero.2 h3.2.1) h2⟩
 ·rw[if_pos h]
  exact⟨fun h3=>absurd h3 h,fun h3=>absurd (cbE_zero.2 h3.1) h⟩
theorem cmpE_flip (a b:En):cmpE b a= -cmpE a b:=by
 unfold cmpE;rw[cb_flip a.key b.key,ordE_flip a.t b.t,ordE_flip a.s b.s]
 repeat' split
 all_goals omega
theorem cmpE_neg {a b:En}:cmpE a b<0↔compareBytes a.key b.key<0∨(a.key=b.key∧(a.t<b.t∨(a.t=b.t∧a.s<b.s))):=by
 unfold cmpE;by_cases h:compareBytes a.key b.key=0
 ·rw[if_neg (fun h'=>h' h)]
  have hk:=cbE_zero.1 h;by_cases h2:ordI a.t b.t=0
  ·rw[if_neg (fun h'=>h' h2),ordE_neg]
   have ht:=ordE_zero.1 h2;constructor
   ·intro h3;exact .inr ⟨hk,.inr ⟨ht,h3⟩⟩
   ·rintro(h3|⟨-,h3|⟨-,h3⟩⟩)
    ·omega
    ·omega
    ·exact h3
  ·rw[if_pos h2,ordE_neg]
   have ht:a.t≠b.t:=fun e=>h2 (ordE_zero.2 e);constructor
   ·intro h3;exact .inr ⟨hk,.inl h3⟩
   ·rintro(h3|⟨-,h3|⟨h3,-⟩⟩)
    ·omega
    ·exact h3
    ·exact absurd h3 ht
 ·rw[if_pos h]
  constructor
  ·intro h3;exact .inl h3
  ·rintro(h3|⟨h3,-⟩)
   ·exact h3
   ·exact absurd (cbE_zero.2 h3) h
theorem cmpE_trans {a b c:En}(h1:cmpE a b<0)(h2:cmpE b c<0):cmpE a c<0:=by
 rw[cmpE_neg]at h1 h2⊢;rcases h1 with h1|⟨e1,h1⟩
 ·rcases h2 with h2|⟨e2,h2⟩
  ·exact .inl (cb_trans h1 h2)
  ·rw[←e2];exact .inl h1
 ·rcases h2 with h2|⟨e2,h2⟩
  ·rw[e1];exact .inl h2
  ·refine .inr ⟨e1.trans e2,?_⟩
   rcases h1 with h1|⟨h1,h1'⟩<;>rcases h2 with h2|⟨h2,h2'⟩
   ·exact .inl (by omega)
   ·exact .inl (by omega)
   ·exact .inl (by omega)
   ·exact .inr ⟨by omega,by omega⟩
theorem cmpE_same {a b:En}(h:cmpE a b=0)(c:En):cmpE a c=cmpE b c:=by
 obtain⟨h1,h2,h3⟩:=cmpE_zero.1 h;unfold cmpE;rw[h1,h2,h3]
theorem cmpE_gt {a b:En}(h0: ¬cmpE a b=0)(h1: ¬cmpE a b<0):cmpE b a<0:=by rw[cmpE_flip];omega
def Up (l:List En):Prop:=l.Pairwise fun a b=>cmpE a b<0
def Alone (l:List En):Prop:=l.Pairwise fun a b=>cmpE a b≠0
theorem Up.alone {l:List En}(h:Up l):Alone l:=h.imp fun h e=>by rw[e]at h;omega
theorem alone_perm {a b:List En}(h:a.Perm b)(ha:Alone a):Alone b:=h.pairwise ha fun h e=>h (by rw[cmpE_flip,e];rfl)
theorem up_perm {a b:List En}(ha:Up a)(hb:Up b)(h:a.Perm b):a=b:=by
 induction a generalizing b with
 |nil=>exact h.nil_eq
 |cons x t ih=>
  cases b with
  |nil=>exact absurd h.symm.nil_eq (by simp)
  |cons y u=>
   obtain⟨hx,ht⟩:=List.pairwise_cons.1 ha;obtain⟨hy,hu⟩:=List.pairwise_cons.1 hb
   have e:x=y:=by
    have h1:x∈y::u:=h.subset (by simp);have h2:y∈x::t:=h.symm.subset (by simp);rcases List.mem_cons.1 h1 with h1|h1
    ·exact h1
    ·rcases List.mem_cons.1 h2 with h2|h2
     ·exact h2.symm
     ·exfalso
      have:=cmpE_trans (hx y h2) (hy x h1);have h0:cmpE x x=0:=cmpE_zero.2 ⟨rfl,rfl,rfl⟩;omega
   subst e;rw[ih ht hu (List.perm_cons x |>.1 h)]
def insE:List En→En→List En
 |[],e=>[e]
 |x::t,e=>if cmpE x e<0 then x::insE t e else e::x::t
def isE (l:List En) (e:En):Bool:=l.any fun x=>decide (cmpE x e=0)
def intoE (l:List En) (e:En):List En×Bool:=if isE l e=true then(l,false)else(insE l e,true)
theorem insE_perm (l:List En)(e:En):(insE l e).Perm (e::l):=by
 induction l with
 |nil=>exact .refl _
 |cons x t ih=>
  unfold insE;split
  ·exact(ih.cons x).trans (.swap e x t)
  ·exact .refl _
theorem isE_no {l:List En}{e:En}:isE l e=false↔ ∀x∈l,cmpE x e≠0:=by
 unfold isE;rw[List.any_eq_false];simp
theorem insE_up {l:List En}{e:En}(h:Up l)(hn:isE l e=false):Up (insE l e):=by
 rw[isE_no]at hn
 induction l with
 |nil=>exact List.pairwise_singleton _ _
 |cons x t ih=>
  obtain⟨hx,ht⟩:=List.pairwise_cons.1 h;unfold insE;split
  ·rename_i hl
   refine List.pairwise_cons.2 ⟨fun y hy=> ?_,ih ht fun y hy=>hn y (by simp[hy])⟩;rcases List.mem_cons.1 ((insE_perm t e).subset hy)with rfl|hy
   ·exact hl
   ·exact hx y hy
  ·rename_i hl
   have hlt:=cmpE_gt (hn x (by simp)) hl;refine List.pairwise_cons.2 ⟨fun y hy=> ?_,h⟩;rcases List.mem_cons.1 hy with rfl|hy
   ·exact hlt
   ·exact cmpE_trans hlt (hx y hy)
def allF:List En→List En→List En×Bool
 |l,[]=>(l,true)
 |l,e::t=>((allF (intoE l e).1 t).1,(intoE l e).2&&(allF (intoE l e).1 t).2)
theorem allF_up: ∀(m l:List En),Up l→Up (allF l m).1
 |[],_,h=>h
 |e::t,l,h=>by
  rw[allF];refine allF_up t _ ?_;unfold intoE;split
  ·exact h
  ·rename_i hn
   exact insE_up h (by simpa using hn)
theorem allF_yes: ∀(m l:List En),Up l→(allF l m).2=true→(allF l m).1.Perm (l++m)∧Alone (l++m)
 |[],l,h,_=>by rw[List.append_nil];exact⟨.refl _,h.alone⟩
 |e::t,l,h,hb=>by
  rw[allF]at hb⊢;simp only[Bool.and_eq_true]at hb
  have h2:isE l e=false:=by
   cases hh:isE l e with
   |false=>rfl
   |true=>rw[intoE,if_pos hh]at hb;exact absurd hb.1 (by simp)
  have e1:intoE l e=(insE l e,true):=by rw[intoE,if_neg (by rw[h2];simp)]
  rw[e1]at hb⊢;obtain⟨a,b⟩:=allF_yes t (insE l e) (insE_up h h2) hb.2;have hp:(insE l e++t).Perm (l++e::t):=((insE_perm l e).append_right t).trans List.perm_middle.symm;exact⟨a.trans hp,alone_perm hp b⟩
theorem allF_alone: ∀(m l:List En),Up l→Alone (l++m)→(allF l m).2=true
 |[],_,_,_=>rfl
 |e::t,l,h,ha=>by
  have h2:isE l e=false:=isE_no.2 fun x hx=>(List.pairwise_append.1 ha).2.2 x hx e (by simp);have e1:intoE l e=(insE l e,true):=by rw[intoE,if_neg (by rw[h2];simp)]
  rw[allF,e1];have hp:(insE l e++t).Perm (l++e::t):=((insE_perm l e).append_right t).trans List.perm_middle.symm;simp only[Bool.true_and];exact allF_alone t (insE l e) (insE_up h h2) (alone_perm hp.symm ha)
theorem up_of_sorted {l:List En}(h:l.Pairwise fun a b=> ¬cmpE b a<0)(hn: ∀i x y,l[i]?=some x→l[i+1]?=some y→cmpE x y≠0):Up l:=by
 induction l with
 |nil=>exact .nil
 |cons x t ih=>
  obtain⟨hx,ht⟩:=List.pairwise_cons.1 h;have hU:=ih ht fun i a b ha hb=>hn (i+1) a b (by simpa using ha) (by simpa using hb);refine List.pairwise_cons.2 ⟨fun y hy=> ?_,hU⟩;cases t with
  |nil=>cases hy
  |cons z u=>
   have h1:cmpE x z<0:=by
    have h0:=hn 0 x z rfl rfl;have h2:=hx z (by simp);rw[cmpE_flip x z]at h2;omega
   rcases List.mem_cons.1 hy with rfl|hy
   ·exact h1
   ·exact cmpE_trans h1 ((List.pairwise_cons.1 hU).1 y hy)
end Go.Proofs.YtjodlngbiikgfaaGreatDoor
