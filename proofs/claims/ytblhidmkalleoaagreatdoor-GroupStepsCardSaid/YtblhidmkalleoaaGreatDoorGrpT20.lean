/-Groups: where a tally stands; add. Groups: add. Groups of one's own in memory, each at a block; maps to them. Groups of one's own: one bag more. Group -/
import Derived.Test.YtblhidmkalleoaaGreatDoorGrpT19
import Derived.Test.YtblhidmkalleoaaGreatDoorGrpT6
set_option linter.unusedSimpArgs false
set_option linter.unusedVariables false
namespace Go.Proofs.YtblhidmkalleoaaGreatDoor
open Go.RowKit
structure PosT (l:List Tl) (v:Val) (i:Nat):Prop where
 le:i≤l.length
 low: ∀j y,j<i→l[j]?=some y→cmpV y.v v<0
 high: ∀j y,i≤j→l[j]?=some y→0≤cmpV y.v v
def isT (l:List Tl) (v:Val) (i:Nat):Bool:=match l[i]? with
 |some y=>cmpV y.v v==0
 |none=>false
structure UpT (l:List Tl):Prop where
 good: ∀x∈l,GoodR [x.v]
 rise:l.Pairwise fun a b=>cmpV a.v b.v<0
theorem GoodT.up {t:Int}{l:List Tl}(h:GoodT t l):UpT l:=⟨fun x hx=>(h.vals x hx).1,h.rise⟩
theorem up_lessT {l:List Tl}{v:Val}(h:UpT l)(hv:GoodR [v]){i j:Nat}{x y:Tl}(hi:l[i]?=some x)(hj:l[j]?=some y)(hle:i≤j)(hy:cmpV y.v v<0):cmpV x.v v<0:=by
 by_cases he:i=j
 ·subst he
  rw[hi]at hj;injection hj with hj;rw[hj];exact hy
 ·obtain⟨h1,e1⟩:=List.getElem?_eq_some_iff.1 hi
  obtain⟨h2,e2⟩:=List.getElem?_eq_some_iff.1 hj;have h3:=List.pairwise_iff_getElem.1 h.rise i j h1 h2 (by omega);rw[e1,e2]at h3;exact cmpV_trans (h.good x (List.mem_of_getElem? hi)) (h.good y (List.mem_of_getElem? hj)) hv h3 hy
theorem tally_pos {l:List Tl}{v:Val}{n:Int}: ∀ {i:Nat},PosT l v i→tallyG l v n=if isT l v i=true then(l.take i++((if(l.getD i ⟨v,0⟩).n+n=0 then[]else[⟨(l.getD i ⟨v,0⟩).v,(l.getD i ⟨v,0⟩).n+n⟩])++l.drop (i+1)),true)else(l.take i++⟨v,n⟩::l.drop i,decide (0<n)):=by
 induction l with
 |nil=>
  intro i h;have:i=0:=by have:=h.le;simp at this;exact this
  subst this;rfl
 |cons x l ih=>
  intro i h;unfold tallyG;cases i with
  |zero=>
   have h1:=h.high 0 x (Nat.le_refl _) rfl;rw[if_neg (by omega)];by_cases h2:cmpV x.v v=0
   ·rw[if_pos h2,show isT (x::l) v 0=true from by show(cmpV x.v v==0)=true;simp[h2]]
    rw[if_pos (rfl:true=true)];show(if x.n+n=0 then l else⟨x.v,x.n+n⟩::l,true)=([]++((if x.n+n=0 then[]else[⟨x.v,x.n+n⟩])++l),true);by_cases h3:x.n+n=0
    ·rw[if_pos h3,if_pos h3];rfl
    ·rw[if_neg h3,if_neg h3];rfl
   ·rw[if_neg h2,show isT (x::l) v 0=false from by show(cmpV x.v v==0)=false;simp[h2]]
    rfl
  |succ i=>
   have h1:=h.low 0 x (by omega) rfl;rw[if_pos h1];have h2:PosT l v i:=⟨by have:=h.le;simp at this;omega,fun j y hj hy=>h.low (j+1) y (by omega) (by simpa using hy),fun j y hj hy=>h.high (j+1) y (by omega) (by simpa using hy)⟩;have h3:isT (x::l) v (i+1)=isT l v i:=by unfold isT;rw[List.getElem?_cons_succ]
   rw[ih h2,h3];have h4:(x::l).getD (i+1) ⟨v,0⟩=l.getD i ⟨v,0⟩:=by simp[List.getD]
   rw[h4];split<;>simp
set_option maxHeartbeats 2000000 in
set_option maxRecDepth 10000 in
theorem addOne_any (y:Tl)(v:Val)(w:World):Calls Tryz.prog 196 #[y.agg,.agg #[.int .i64 v.k,.int .i64 v.n,.string v.s]] w fun e w'=>e= .returned (.int .i64 (cmpV y.v v))∧Below w.heap.size w w':=by
 have HC:=Lib.hid (fun W=>compare_val y.v v W);unfold Tl.agg;have hB:=below_trans (below_alloc w (.cells #[.int .i64 y.v.k,.int .i64 y.v.n,.string y.v.s,.int .i64 y.n] 135)) (below_alloc _ (.cells #[.int .i64 v.k,.int .i64 v.n,.string v.s] 112));generalize cmpV y.v v=C at HC⊢;go_enter Tryz.func196,Tryz.ntmps196
 go_wp2_with fail
 refine Calls.mono (by with_reducible exact HC.out _) ?_;rintro e w2 ⟨rfl,hb2⟩;go_wp2;go_ret;exact⟨rfl,below_trans hB hb2⟩
set_option maxHeartbeats 4000000 in
set_option maxRecDepth 10000 in
theorem bsearchT_any (u:Value)(l:List Tl)(v:Val)(w:World)(h:Sl w u l.length (tlCells l))(hl:l.length≤1099511627776)(hU:UpT l)(hv:GoodR [v]):
 Calls Tryz.prog 195 #[u,.agg #[.int .i64 v.k,.int .i64 v.n,.string v.s],.func (.func 196) #[] #[]] w fun e w'=> ∃i:Nat,e= .returned (.tuple #[.int .i64 (i:Nat),.bool (isT l v i)])∧PosT l v i∧Below w.heap.size w w':=by
 have HV:=Lib.hid h;have HU:=Lib.hid hU;have HG:=Lib.hid hv;obtain⟨A,c,rfl,h1,h2,-⟩:=id h;unfold maxLen at h2;have HOR:=Lib.hid (fun(a:Tl) (w':World)=>addOne_any a v w');have HX:=Lib.hid (Blk.new w 112 #[.int .i64 v.k,.int .i64 v.n,.string v.s]);have hB:=below_alloc w (.cells #[.int .i64 v.k,.int .i64 v.n,.string v.s] 112);clear h hU hv;unfold Tl.agg at HOR;go_enter Tryz.func195,Tryz.ntmps195
 go_wp2_with fail
 go_loopw[9,10,11] (fun lo hi _ wr=> ∃a b:Nat,lo= .int .i64 a∧hi= .int .i64 b∧a≤b∧b≤l.length∧Hid (∀j y,j<a→l[j]?=some y→cmpV y.v v<0)∧Hid (∀j y,b≤j→l[j]?=some y→0≤cmpV y.v v)∧Blk wr w.heap.size 112 #[.int .i64 v.k,.int .i64 v.n,.string v.s]∧Below w.heap.size w wr)
  (fun lo hi _ _=>(intOf hi).toNat-(intOf lo).toNat)
 case atStart=>exact⟨0,l.length,rfl,rfl,by omega,by omega,Lib.hid (fun j y h=>absurd h (by omega)),Lib.hid (fun j y h hp=>by have:=(List.getElem?_eq_some_iff.1 hp).1;omega),HX.out,hB⟩
 case round=>
  obtain⟨a,b,rfl,rfl,hab,hbl,HL,HM,hK,hbw⟩:=hrel;by_cases hlt:a<b
  ·obtain⟨m,hm⟩: ∃m,(a+b)/ 2=m:=⟨_,rfl⟩
   have hma:a≤m:=by omega
   have hmb:m<b:=by omega
   have hml:m<l.length:=by omega
   have hx:=List.getElem?_eq_getElem (l:=l) hml;generalize l[m]=y at hx;obtain⟨g,off,rfl,-,hc⟩:=tl_at HV.out rfl hx;have HC:=Lib.hid hc;have HY:=Lib.hid hx;have HO:=Lib.hid (fun w'=>HOR.out y w');clear hc hx;have hq:((a:Int)+(b:Int))/ 2=(m:Int):=by omega
   have m0:(0:Int)≤(m:Int):=by omega
   have m1:(m:Int)<(l.length:Int):=by omega
   obtain⟨d0,d1,d2,d3⟩:=HC.out _ hbw;have x0:=hK.cell 0 _ rfl;have x1:=hK.cell 1 _ rfl;have x2:=hK.cell 2 _ rfl;have HK:=Lib.hid hK;clear hm hK
   go_wp2_with fail
   go_region_held3 (fun w'=>w'.cell? ⟨g,off+m*4,none⟩=some (.int .i64 y.v.k)∧w'.cell? ⟨g,off+m*4+1,none⟩=some (.int .i64 y.v.n)∧w'.cell? ⟨g,off+m*4+2,none⟩=some (.string y.v.s)∧w'.cell? ⟨g,off+m*4+3,none⟩=some (.int .i64 y.n)∧w'.cell? ⟨w.heap.size,0,none⟩=some (.int .i64 v.k)∧w'.cell? ⟨w.heap.size,1,none⟩=some (.int .i64 v.n)∧w'.cell? ⟨w.heap.size,2,none⟩=some (.string v.s))
    (first|go_keep|exact⟨d0,d1,d2,d3,x0,x1,x2⟩|exact z)
    ((go_at_call 196;refine Calls.mono (by with_reducible exact HO.out _) ?_;rintro e w2 ⟨rfl,hb2⟩;have hbw2:=below_trans hbw.drew hb2;have K2:=HK.out.drew.below hb2;obtain⟨e0,e1,e2,e3⟩:=HC.out _ hbw2;have z:=And.intro e0 (And.intro e1 (And.intro e2 (And.intro e3 (And.intro (K2.cell 0 _ rfl) (And.intro (K2.cell 1 _ rfl) (K2.cell 2 _ rfl))))))))
   all_goals
    clear z d0 d1 d2 d3 x0 x1 x2 e0 e1 e2 e3;by_cases hz:cmpV y.v v<0
    ·have HL2:Hid (∀j u,j<m+1→l[j]?=some u→cmpV u.v v<0):=Lib.hid fun j u hj hu=>up_lessT HU.out HG.out hu HY.out (by omega) hz
     go_wp2;go_roundw
     case rel=>exact⟨m+1,b,by go_num,rfl,by omega,hbl,HL2.out,HM.out,K2,hbw2⟩
     case measure=>simp[intOf];omega
    ·have HM2:Hid (∀j u,m≤j→l[j]?=some u→0≤cmpV u.v v):=Lib.hid fun j u hj hu=>Int.not_lt.1 fun h0=>hz (up_lessT HU.out HG.out HY.out hu hj h0)
     go_wp2;go_roundw
     case rel=>exact⟨a,m,rfl,rfl,hma,by omega,HL.out,HM2.out,K2,hbw2⟩
     case measure=>simp[intOf];omega
  ·obtain rfl:a=b:=by omega
   have HP:Hid (PosT l v a):=Lib.hid ⟨hbl,HL.out,HM.out⟩;clear HL HM;have x0:=hK.cell 0 _ rfl;have x1:=hK.cell 1 _ rfl;have x2:=hK.cell 2 _ rfl;have HK:=Lib.hid hK;clear hK;by_cases hal:a<l.length
   ·have hx:=List.getElem?_eq_getElem (l:=l) hal
    generalize l[a]=y at hx;obtain⟨g,off,rfl,-,hc⟩:=tl_at HV.out rfl hx;have HC:=Lib.hid hc;have HI:Hid (isT l v a=(cmpV y.v v==0)):=Lib.hid (by unfold isT;rw[hx]);have HO:=Lib.hid (fun w'=>HOR.out y w');clear hc hx;have m0:(0:Int)≤(a:Int):=by omega
    have m1:(a:Int)<(l.length:Int):=by omega
    have hd:decide ((a:Int)<(l.length:Int))=true:=decide_eq_true m1;obtain⟨d0,d1,d2,d3⟩:=HC.out _ hbw
    go_wp2_with fail
    go_region_held3 (fun w'=>w'.cell? ⟨g,off+a*4,none⟩=some (.int .i64 y.v.k)∧w'.cell? ⟨g,off+a*4+1,none⟩=some (.int .i64 y.v.n)∧w'.cell? ⟨g,off+a*4+2,none⟩=some (.string y.v.s)∧w'.cell? ⟨g,off+a*4+3,none⟩=some (.int .i64 y.n)∧w'.cell? ⟨w.heap.size,0,none⟩=some (.int .i64 v.k)∧w'.cell? ⟨w.heap.size,1,none⟩=some (.int .i64 v.n)∧w'.cell? ⟨w.heap.size,2,none⟩=some (.string v.s))
     (first|go_keep|exact⟨d0,d1,d2,d3,x0,x1,x2⟩|exact z)
     ((go_at_call 196;refine Calls.mono (by with_reducible exact HO.out _) ?_;rintro e w2 ⟨rfl,hb2⟩;have hbw2:=below_trans hbw.drew hb2;have K2:=HK.out.drew.below hb2;obtain⟨e0,e1,e2,e3⟩:=HC.out _ hbw2;have z:=And.intro e0 (And.intro e1 (And.intro e2 (And.intro e3 (And.intro (K2.cell 0 _ rfl) (And.intro (K2.cell 1 _ rfl) (K2.cell 2 _ rfl))))))))
    all_goals
     go_wp2
     go_ret2
     exact⟨a,by rw[HI.out];rfl,HP.out,hbw2⟩
   ·have HI:Hid (isT l v a=false):=Lib.hid (by unfold isT;rw[List.getElem?_eq_none (by omega)])
    have hd:decide ((a:Int)<(l.length:Int))=false:=decide_eq_false (by omega)
    go_wp2_with fail
    go_quiet (fail)
    go_wp2
    go_ret2
    exact⟨a,by rw[HI.out];rfl,HP.out,⟨hbw.os,hbw.tape,hbw.output,hbw.size,hbw.block⟩⟩
end Go.Proofs.YtblhidmkalleoaaGreatDoor
namespace Go.Proofs.YtblhidmkalleoaaGreatDoor
open Go.RowKit
theorem OwnT.below {w w':World}{base:Nat}{v:Value}{l:List Tl}(h:OwnT w base v l)(hb:Below w.heap.size w w'):OwnT w' base v l:=⟨own_below h.own hb⟩
theorem tl_set (l:List Tl)(i:Nat)(x:Tl)(n:Int)(hi:l[i]?=some x):(tlCells l).set (i*4+3) (.int .i64 n)=tlCells (l.take i++(⟨x.v,n⟩::l.drop (i+1))):=by
 obtain⟨hl,rfl⟩:=List.getElem?_eq_some_iff.1 hi;have e:l=l.take i++(l[i]::l.drop (i+1)):=by rw[←List.drop_eq_getElem_cons hl,List.take_append_drop]
 conv=>lhs;rw[e]
 have hll:(tlCells (l.take i)).length=i*4:=by rw[tlCells_len,List.length_take];omega
 rw[tlCells_app,tlCells_app,List.set_append_right _ _ (by omega),hll,show i*4+3-i*4=3 by omega];rfl
set_option maxHeartbeats 8000000 in
set_option maxRecDepth 10000 in
theorem gadd_any (u:Value)(l:List Tl)(v:Val)(n:Int)(base:Nat)(w:World)(h:OwnT w base u l)(hbase:base≤w.heap.size)(hl:l.length≤1073741824)(hU:UpT l)(hv:GoodR [v])(hN: ∀x∈l,-1099511627776≤x.n∧x.n≤1099511627776)(hn:n=1∨n= -1):
 Calls Tryz.prog 142 #[u,.agg #[.int .i64 v.k,.int .i64 v.n,.string v.s],.int .i64 n] w fun e w'=> ∃u',e= .returned (.tuple #[u',.bool (tallyG l v n).2])∧OwnT w' base u' (tallyG l v n).1∧w.grownBy w' u.ownBlock∧(∀k,u'.ownBlock=some k→u.ownBlock=some k∨w.heap.size≤k):=by
 have HO:=Lib.hid h;have HBS:=Lib.hid (fun W (hb:Below w.heap.size w W)=>bsearchT_any u l v W ((Sl.of_own h.own).below hb) (by omega) hU hv);have HINS:=Lib.hid (fun W (hb:Below w.heap.size w W) gs i (hi:i≤l.length) hgb hgs=>insertT_any u l ⟨v,n⟩ base gs i W (h.below hb) (Nat.le_trans hbase hb.size) (by omega) hi hgb hgs trivial trivial);have HNN:=Lib.hid hN;have HTP:=Lib.hid (fun i (hp:PosT l v i)=>tally_pos (n:=n) hp);generalize tallyG l v n=TG at HTP⊢;have hB:=below_alloc w (.cells #[.int .i64 v.k,.int .i64 v.n,.string v.s] 112);have K0:=Blk.new w 112 #[.int .i64 v.k,.int .i64 v.n,.string v.s];obtain⟨A,nl,c,rfl⟩:=own_slice h.own;clear h hU hv hN;go_enter Tryz.func142,Tryz.ntmps142
 go_wp2_with fail
 refine Calls.mono (by with_reducible exact HBS.out _ hB) ?_;rintro e w1 ⟨i,rfl,hp,hb1⟩;have hbw:=below_trans hB hb1;have K1:=K0.below hb1;have x0:=K1.cell 0 _ rfl;have x1:=K1.cell 1 _ rfl;have x2:=K1.cell 2 _ rfl;have HT:=Lib.hid (HTP.out i hp);have hil:=hp.le;cases hT:isT l v i with
 |false=>
  rw[hT]at HT;have ET:=Lib.hid (HT.out.trans (if_neg (by simp)));have HI1:=Lib.hid (HINS.out (w1.alloc (.cells #[.int .i64 v.k,.int .i64 v.n,.string v.s,.int .i64 n] 135)) (hbw.alloc hbw.size _) w1.heap.size i hil (Blk.new w1 135 #[.int .i64 v.k,.int .i64 v.n,.string v.s,.int .i64 n]) (fun e=>by have h1:=(HO.out.own.lt _ e).2;have h2:=hbw.size;omega));have HBA:=Lib.hid (hbw.alloc hbw.size (.cells #[.int .i64 v.k,.int .i64 v.n,.string v.s,.int .i64 n] 135));clear HT hp HTP HBS HINS K0 K1 hb1 hB
  go_wp2_with fail
  refine Calls.mono (by with_reducible exact HI1.out) ?_;rintro e w2 ⟨u2,rfl,ho2,hg2,hat2⟩;have HO2:=Lib.hid ho2;have HG2:=Lib.hid (grown_trans (grown_of_below HBA.out _) hg2);have HAT2:=Lib.hid hat2;have HSB:=Lib.hid HBA.out.size;clear ho2 hg2 hat2 x0 x1 x2;go_wp2
  go_ret2
  exact⟨u2,by rw[ET.out];rfl,by rw[ET.out];exact HO2.out,HG2.out,fun k hk=>by
   rcases HAT2.out with e|e
   ·exact .inl (e▸hk)
   ·exact .inr (Nat.le_trans HSB.out (e k hk))⟩
 |true=>
  rw[hT]at HT;have ET:=Lib.hid (HT.out.trans (if_pos rfl))
  have hil2:i<l.length:=by
   rcases Nat.lt_or_ge i l.length with h|h
   ·exact h
   ·unfold isT at hT;rw[List.getElem?_eq_none h]at hT;cases hT
  have hx:=List.getElem?_eq_getElem (l:=l) hil2;have hgd:l.getD i ⟨v,0⟩=l[i]:=by simp[List.getD,hx]
  rw[hgd]at ET;have hxn:=HNN.out _ (List.getElem_mem hil2);generalize l[i]=y at hx ET hxn;have HO1:=HO.out.below hbw;obtain⟨g,c0,e1,hgb,hgl⟩:=HO1.own.form (by omega);injection e1 with e1 e2 e3;subst e1 e2 e3;have hIx:Hid (l[i]?=some y):=Lib.hid hx
  have d3:w1.cell? ⟨g,i*4+3,none⟩=some (.int .i64 y.n):=by
   rw[HO1.own.cellAt (i*4+3) (by omega)];have:=flat_at Tl.cells_len l i 3 (by omega);rw[hx]at this;exact this
  have f3:=HO1.own.frozenAt (i*4+3);obtain⟨s1,s2⟩:=HO1.own.stored (i*4+3) (.int .i64 (y.n+n));rw[tl_set l i y (y.n+n) hx]at s1;have hlen:(l.take i++(⟨y.v,y.n+n⟩::l.drop (i+1))).length=l.length:=by rw[List.length_append,List.length_cons,List.length_take,List.length_drop];omega
  have d4:(w1.setCell ⟨g,i*4+3,none⟩ (.int .i64 (y.n+n))).cell? ⟨g,i*4+3,none⟩=some (.int .i64 (y.n+n)):=by
   rw[s1.cellAt (i*4+3) (by omega)];have:=flat_at Tl.cells_len (l.take i++(⟨y.v,y.n+n⟩::l.drop (i+1))) i 3 (by omega);rw[List.getElem?_append_right (by rw[List.length_take];omega),show i-(l.take i).length=0 by rw[List.length_take];omega]at this;exact this
  have HS:Hid (OwnT (w1.setCell ⟨g,i*4+3,none⟩ (.int .i64 (y.n+n))) base (.slice (some ⟨g,0,none⟩) l.length c) (l.take i++(⟨y.v,y.n+n⟩::l.drop (i+1)))):=Lib.hid ⟨by rw[hlen];exact s1⟩;have HG1:=Lib.hid (grown_trans (grown_of_below hbw (Value.slice (some ⟨g,0,none⟩) l.length c).ownBlock) s2);have HD:=Lib.hid (fun(hz:y.n+n=0)=>deleteT_any _ _ base i _ HS.out (by rw[hlen];exact hil2));have i0:(0:Int)≤(i:Int):=by omega
  have i1:(i:Int)<(l.length:Int):=by omega
  have hw1:IntKind.i64.wrap (y.n+n)=y.n+n:=by rw[IntKind.wrap_i64];rcases hn with hn|hn<;>omega
  have hw2:IntKind.i64.wrap ((i:Int)+1)=(i:Int)+1:=by rw[IntKind.wrap_i64];omega
  have HTD:Hid ((l.take i++(⟨y.v,y.n+n⟩::l.drop (i+1))).take i=l.take i∧(l.take i++(⟨y.v,y.n+n⟩::l.drop (i+1))).drop (i+1)=l.drop (i+1)):=Lib.hid (by
   have hli:(l.take i).length=i:=by rw[List.length_take];omega
   exact⟨List.take_left' hli,by rw[List.drop_append,hli,List.drop_of_length_le (by omega),show i+1-i=1 by omega];rfl⟩)
  have HWS:Hid (w.heap.size≤w1.heap.size):=Lib.hid hbw.size;by_cases hz:y.n+n=0
  ·have q1:=beqT hz
   have HDD:=HD.out hz;rw[HTD.out.1,HTD.out.2]at HDD;have HDD:=Lib.hid HDD;have ET2:Hid (TG=(l.take i++l.drop (i+1),true)):=Lib.hid (by rw[ET.out,if_pos hz];rfl);clear HT hp HTP HBS HINS K0 K1 hb1 hB s1 s2 hx hlen HD hz ET hgd hxn hT hn HO1;have HGN:=Lib.hid hgl;clear hgl hgb x0 x1 x2
   go_wp2_with fail
   refine Calls.mono (by with_reducible exact HDD.out) ?_;rintro e w2 ⟨u2,rfl,ho2,hg2,hat2⟩;have HO2:=Lib.hid ho2;have HG2:=Lib.hid (grown_trans HG1.out hg2);have HAT2:=Lib.hid hat2;clear ho2 hg2 hat2 d3 d4 f3;go_wp2
   go_ret2
   exact⟨u2,by rw[ET2.out];rfl,by rw[ET2.out];exact HO2.out,HG2.out,fun k hk=> .inl (HAT2.out▸hk)⟩
  ·have q1:=beqF hz
   have ET2:Hid (TG=(l.take i++(⟨y.v,y.n+n⟩::l.drop (i+1)),true)):=Lib.hid (by rw[ET.out,if_neg hz];rfl);clear HT hp HTP HBS HINS K0 K1 hb1 hB s1 s2 hx hlen HD hz ET hgd hxn hT hn HO1;go_wp2
   go_ret2
   exact⟨_,by rw[ET2.out];rfl,by rw[ET2.out];exact HS.out,HG1.out,fun k hk=> .inl hk⟩
end Go.Proofs.YtblhidmkalleoaaGreatDoor
namespace Go.Proofs.YtblhidmkalleoaaGreatDoor
open Go.RowKit Go.Maps
structure Turned (F:Nat→Prop) (w w':World):Prop where
 os:w'.os=w.os
 tape:w'.tape=w.tape
 output:w'.output=w.output
 size:w.heap.size≤w'.heap.size
 same: ∀k,k<w.heap.size→ ¬F k→w'.heap[k]?=w.heap[k]?
theorem Turned.refl (F:Nat→Prop)(w:World):Turned F w w:=⟨rfl,rfl,rfl,Nat.le_refl _,fun _ _ _=>rfl⟩
theorem Turned.trans {F:Nat→Prop}{a b c:World}(h:Turned F a b)(k:Turned F b c):Turned F a c:=
 ⟨k.os.trans h.os,k.tape.trans h.tape,k.output.trans h.output,Nat.le_trans h.size k.size,fun i hi hf=>(k.same i (Nat.lt_of_lt_of_le hi h.size) hf).trans (h.same i hi hf)⟩
theorem Turned.imp {F G:Nat→Prop}{w w':World}(h:Turned F w w')(hi: ∀k,k<w.heap.size→F k→G k):Turned G w w':=⟨h.os,h.tape,h.output,h.size,fun k hk hg=>h.same k hk fun hf=>hg (hi k hk hf)⟩
theorem Turned.transN {F G:Nat→Prop}{a b c:World}(h:Turned F a b)(k:Turned G b c)(hi: ∀i,i<a.heap.size→G i→F i):Turned F a c:=
 ⟨k.os.trans h.os,k.tape.trans h.tape,k.output.trans h.output,Nat.le_trans h.size k.size,fun i hl hf=>(k.same i (Nat.lt_of_lt_of_le hl h.size) fun hg=>hf (hi i hl hg)).trans (h.same i hl hf)⟩
theorem turned_grown {w w':World}{row:Option Nat}(h:w.grownBy w' row):Turned (fun k=>row=some k) w w':=⟨h.os,h.tape,h.output,h.size,fun k hk hf=>h.block k hk (fun e=>hf e.symm)⟩
theorem turned_below {F:Nat→Prop}{w w':World}(h:Below w.heap.size w w'):Turned F w w':=⟨h.os,h.tape,h.output,h.size,fun k hk _=>h.block k hk⟩
theorem turned_set (w:World)(p:Addr)(u:Value):Turned (fun k=>k=p.block) w (w.setCell p u):=⟨rfl,rfl,rfl,by rw[World.size_setCell];exact Nat.le_refl _,fun k _ hf=>Below.heap_setCell w p u k hf⟩
theorem Turned.below {F:Nat→Prop}{w w':World}{base:Nat}(h:Turned F w w')(hb:base≤w.heap.size)(hf: ∀k,F k→base≤k):Below base w w':=⟨h.os,h.tape,h.output,h.size,fun k hk=>h.same k (by omega) fun e=>by have:=hf k e;omega⟩
theorem below_turned {F:Nat→Prop}{a w w':World}(hb:Below a.heap.size a w)(h:Turned F w w')(hf: ∀k,F k→a.heap.size≤k):Below a.heap.size a w':=hb.trans (h.below hb.size hf)
theorem blk_turned {F:Nat→Prop}{w w':World}{g:Nat}{t:TypeId}{cs:Array Value}(h:Blk w g t cs)(ht:Turned F w w')(hg: ¬F g):Blk w' g t cs:=(ht.same g h.lt hg).trans h
theorem sl_turned {F:Nat→Prop}{w w':World}{v:Value}{n:Nat}{cs:List Value}(h:Sl w v n cs)(ht:Turned F w w')(hg: ∀k,v.ownBlock=some k→ ¬F k):Sl w' v n cs:=by
 obtain⟨A,c,rfl,h1,h2,h0,h3⟩:=h;refine⟨A,c,rfl,h1,h2,h0,fun hne=> ?_⟩;obtain⟨b,off,rfl,hc⟩:=h3 hne;refine⟨b,off,rfl,fun j u hj=> ?_⟩;have h4:=hc j u hj;rw[World.cell?_of_block (ht.same b (World.block_lt_of_cell? w _ h4) (hg b rfl))];exact h4
theorem own_turned {F:Nat→Prop}{w w':World}{base:Nat}{e:TypeId}{size n:Nat}{v:Value}{xs:List Value}(h:w.ownsRow base e size v n xs)(ht:Turned F w w')(hg: ∀k,v.ownBlock=some k→ ¬F k):w'.ownsRow base e size v n xs:=by
 refine⟨h.1,?_⟩;rcases h.2 with hn|⟨g,cap,cur,rfl,hb,hgg,rest⟩
 ·exact .inl hn
 ·exact .inr ⟨g,cap,cur,rfl,hb,(ht.same g (Array.getElem?_eq_some_iff.1 hgg).1 (hg g rfl)).trans hgg,rest⟩
theorem map_turned {F:Nat→Prop}{w w':World}{R:Value→Option (DataW Unit×List MemPlace)}{M n:Nat}{D:DataW Unit}(h:w.ownsMap Tryz.prog 9 R M n D)(ht:Turned F w w')(hM: ¬F M):w'.ownsMap Tryz.prog 9 R M n D:=by
 have hlt:=h.lt;obtain⟨es,clock,hb,r⟩:=h;exact⟨es,clock,(ht.same M hlt hM).trans hb,r⟩
def GBk (b:Nat) (x:Gm) (k:Nat):Prop:=k=b∨x.v.ownBlock=some k∨x.vb.ownBlock=some k∨ ∃q∈x.bags,q.1.ownBlock=some k
structure GpO (w:World) (base b:Nat) (x:Gm):Prop where
 cell:Blk w b 97 #[x.v,.int .i64 x.n,x.vb]
 row:Sl w x.v x.r.length (rowCells x.r)
 sl:w.ownsRow base 107 1 x.vb x.bags.length (x.bags.map (·.1))
 bag: ∀q∈x.bags,w.ownsRow base 135 4 q.1 q.2.length (tlCells q.2)
 range: ∀k,GBk b x k→base≤k∧k<w.heap.size
 bv:x.v.ownBlock≠some b
 bvb:x.vb.ownBlock≠some b
 bq: ∀q∈x.bags,q.1.ownBlock≠some b
 vvb: ∀k,x.v.ownBlock=some k→x.vb.ownBlock≠some k
 vq: ∀k,x.v.ownBlock=some k→ ∀q∈x.bags,q.1.ownBlock≠some k
 vbq: ∀k,x.vb.ownBlock=some k→ ∀q∈x.bags,q.1.ownBlock≠some k
 pair:x.bags.Pairwise fun p q=> ∀k,p.1.ownBlock=some k→q.1.ownBlock≠some k
theorem GpO.turned {F:Nat→Prop}{w w':World}{base b:Nat}{x:Gm}(h:GpO w base b x)(ht:Turned F w w')(hf: ∀k,GBk b x k→ ¬F k):GpO w' base b x:=
 ⟨blk_turned h.cell ht (hf b (.inl rfl)),sl_turned h.row ht fun k hk=>hf k (.inr (.inl hk)),own_turned h.sl ht fun k hk=>hf k (.inr (.inr (.inl hk))),fun q hq=>own_turned (h.bag q hq) ht fun k hk=>hf k (.inr (.inr (.inr ⟨q,hq,hk⟩))),
  fun k hk=>⟨(h.range k hk).1,Nat.lt_of_lt_of_le (h.range k hk).2 ht.size⟩,h.bv,h.bvb,h.bq,h.vvb,h.vq,h.vbq,h.pair⟩
theorem GpO.below {w w':World}{base b:Nat}{x:Gm}(h:GpO w base b x)(hb:Below w.heap.size w w'):GpO w' base b x:=h.turned (turned_below (F:=fun _=>False) hb) fun _ _ hf=>hf
theorem GpO.ok {w:World}{base b:Nat}{x:Gm}(h:GpO w base b x):x.ok w:=⟨h.row,Sl.of_own h.sl,fun q hq=>Sl.of_own (h.bag q hq)⟩
theorem GpO.setN {w:World}{base b:Nat}{x:Gm}(h:GpO w base b x)(n:Int):GpO (w.setCell ⟨b,1,none⟩ (.int .i64 n)) base b ⟨x.v,x.r,n,x.vb,x.bags⟩:=by
 have ht:=turned_set w ⟨b,1,none⟩ (.int .i64 n)
 refine⟨h.cell.set_ 1 (.int .i64 n),sl_turned h.row ht fun k hk e=>h.bv (by rw[hk];exact congrArg some e),own_turned h.sl ht fun k hk e=>h.bvb (by rw[hk];exact congrArg some e),fun q hq=>own_turned (h.bag q hq) ht fun k hk e=>h.bq q hq (by rw[hk];exact congrArg some e),
  fun k hk=> ?_,h.bv,h.bvb,h.bq,h.vvb,h.vq,h.vbq,h.pair⟩
 have:=h.range k hk;rw[World.size_setCell];exact this
theorem GpO.setBag {w w':World}{base b g cap i:Nat}{x:Gm}{q:Value×List Tl}{u:Value}{l:List Tl}(h:GpO w base b x)(hvb:x.vb= .slice (some ⟨g,0,none⟩) x.bags.length cap)(hq:x.bags[i]?=some q)(hg:w.grownBy w' q.1.ownBlock)(ho:OwnT w' base u l)(hu: ∀k,u.ownBlock=some k→q.1.ownBlock=some k∨w.heap.size≤k):
 GpO (w'.setCell ⟨g,i,none⟩ u) base b ⟨x.v,x.r,x.n,x.vb,x.bags.set i (u,l)⟩∧Turned (fun k=>q.1.ownBlock=some k∨k=g) w (w'.setCell ⟨g,i,none⟩ u):=by
 have hil:i<x.bags.length:=(List.getElem?_eq_some_iff.1 hq).1;have hqm:q∈x.bags:=List.mem_of_getElem? hq;have hgb:x.vb.ownBlock=some g:=by rw[hvb];rfl
 have ht1:=turned_grown hg;have ht2:=turned_set w' ⟨g,i,none⟩ u;have ht:Turned (fun k=>q.1.ownBlock=some k∨k=g) w (w'.setCell ⟨g,i,none⟩ u):=(ht1.imp fun k _ h=>Or.inl h).trans (ht2.imp fun k _ h=>Or.inr h);have hgs:=h.range g (.inr (.inr (.inl hgb)));have hgr: ∀k,q.1.ownBlock=some k→base≤k∧k<w.heap.size:=fun k hk=>h.range k (.inr (.inr (.inr ⟨q,hqm,hk⟩)))
 have hug:u.ownBlock≠some g:=fun e=>by
  rcases hu g e with h1|h1
  ·exact h.vbq g hgb q hqm h1
  ·omega
 have hset: ∀p∈x.bags.set i (u,l),p=(u,l)∨ ∃j,j≠i∧x.bags[j]?=some p:=fun p hp=>by
  obtain⟨j,hj⟩:=List.mem_iff_getElem?.1 hp;by_cases hne:i=j
  ·subst hne
   rw[List.getElem?_set_self hil]at hj;injection hj with hj;exact .inl hj.symm
  ·rw[List.getElem?_set_ne hne]at hj
   exact .inr ⟨j,fun e=>hne e.symm,hj⟩
 have hoth: ∀ {j:Nat} {p:Value×List Tl},j≠i→x.bags[j]?=some p→ ∀k,p.1.ownBlock=some k→q.1.ownBlock≠some k:=fun{j p} hne hp k hk e=>by
  obtain⟨h1,e1⟩:=List.getElem?_eq_some_iff.1 hp;obtain⟨h2,e2⟩:=List.getElem?_eq_some_iff.1 hq;rcases Nat.lt_or_ge j i with hlt|hge
  ·have:=List.pairwise_iff_getElem.1 h.pair j i h1 h2 hlt
   rw[e1,e2]at this;exact this k hk e
  ·have:=List.pairwise_iff_getElem.1 h.pair i j h2 h1 (by omega)
   rw[e1,e2]at this;exact this k e hk
 have hold: ∀ {j:Nat} {p:Value×List Tl},x.bags[j]?=some p→ ∀k,p.1.ownBlock=some k→k<w.heap.size∧base≤k:=fun{j p} hp k hk=>by
  have:=h.range k (.inr (.inr (.inr ⟨p,List.mem_of_getElem? hp,hk⟩)));omega
 have hsz:w.heap.size≤(w'.setCell ⟨g,i,none⟩ u).heap.size:=ht.size;have huw: ∀k,u.ownBlock=some k→k<(w'.setCell ⟨g,i,none⟩ u).heap.size:=fun k hk=>by rw[World.size_setCell];exact(ho.own.lt k hk).2
 have hub: ∀k,u.ownBlock=some k→base≤k:=fun k hk=>(ho.own.lt k hk).1;refine⟨⟨?_,?_,?_,fun p hp=> ?_,fun k hk=> ?_,h.bv,h.bvb,fun p hp e=> ?_,h.vvb,fun k hk p hp e=> ?_,fun k hk p hp e=> ?_,?_⟩,ht⟩
 ·refine blk_turned h.cell ht fun hf=> ?_
  rcases hf with hf|hf
  ·exact h.bq q hqm hf
  ·exact h.bvb (hf▸hgb)
 ·refine sl_turned h.row ht fun k hk hf=> ?_
  rcases hf with hf|hf
  ·exact h.vq k hk q hqm hf
  ·exact h.vvb k hk (hf▸hgb)
 ·have h1:w'.ownsRow base 107 1 (.slice (some ⟨g,0,none⟩) x.bags.length cap) x.bags.length (x.bags.map (·.1)):=by
   rw[←hvb];exact own_turned h.sl ht1 fun k hk hf=>h.vbq k hk q hqm hf
  have h2:=(h1.stored i u).1;show(w'.setCell ⟨g,i,none⟩ u).ownsRow base 107 1 x.vb (x.bags.set i (u,l)).length ((x.bags.set i (u,l)).map (·.1));rw[hvb,List.length_set,List.map_set];exact h2
 ·rcases hset p hp with rfl|⟨j,hj,hjp⟩
  ·exact own_turned ho.own ht2 fun k hk hf=>hug (by rw[hk];exact congrArg some hf)
  ·refine own_turned (h.bag p (List.mem_of_getElem? hjp)) ht fun k hk hf=> ?_
   rcases hf with hf|hf
   ·exact hoth hj hjp k hk hf
   ·exact h.vbq k (hf▸hgb) p (List.mem_of_getElem? hjp) hk
 ·rcases hk with hk|hk|hk|⟨p,hp,hk⟩
  ·have:=h.range k (.inl hk);omega
  ·have:=h.range k (.inr (.inl hk));omega
  ·have:=h.range k (.inr (.inr (.inl hk)));omega
  ·rcases hset p hp with rfl|⟨j,hj,hjp⟩
   ·exact⟨hub k hk,huw k hk⟩
   ·have:=hold hjp k hk;omega
 ·rcases hset p hp with rfl|⟨j,hj,hjp⟩
  ·rcases hu b e with h1|h1
   ·exact h.bq q hqm h1
   ·have:=(h.range b (.inl rfl)).2;omega
  ·exact h.bq p (List.mem_of_getElem? hjp) e
 ·rcases hset p hp with rfl|⟨j,hj,hjp⟩
  ·rcases hu k e with h1|h1
   ·exact h.vq k hk q hqm h1
   ·have:=(h.range k (.inr (.inl hk))).2;omega
  ·exact h.vq k hk p (List.mem_of_getElem? hjp) e
 ·rcases hset p hp with rfl|⟨j,hj,hjp⟩
  ·rcases hu k e with h1|h1
   ·exact h.vbq k hk q hqm h1
   ·have:=(h.range k (.inr (.inr (.inl hk)))).2;omega
  ·exact h.vbq k hk p (List.mem_of_getElem? hjp) e
 ·rw[List.pairwise_iff_getElem]
  intro m n hm hn hmn k hk e
  have hnew: ∀ {j:Nat} {p:Value×List Tl},j≠i→x.bags[j]?=some p→p.1.ownBlock=some k→u.ownBlock=some k→False:=fun{j p} hj hp hk1 hk2=>by
   rcases hu k hk2 with h1|h1
   ·exact hoth hj hp k hk1 h1
   ·have:=(hold hp k hk1).1;omega
  rw[List.length_set]at hm hn;have em:=List.getElem?_eq_getElem hm;have en:=List.getElem?_eq_getElem hn;rw[List.getElem_set]at hk e;split at hk
  ·rename_i h1
   split at e
   ·omega
   ·exact hnew (by omega) en e hk
  ·rename_i h1
   split at e
   ·exact hnew (by omega) em hk e
   ·exact List.pairwise_iff_getElem.1 h.pair m n hm hn hmn k hk e
def ptrE (v:Value):Option (DataW Unit×List MemPlace):=match v with
 | .pointer none=>some (.lit (.int .i64 0),[])
 | .pointer (some ⟨b,0,none⟩)=>some (.lit (.int .i64 ((b:Int)+1)),[])
 |_=>none
theorem ptrE_inv {v:Value}{n:Int}{ps:List MemPlace}(h:ptrE v=some (.lit (.int .i64 n),ps)):(n=0∧v= .pointer none)∨ ∃b:Nat,n=(b:Int)+1∧v= .pointer (some ⟨b,0,none⟩):=by
 unfold ptrE at h;split at h
 ·injection h with h;injection h with h1 h2;injection h1 with h1;injection h1 with h1 h1;exact .inl ⟨h1.symm,rfl⟩
 ·injection h with h;injection h with h1 h2;injection h1 with h1;injection h1 with h1 h1;exact .inr ⟨_,h1.symm,rfl⟩
 ·cases h
def ax (X:List (Nat×Gm)):AV:=X.map fun p=>(p.2.r,(p.1:Int)+1)
def gx (X:List (Nat×Gm)):List Gp:=X.map fun p=>p.2.gp
structure GMap (w:World) (base M N:Nat) (X:List (Nat×Gm)):Prop where
 map: ∃n,n≤N∧w.ownsMap Tryz.prog 9 ptrE M n (mkD (ax X))
 mb:base≤M
 each: ∀p∈X,GpO w base p.1 p.2
 far: ∀p∈X,¬GBk p.1 p.2 M
 apart:X.Pairwise fun p q=> ∀k,GBk p.1 p.2 k→ ¬GBk q.1 q.2 k
def MBk (M:Nat) (X:List (Nat×Gm)) (k:Nat):Prop:=k=M∨ ∃p∈X,GBk p.1 p.2 k
theorem GMap.lt {w:World}{base M N:Nat}{X:List (Nat×Gm)}(h:GMap w base M N X):M<w.heap.size:=by
 obtain⟨n,-,h⟩:=h.map;exact h.lt
theorem GMap.range {w:World}{base M N:Nat}{X:List (Nat×Gm)}(h:GMap w base M N X){k:Nat}(hk:MBk M X k):base≤k∧k<w.heap.size:=by
 rcases hk with rfl|⟨p,hp,hk⟩
 ·exact⟨h.mb,h.lt⟩
 ·exact(h.each p hp).range k hk
theorem GMap.turned {F:Nat→Prop}{w w':World}{base M N:Nat}{X:List (Nat×Gm)}(h:GMap w base M N X)(ht:Turned F w w')(hf: ∀k,MBk M X k→ ¬F k):GMap w' base M N X:=by
 obtain⟨n,hn,hm⟩:=h.map;exact⟨⟨n,hn,map_turned hm ht (hf M (.inl rfl))⟩,h.mb,fun p hp=>(h.each p hp).turned ht fun k hk=>hf k (.inr ⟨p,hp,hk⟩),h.far,h.apart⟩
theorem GMap.below {w w':World}{base M N:Nat}{X:List (Nat×Gm)}(h:GMap w base M N X)(hb:Below w.heap.size w w'):GMap w' base M N X:=h.turned (turned_below (F:=fun _=>False) hb) fun _ _ hf=>hf
end Go.Proofs.YtblhidmkalleoaaGreatDoor
namespace Go.Proofs.YtblhidmkalleoaaGreatDoor
open Go.RowKit Go.Maps
theorem GpO.addBag {w w2 w3:World}{base b:Nat}{x:Gm}{u v3:Value}{l:List Tl}(h:GpO w base b x)(hb:Below w.heap.size w w2)(ho:OwnT w2 base u l)(hu: ∀k,u.ownBlock=some k→w.heap.size≤k)(hown:w3.ownsRow base 107 1 v3 (x.bags.length+1) (x.bags.map (·.1)++[u]))(hg:w2.grownBy w3 x.vb.ownBlock)
 (hat:v3.ownBlock=x.vb.ownBlock∨ ∀k,v3.ownBlock=some k→w2.heap.size≤k):GpO (w3.setCell ⟨b,2,none⟩ v3) base b ⟨x.v,x.r,x.n,v3,x.bags++[(u,l)]⟩∧Turned (fun k=>k=b∨x.vb.ownBlock=some k) w (w3.setCell ⟨b,2,none⟩ v3):=by
 have ht0:Turned (fun k=>x.vb.ownBlock=some k) w w3:=(turned_below hb).transN (turned_grown hg) fun _ _ h=>h;have ht1:=turned_set w3 ⟨b,2,none⟩ v3;have ht:Turned (fun k=>k=b∨x.vb.ownBlock=some k) w (w3.setCell ⟨b,2,none⟩ v3):=(ht0.imp fun k _ h=>Or.inr h).trans (ht1.imp fun k _ h=>Or.inl h)
 have hv3: ∀k,v3.ownBlock=some k→x.vb.ownBlock=some k∨w2.heap.size≤k:=fun k hk=>by
  rcases hat with e|e
  ·exact .inl (e▸hk)
  ·exact .inr (e k hk)
 have hub: ∀k,u.ownBlock=some k→base≤k∧w.heap.size≤k∧k<w2.heap.size:=fun k hk=>⟨(ho.own.lt k hk).1,hu k hk,(ho.own.lt k hk).2⟩;have hww:=hb.size;have hb0:=h.range b (.inl rfl);have hbag: ∀q∈x.bags++[(u,l)],q∈x.bags∨q=(u,l):=fun q hq=>by simpa using hq
 refine⟨⟨?_,?_,?_,fun q hq=> ?_,fun k hk=> ?_,h.bv,fun e=> ?_,fun q hq e=> ?_,fun k hk e=> ?_,fun k hk q hq e=> ?_,fun k hk q hq e=> ?_,?_⟩,ht⟩
 ·exact(blk_turned h.cell ht0 fun hf=>h.bvb hf).set_ 2 v3
 ·refine sl_turned h.row ht fun k hk hf=> ?_
  rcases hf with hf|hf
  ·exact h.bv (by rw[hk,hf])
  ·exact h.vvb k hk hf
 ·show(w3.setCell ⟨b,2,none⟩ v3).ownsRow base 107 1 v3 (x.bags++[(u,l)]).length ((x.bags++[(u,l)]).map (·.1))
  rw[List.length_append,List.map_append];refine own_turned hown ht1 fun k hk hf=> ?_;rcases hv3 k hk with e|e
  ·exact h.bvb (by rw[e];exact congrArg some hf)
  ·have hf:k=b:=hf
   omega
 ·rcases hbag q hq with hq|rfl
  ·refine own_turned (h.bag q hq) ht fun k hk hf=> ?_
   rcases hf with hf|hf
   ·exact h.bq q hq (by rw[hk,hf])
   ·exact h.vbq k hf q hq hk
  ·refine own_turned ho.own (((turned_grown hg).imp (G:=fun k=>k=b∨x.vb.ownBlock=some k) fun k _ h=>Or.inr h).trans (ht1.imp fun k _ h=>Or.inl h)) fun k hk hf=> ?_
   have h1:=hub k hk;rcases hf with hf|hf
   ·omega
   ·have:=(h.range k (.inr (.inr (.inl hf)))).2
    omega
 ·have h3:w2.heap.size≤(w3.setCell ⟨b,2,none⟩ v3).heap.size:=by rw[World.size_setCell];exact hg.size
  rcases hk with hk|hk|hk|⟨q,hq,hk⟩
  ·have:=h.range k (.inl hk);omega
  ·have:=h.range k (.inr (.inl hk));omega
  ·have:=hown.lt k hk
   rw[World.size_setCell];exact this
  ·rcases hbag q hq with hq|rfl
   ·have:=h.range k (.inr (.inr (.inr ⟨q,hq,hk⟩)));omega
   ·have:=hub k hk;omega
 ·rcases hv3 b e with e|e
  ·exact h.bvb e
  ·omega
 ·rcases hbag q hq with hq|rfl
  ·exact h.bq q hq e
  ·have:=hub b e;omega
 ·rcases hv3 k e with e|e
  ·exact h.vvb k hk e
  ·have:=(h.range k (.inr (.inl hk))).2;omega
 ·rcases hbag q hq with hq|rfl
  ·exact h.vq k hk q hq e
  ·have:=hub k e;have:=(h.range k (.inr (.inl hk))).2;omega
 ·rcases hbag q hq with hq|rfl
  ·rcases hv3 k hk with e1|e1
   ·exact h.vbq k e1 q hq e
   ·have:=(h.range k (.inr (.inr (.inr ⟨q,hq,e⟩)))).2;omega
  ·have h1:=hub k e
   rcases hv3 k hk with e1|e1
   ·have:=(h.range k (.inr (.inr (.inl e1)))).2;omega
   ·omega
 ·refine List.pairwise_append.2 ⟨h.pair,List.pairwise_singleton _ _,fun p hp q hq k hk e=> ?_⟩
  rw[List.mem_singleton.1 hq]at e;have:=hub k e;have:=(h.range k (.inr (.inr (.inr ⟨p,hp,hk⟩)))).2;omega
end Go.Proofs.YtblhidmkalleoaaGreatDoor
namespace Go.Proofs.YtblhidmkalleoaaGreatDoor
open Go.RowKit
theorem bagI:EInfo Tryz.prog 107 1 24:=by
 have h:(Tryz.prog.info? 107).map (fun i=>(i.zero,i.size,i.bytes))=some (some (.slice none 0 0),1,24):=by kernel_rfl
 obtain⟨i,hi,h1,h2,h3⟩:=info_parts h;exact⟨i,_,hi,h1,h2,h3,rfl,by omega⟩
set_option maxHeartbeats 8000000 in
set_option maxRecDepth 10000 in
theorem gown_any (g:Gm)(w:World)(hg:g.ok w)(h8:g.r.length≤1099511627776)(hbl:g.bags.length≤1000000)(hlb: ∀q∈g.bags,q.2.length≤1099511627776):
 Calls Tryz.prog 140 #[g.agg] w fun e w'=> ∃(b:Nat) (x:Gm),e= .returned (.pointer (some ⟨b,0,none⟩))∧GpO w' w.heap.size b x∧x.gp=g.gp∧Below w.heap.size w w':=by
 have HG:=Lib.hid hg;have HCL:=Lib.hid (fun W (h:Below w.heap.size w W)=>clone_own g.v g.r W (hg.row.below h) h8);have HBC:=Lib.hid (fun W (h:Below w.heap.size w W) (q:Value×List Tl) (hq:q∈g.bags)=>clone_bag q.1 q.2 W ((hg.bags q hq).below h) (hlb q hq));obtain⟨Z,hZ⟩: ∃Z,g.gp=Z:=⟨_,rfl⟩;have HZ:Hid (Z=⟨g.r,g.n,g.bags.map (·.2)⟩):=Lib.hid (by rw[←hZ];rfl);rw[hZ];clear hZ;obtain⟨gv,gr,gn,gvb,gbags⟩:=g;obtain⟨Ar,cr,hv,nr,mr,-⟩:=id hg.row;obtain⟨Ab,cb,hvb,nb,mb,-⟩:=id hg.sl;simp only at hv hvb nr nb h8 hbl HZ;subst hv hvb;unfold maxLen at mr mb;unfold Gm.agg;simp only at HCL HBC hlb⊢;have HK0:=Lib.hid (Blk.new w 97 #[.slice Ar gr.length cr,.int .i64 gn,.slice Ab gbags.length cb]);have HSS:=Lib.hid (fun w' (h:Below (w.alloc (.cells #[.slice Ar gr.length cr,.int .i64 gn,.slice Ab gbags.length cb] 97)).heap.size (w.alloc (.cells #[.slice Ar gr.length cr,.int .i64 gn,.slice Ab gbags.length cb] 97)) w')=>And.intro ((HK0.out.below h).cell 0 _ rfl) ((HK0.out.below h).cell 1 _ rfl));have HBW:=Lib.hid (below_alloc w (.cells #[.slice Ar gr.length cr,.int .i64 gn,.slice Ab gbags.length cb] 97));clear hg;go_enter Tryz.func140,Tryz.ntmps140
 go_wp2_with fail
 refine tr (S:=(fun w'=>w'.cell? ⟨w.heap.size,0,none⟩=some (.slice Ar gr.length cr)∧w'.cell? ⟨w.heap.size,1,none⟩=some (.int .i64 gn))) (HSS.out _ (Below.refl _ (w.alloc (.cells #[.slice Ar gr.length cr,.int .i64 gn,.slice Ab gbags.length cb] 97))).drew) (fun hHeld=> ?_);refine tk 0 ?_;refine tk 1 ?_;refine tk 3 ?_;refine tk 4 ?_;refine tc 2 ?_;intro K hK;go_simp;refine Calls.mono (by with_reducible exact HCL.out _ (below_alloc w (.cells #[.slice Ar gr.length cr,.int .i64 gn,.slice Ab gbags.length cb] 97)).drew) ?_;rintro e wA ⟨vA,rfl,hownA,hbA⟩;have hbwA:=below_trans (Below.refl _ (w.alloc (.cells #[.slice Ar gr.length cr,.int .i64 gn,.slice Ab gbags.length cb] 97))).drew hbA;have Z2:=HSS.out _ hbwA;obtain⟨BA,nA,bA,rfl⟩:=own_slice hownA
 go_wp2_with fail
 refine hK.out _ _ Z2 (fun hHeld2=> ?_);clear hK K;refine tk 5 ?_;refine tc 6 ?_;intro K hK;go_simp;refine hK.out _ _ (HSS.out _ (below_trans hbwA (below_alloc _ (.cells #[.slice BA nA bA,.int .i64 gn,.slice none 0 0] 97)))) (fun hHeld6=> ?_);clear hK K;refine tk 7 ?_;refine td ?_;have HO2:=Lib.hid hownA;have HK2:=Lib.hid ((HK0.out.below hbwA).alloc (.cells #[.slice BA nA bA,.int .i64 gn,.slice none 0 0] 97));have hbw3:=below_trans HBW.out (below_trans hbwA (below_alloc _ (.cells #[.slice BA nA bA,.int .i64 gn,.slice none 0 0] 97)));have hs2:w.heap.size+1≤wA.heap.size:=by have:=hbwA.size;simp at this;omega
 have HS2:=Lib.hid hs2;have HBX:=Lib.hid hbw3
 have HX0:Hid (GpO (wA.alloc (.cells #[.slice BA nA bA,.int .i64 gn,.slice none 0 0] 97)) w.heap.size wA.heap.size ⟨.slice BA nA bA,gr,gn,.slice none 0 0,[]⟩):=Lib.hid (by
  have h1:=own_ge HO2.out;have h2:=own_lt HO2.out;simp only[World.size_drew,World.size_alloc]at h1;refine⟨Blk.new _ _ _,(Sl.of_own HO2.out).below (below_alloc _ _),⟨rfl,.inl ⟨rfl,rfl⟩⟩,nofun,fun k hk=> ?_,fun e=> ?_,nofun,nofun,fun k _ e=>(by cases e),fun k _ q hq=>(by cases hq),fun k _ q hq=>(by cases hq),List.Pairwise.nil⟩
  ·rw[World.size_alloc]
   rcases hk with rfl|hk|hk|⟨q,hq,-⟩
   ·have:=HS2.out;omega
   ·have:=h1 k hk;have:=h2 k hk;omega
   ·cases hk
   ·cases hq
  ·have:=h2 _ e;omega)
 have y2:=HK2.out.cell 2 _ rfl;clear hownA hbA hbwA hbw3 hs2
 go_wp2_with fail
 go_loopw[5,16] (fun _ i wr=> ∃(k:Nat) (vb:Value) (bags:List (Value×List Tl)),k≤gbags.length∧i= .int .i64 k∧Hid (bags.map (·.2)=(gbags.take k).map (·.2))∧Hid (GpO wr w.heap.size wA.heap.size ⟨.slice BA nA bA,gr,gn,vb,bags⟩)∧Hid (Below w.heap.size w wr)) (fun _ i _=>gbags.length-(intOf i).toNat)
 case atStart=>exact⟨0,_,[],by omega,rfl,Lib.hid rfl,HX0,HBX⟩
 case round=>
  clear y2;obtain⟨k,vb,bags,hk,rfl,HBG,HX,HBR⟩:=hrel;obtain⟨Ax,nx,cx,rfl⟩:=own_slice HX.out.sl;by_cases hlt:k<gbags.length
  ·have hq:=List.getElem?_eq_getElem (l:=gbags) hlt
   generalize gbags[k]=q at hq;obtain⟨bb,ob,rfl,-,hcb⟩:=cellv_at HG.out.sl rfl hq;have d0:=hcb _ HBR.out;obtain⟨Aq,cq,e1,-⟩:=id (HG.out.bags q (List.mem_of_getElem? hq));have HCB:=Lib.hid (fun W (h:Below wr.heap.size wr W)=>HBC.out W (below_trans HBR.out h) q (List.mem_of_getElem? hq));have HST:=Lib.hid (map_step (f:=fun q:Value×List Tl=>q.2) hq);have hlen:bags.length=k:=by have:=congrArg List.length HBG.out;simp at this;omega
   have Q1:Hid (bags.length+1≤maxLen):=Lib.hid (by unfold maxLen;omega);have Q2:Hid ((bags.length+1)*24≤140737488355328):=Lib.hid (by omega);rw[e1]at d0 HCB;clear hq hcb e1 hlen
   go_wp2_with fail
   refine tr (S:=(fun w'=>wr.heap.size≤w'.heap.size)) (Nat.le_refl _) (fun hHeld=> ?_);refine tk 0 ?_;refine tk 1 ?_;refine tk 2 ?_;refine tk 3 ?_;refine tk 5 ?_;refine tc2 4 6 ?_ ?_;intro K hK;have y2:=(HX.out.cell).drew.cell 2 _ rfl;go_simp;refine hK.out _ _ (Nat.le_refl _) (fun hHeld4=> ?_);clear hK K;refine tc 6 ?_;intro K hK;go_simp;refine Calls.mono (by with_reducible exact HCB.out _ (Below.refl _ wr).drew) ?_;rintro e w2 ⟨u2,rfl,hown2,hb2⟩;have hbw2:=below_trans (Below.refl _ wr).drew hb2;obtain⟨Au,nu,cu,rfl⟩:=own_slice hown2
   go_wp2_with fail
   refine hK.out _ _ hbw2.size (fun hHeld6=> ?_);clear hK K;refine tc 7 ?_;intro K hK;go_simp;refine hK.out _ _ (by have:=hbw2.size;simp;omega) (fun hHeld7=> ?_);clear hK K;rotate_left;intro K hK;go_simp;refine Calls.mono (by with_reducible exact HCB.out _ (Below.refl _ wr).drew) ?_;rintro e w2 ⟨u2,rfl,hown2,hb2⟩;have hbw2:=below_trans (Below.refl _ wr).drew hb2;obtain⟨Au,nu,cu,rfl⟩:=own_slice hown2
   go_wp2_with fail
   refine hK.out _ _ hbw2.size (fun hHeld6=> ?_);clear hK K;refine tc2 4 7 ?_ ?_;intro K hK;have y2:=(HX.out.cell.below hbw2).cell 2 _ rfl;go_simp;refine hK.out _ _ hbw2.size (fun hHeld4=> ?_);clear hK K;refine tc 7 ?_;intro K hK;go_simp;refine hK.out _ _ (by have:=hbw2.size;simp;omega) (fun hHeld7=> ?_);clear hK K;rotate_left;intro K hK;go_simp;refine hK.out _ _ (by have:=hbw2.size;simp;omega) (fun hHeld7=> ?_);clear hK K;refine tc 4 ?_;intro K hK;have y2:=((HX.out.cell.below hbw2).alloc (.cells #[.slice Au nu cu] 107)).cell 2 _ rfl;go_simp;refine hK.out _ _ (by have:=hbw2.size;simp;omega) (fun hHeld4=> ?_);clear hK K
   all_goals
    refine tc 8 ?_;intro K hK;refine step_app (by rfl) _ _ 95 (by rfl) w.heap.size 107 1 24 Tryz.underlying95 bagI (.slice Ax nx cx) bags.length _ (by rfl) ((own_below HX.out.sl hbw2).alloc (.cells #[.slice Au nu cu] 107)) _ 1 [.slice Au nu cu] (by rfl) (Sl.block (Blk.new w2 107 #[.slice Au nu cu]) 1 1 (Nat.le_refl _) (by decide)) rfl (by simp[Value.oneCell']) Q1.out Q2.out (by have h1:=hbw2.size;have h2:=HBR.out.size;simp;omega) ?_;intro v3 w3 hown3 hg3 hat3;obtain⟨A3,n3,c3,rfl⟩:=own_slice hown3;have hg4:=grown_trans (grown_of_below (below_alloc w2 (.cells #[.slice Au nu cu] 107)) _) hg3;have KB:=(HX.out.cell.below (below_trans hbw2 (below_alloc w2 (.cells #[.slice Au nu cu] 107)))).grown hg3 HX.out.bvb;have b2:=KB.cell 2 _ rfl;have fb2:=KB.free 2;refine hK.out _ _ (Nat.le_trans hbw2.size hg4.size) (fun hHeld8=> ?_);clear hK K;refine tk 9 ?_;refine tk 10 ?_;refine tc 11 ?_;intro K hK;go_simp;refine hK.out _ _ (by have:=Nat.le_trans hbw2.size hg4.size;simp;omega) (fun hHeld11=> ?_);clear hK K;refine td ?_;have hrr:=HX.out.addBag (u:=Value.slice Au nu cu) (l:=q.2) hbw2 ⟨own_le hown2 HBR.out.size⟩ (fun j hj=>own_ge hown2 j hj) hown3 hg4 (hat3.imp id fun e j hj=>by rw[e]at hj;injection hj with hj;have:(w2.alloc (.cells #[.slice Au nu cu] 107)).heap.size=j:=hj;rw[World.size_alloc]at this;omega);have HX2:=Lib.hid hrr.1
    have HBR2:=Lib.hid (below_turned HBR.out hrr.2 (fun j hj=>by
     rcases hj with hj|hj
     ·exact(HX.out.range j (.inl hj)).1
     ·exact(HX.out.range j (.inr (.inr (.inl hj)))).1))
    have HBG2:Hid ((bags++[((Value.slice Au nu cu,q.2):Value×List Tl)]).map (·.2)=(gbags.take (k+1)).map (·.2)):=Lib.hid (by rw[HST.out,List.map_append,HBG.out];rfl);clear hrr hown2 hown3 hg3 hg4 hat3 hb2 hbw2 KB b2 fb2 y2 d0;go_wp2;go_roundw
    case rel=>exact⟨k+1,_,_,by omega,by go_num,HBG2,HX2,HBR2⟩
    case measure=>simp[intOf];omega
  ·obtain rfl:k=gbags.length:=by omega
   have HE:Hid (bags.map (·.2)=gbags.map (·.2)):=Lib.hid (by rw[HBG.out,List.take_length]);go_wp2;go_ret;exact⟨_,rfl,_,HX.out,by rw[HZ.out,←HE.out];rfl,HBR.out⟩
end Go.Proofs.YtblhidmkalleoaaGreatDoor
namespace Go.Proofs.YtblhidmkalleoaaGreatDoor
open Go.RowKit Go.Maps
theorem GMap.snoc {w w2 w3:World}{base M N b:Nat}{X:List (Nat×Gm)}{x:Gm}(h:GMap w base M N X)(hb:Below w.heap.size w w2)(ho:GpO w2 w.heap.size b x)(hm: ∃n,n≤N+1∧w3.ownsMap Tryz.prog 9 ptrE M n (mkD (ax (X++[(b,x)]))))(hg:w2.grownBy w3 (some M))(hbase:base≤w.heap.size):GMap w3 base M (N+1) (X++[(b,x)]):=by
 have ht:=turned_grown hg;have hlt:=h.lt;have hr: ∀k,GBk b x k→w.heap.size≤k:=fun k hk=>(ho.range k hk).1;refine⟨hm,h.mb,fun p hp=> ?_,fun p hp=> ?_,?_⟩
 ·rcases List.mem_append.1 hp with hp|hp
  ·exact(((h.each p hp).below hb).turned ht fun k hk e=>h.far p hp (by injection e with e;rw[e];exact hk))
  ·rw[List.mem_singleton.1 hp]
   have h1:=ho.turned ht fun k hk e=>by injection e with e;have:=hr k hk;omega
   exact⟨h1.cell,h1.row,own_le h1.sl hbase,fun q hq=>own_le (h1.bag q hq) hbase,fun k hk=>⟨Nat.le_trans hbase (h1.range k hk).1,(h1.range k hk).2⟩,h1.bv,h1.bvb,h1.bq,h1.vvb,h1.vq,h1.vbq,h1.pair⟩
 ·rcases List.mem_append.1 hp with hp|hp
  ·exact h.far p hp
  ·rw[List.mem_singleton.1 hp]
   exact fun hk=>by have:=hr M hk;omega
 ·refine List.pairwise_append.2 ⟨h.apart,List.pairwise_singleton _ _,fun p hp q hq k hk e=> ?_⟩
  rw[List.mem_singleton.1 hq]at e;have:=hr k e;have:=((h.each p hp).range k hk).2;omega
theorem ptrE_at (b:Nat):ptrE (.pointer (some ⟨b,0,none⟩))=some (.lit (.int .i64 ((b:Int)+1)),[]):=rfl
theorem rises_gps {G:List Gp}(f:Nat→Int)(hg: ∀g∈G,GoodR g.r)(hr:G.Pairwise fun a b=>rowsF a.r b.r<0){A:AV}(h:A.map (·.1)=G.map (·.r)):Rises A:=by
 refine⟨fun p hp=> ?_,?_⟩
 ·have:p.1∈A.map (·.1):=List.mem_map.2 ⟨p,hp,rfl⟩
  rw[h]at this;obtain⟨g,hg',e⟩:=List.mem_map.1 this;rw[←e];exact hg g hg'
 ·have h1:(A.map (·.1)).Pairwise fun a b=>rowsF a b<0:=by rw[h,List.pairwise_map];exact hr
  rw[List.pairwise_map]at h1;exact h1
theorem ax_rows (X:List (Nat×Gm)):(ax X).map (·.1)=(gx X).map (·.r):=by
 unfold ax gx;rw[List.map_map,List.map_map];rfl
set_option maxHeartbeats 8000000 in
set_option maxRecDepth 100000 in
theorem byKeys_any (v:Value)(G:List Gm)(w:World)(hG:Gms w v G)(hgd: ∀g∈gps G,GoodR g.r)(hri:(gps G).Pairwise fun a b=>rowsF a.r b.r<0)(hl:G.length≤4096)(hlen: ∀x∈G,x.bags.length≤1000000∧ ∀q∈x.bags,q.2.length≤1099511627776)(hm:Mx w):
 Calls Tryz.prog 73 #[v] w fun e w'=> ∃M,e= .returned (.map (some M))∧ ∃X,GMap w' w.heap.size M 4096 X∧gx X=gps G∧Below w.heap.size w w':=by
 have hmm:= @run_makeMap Tryz.prog;have HG:=Lib.hid hG;have HGD:=Lib.hid hgd;have HRI:=Lib.hid hri;have HM:=Lib.hid hm;have HKY:=Lib.hid (fun W (h:Below w.heap.size w W) (x:Gm) (hx:x∈G)=>key_any x.v x.r W ((hG.each x hx).row.below h) (fine_good (hgd x.gp (gps_mem hx))) (hm.below h));have HOW:=Lib.hid (fun W (h:Below w.heap.size w W) (x:Gm) (hx:x∈G)=>gown_any x W ((hG.each x hx).below h) (by have:x.r.length≤8:=(hgd x.gp (gps_mem hx)).few;omega) (hlen x hx).1 (hlen x hx).2);unfold Gm.agg at HOW;obtain⟨A,c,rfl,h1,h2,-⟩:=id hG.sl;clear hG hgd hri hlen hm;unfold maxLen at h2;have hB:=below_alloc w (.map #[] 0);have HM0:Hid (GMap (w.alloc (.map #[] 0)) w.heap.size w.heap.size 0 []):=Lib.hid ⟨⟨0,Nat.le_refl _,World.ownsMap_made w Tryz.prog 9 ptrE⟩,Nat.le_refl _,nofun,nofun,.nil⟩;go_enter Tryz.func73,Tryz.ntmps73
 go_wp2_with fail
 go_loopw[5,6,7,11] (fun _ _ _ i wr=> ∃(k:Nat) (X:List (Nat×Gm)),k≤G.length∧i= .int .i64 k∧Hid (GMap wr w.heap.size w.heap.size k X)∧Hid (gx X=(gps G).take k)∧Below w.heap.size w wr) (fun _ _ _ i _=>G.length-(intOf i).toNat)
 case atStart=>exact⟨0,[],by omega,rfl,HM0,Lib.hid rfl,hB⟩
 case round=>
  obtain⟨k,X,hk,rfl,HX,HGX,hbw⟩:=hrel;by_cases hlt:k<G.length
  ·have hx:=List.getElem?_eq_getElem (l:=G) hlt
   generalize G[k]=x at hx;obtain⟨bb,ob,rfl,-,hcb⟩:=gm_at HG.out.sl rfl hx;have hxm:=List.mem_of_getElem? hx;obtain⟨d0,d1,d2⟩:=hcb _ hbw;obtain⟨Ax,cx,e1,-⟩:=id (HG.out.each x hxm).row;obtain⟨Ay,cy,e2,-⟩:=id (HG.out.each x hxm).sl;have hgk:=HGD.out x.gp (gps_mem hxm);have hgr:GoodR x.r:=hgk;have hst:gx X++[x.gp]=(gps G).take (k+1):=by rw[HGX.out,List.take_add_one,gps_at hx];rfl
   have hri1:Rises (ax X):=rises_gps (fun _=>0) (G:=gx X) (fun g hg=>HGD.out g (by rw[HGX.out]at hg;exact List.mem_of_mem_take hg)) (by rw[HGX.out];exact HRI.out.sublist (List.take_sublist _ _)) (ax_rows X)
   have HPT:Hid (∀(b:Nat) (x':Gm),x'.gp=x.gp→(mkD (ax X)).put (kOf x.r) (.lit (.int .i64 ((b:Int)+1)))=mkD (ax (X++[(b,x')]))):=Lib.hid (fun b x' e=>by
    have er:x'.r=x.r:=congrArg Gp.r e;have e3:ax (X++[(b,x')])=ax X++[(x.r,(b:Int)+1)]:=by unfold ax;rw[List.map_append];show _++[(x'.r,_)]=_;rw[er]
    have hri2:Rises (ax X++[(x.r,(b:Int)+1)]):=rises_gps (fun _=>0) (G:=gx X++[x.gp]) (fun g hg=>HGD.out g (by rw[hst]at hg;exact List.mem_of_mem_take hg)) (by rw[hst];exact HRI.out.sublist (List.take_sublist _ _)) (by rw[List.map_append,ax_rows,List.map_append];rfl);rw[mkD_put hri1 hgr,put_last hri2,e3])
   have HST:=Lib.hid hst;have hke:keyR x.r=(str (keyRow x.r),0):=if_neg (by rw[keyErr_goodG hgr];simp);have HKX:=Lib.hid (fun W (h:Below w.heap.size w W)=>HKY.out W h x hxm);rw[hke]at HKX;have HOX:=Lib.hid (fun W (h:Below w.heap.size w W)=>HOW.out W h x hxm);have HKS:=Lib.hid (keyS hgr);rw[e1]at d0 HKX HOX;rw[e2]at d2 HOX;have hbw2:=hbw.alloc hbw.size (.cells #[.slice Ax x.r.length cx,.int .i64 x.n,.slice Ay x.bags.length cy] 97);have HX2:=HX.out.below (below_alloc wr (.cells #[.slice Ax x.r.length cx,.int .i64 x.n,.slice Ay x.bags.length cy] 97));have kb:=(Blk.new wr 97 #[.slice Ax x.r.length cx,.int .i64 x.n,.slice Ay x.bags.length cy]);generalize str (keyRow x.r)=s at HKX HKS;clear hx hcb hgk hgr hst hri1 hke e1 e2
   go_wp2_with fail
   refine Calls.mono (by with_reducible exact HKX.out _ hbw2) ?_;rintro e w2 ⟨rfl,hb2⟩;have kb2:=kb.below hb2;have y0:=kb2.cell 0 _ rfl;have y1:=kb2.cell 1 _ rfl;have y2:=kb2.cell 2 _ rfl;have hbw3:=below_trans hbw2 hb2;have HX3:=HX2.below hb2;clear hb2 kb kb2 hbw2 HX2 d0 d1 d2
   go_wp2_with fail
   refine Calls.mono (by with_reducible exact HOX.out _ hbw3) ?_;rintro e w3 ⟨b,x',rfl,ho,hgp,hb3⟩;obtain⟨n,hn,hown⟩:=(HX3.below hb3).map;have HN:Hid (n<maxLen):=Lib.hid (by unfold maxLen;omega);have HO:=Lib.hid ho;have HGP:=Lib.hid hgp;have HX4:=Lib.hid HX3;have HB3:=Lib.hid hb3;have hbw4:=below_trans hbw3 hb3;have HSZ:=Lib.hid hbw3.size;clear ho hgp hb3 HX3 y0 y1 y2
   go_wp2_with (at_mapUpdate;refine wpList_mapUpdate_own _ rfl _ _ _ 122 rfl 9 129 lawS Tryz.underlying122 ptrE w.heap.size n _ rfl hown HN.out _ _ _ rfl rfl HKS.out _ [] (ptrE_at b) ?_;intro w4 hown4 hgrow4)
   have HX5:=Lib.hid (HX4.out.snoc HB3.out HO.out ⟨n+1,by omega,by rw[←HPT.out b x' HGP.out];exact hown4⟩ hgrow4 HSZ.out);have HG5:Hid (gx (X++[(b,x')])=(gps G).take (k+1)):=Lib.hid (by rw[←HST.out];unfold gx;rw[List.map_append];show _++[x'.gp]=_;rw[HGP.out]);have hbw5:=hbw4.grown hgrow4 hbw4.size (fun j hj=>by cases hj;exact Nat.le_refl _);clear hown hown4 hgrow4;go_roundw
   case rel=>exact⟨k+1,_,by omega,by go_num,HX5,HG5,hbw5⟩
   case measure=>simp[intOf];omega
  ·obtain rfl:k=G.length:=by omega
   have HE:Hid (gx X=gps G):=Lib.hid (by rw[HGX.out,List.take_of_length_le (by rw[gps_len];exact Nat.le_refl _)]);have HX6:Hid (GMap wr w.heap.size w.heap.size 4096 X):=Lib.hid (by obtain⟨n,hn,hm⟩:=HX.out.map;exact⟨⟨n,by omega,hm⟩,HX.out.mb,HX.out.each,HX.out.far,HX.out.apart⟩);go_wp2;go_ret;exact⟨_,rfl,_,HX6.out,HE.out,hbw⟩
end Go.Proofs.YtblhidmkalleoaaGreatDoor
