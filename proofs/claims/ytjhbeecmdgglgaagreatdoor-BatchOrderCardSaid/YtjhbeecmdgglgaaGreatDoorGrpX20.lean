/-The reference's place: where a row stands in a view, or would stand. The reference's more: laws on a view of one's own. The reference's more: a row la -/
import Derived.Test.YtjhbeecmdgglgaaGreatDoorGrpX17
import Derived.Test.YtjhbeecmdgglgaaGreatDoorGrpX8
import Derived.Test.YtjhbeecmdgglgaaGreatDoorGrpX18
import Derived.Laws.CopyOwn
set_option linter.unusedSimpArgs false
set_option linter.unusedVariables false
namespace Go.Proofs.YtjhbeecmdgglgaaGreatDoor
open Go.RowKit
structure PlaceOf (A:AV) (r:List Val) (i:Nat) (is:Bool):Prop where
 le:i≤A.length
 less: ∀j p,j<i→A[j]?=some p→rowsF p.1 r<0
 here:is=true→ ∃p,A[i]?=some p∧rowsF p.1 r=0
 more:is=false→ ∀j p,i≤j→A[j]?=some p→0<rowsF p.1 r
theorem place_skip {A:AV}{x:List Val×Int}{r:List Val}{i:Nat}{is:Bool}(h:PlaceOf (x::A) r (i+1) is):rowsF x.1 r<0∧PlaceOf A r i is:=
 ⟨h.less 0 x (by omega) rfl,⟨by have:=h.le;simp at this;omega,fun j p hj hp=>h.less (j+1) p (by omega) (by simpa using hp),
  fun hi=>by obtain⟨p,h1,h2⟩:=h.here hi;exact⟨p,by simpa using h1,h2⟩,fun hi j p hj hp=>h.more hi (j+1) p (by omega) (by simpa using hp)⟩⟩
theorem look_more {A:AV}{r:List Val}(h: ∀p∈A,0<rowsF p.1 r):lookA A r=0∧hasA A r=false∧delA A r=A:=by
 induction A with
 |nil=>exact⟨rfl,rfl,rfl⟩
 |cons x t ih=>
  obtain⟨x,m⟩:=x;have h0:0<rowsF x r:=h (x,m) (by simp);obtain⟨a,b,c⟩:=ih fun p hp=>h p (by simp[hp])
  refine⟨?_,?_,?_⟩
  ·rw[lookA,if_neg (by omega),a]
  ·rw[hasA,b,decide_eq_false (by omega)];rfl
  ·rw[delA,if_neg (by omega),c]
theorem place_here {A:AV}{r:List Val}{i:Nat}(h:PlaceOf A r i true): ∃x m,A[i]?=some (x,m)∧lookA A r=m∧hasA A r=true∧delA A r=A.take i++A.drop (i+1)∧ ∀n,putA A r n=A.take i++(x,n)::A.drop (i+1):=by
 induction A generalizing i with
 |nil=>obtain⟨p,h1,-⟩:=h.here rfl;simp at h1
 |cons x t ih=>
  obtain⟨x,m⟩:=x;cases i with
  |zero=>
   obtain⟨p,h1,h2⟩:=h.here rfl;simp at h1;subst h1;refine⟨x,m,rfl,?_,?_,?_,fun n=> ?_⟩
   ·rw[lookA,if_pos h2]
   ·rw[hasA,decide_eq_true h2];rfl
   ·rw[delA,if_pos h2];rfl
   ·rw[putA,if_pos h2];rfl
  |succ i=>
   obtain⟨h0,h1⟩:=place_skip h;simp only at h0;obtain⟨y,n,a,b,c,d,e⟩:=ih h1;refine⟨y,n,by simpa using a,?_,?_,?_,fun q=> ?_⟩
   ·rw[lookA,if_neg (by omega),b]
   ·rw[hasA,c,Bool.or_true]
   ·rw[delA,if_neg (by omega),d];rfl
   ·rw[putA,if_neg (by omega),if_pos h0,e];rfl
theorem place_none {A:AV}{r:List Val}{i:Nat}(h:PlaceOf A r i false):lookA A r=0∧hasA A r=false∧delA A r=A∧ ∀n,putA A r n=A.take i++(r,n)::A.drop i:=by
 induction A generalizing i with
 |nil=>exact⟨rfl,rfl,rfl,fun n=>by simp[putA]⟩
 |cons x t ih=>
  obtain⟨x,m⟩:=x;cases i with
  |zero=>
   have hall: ∀p∈(x,m)::t,0<rowsF p.1 r:=by
    intro p hp;obtain⟨j,hj⟩:=List.getElem?_of_mem hp;exact h.more rfl j p (by omega) hj
   obtain⟨a,b,c⟩:=look_more hall;refine⟨a,b,c,fun n=> ?_⟩;have h0:0<rowsF x r:=hall (x,m) (by simp);rw[putA,if_neg (by omega),if_neg (by omega)];rfl
  |succ i=>
   obtain⟨h0,h1⟩:=place_skip h;simp only at h0;obtain⟨a,b,c,d⟩:=ih h1;refine⟨?_,?_,?_,fun n=> ?_⟩
   ·rw[lookA,if_neg (by omega),a]
   ·rw[hasA,b,decide_eq_false (by omega)];rfl
   ·rw[delA,if_neg (by omega),c]
   ·rw[putA,if_neg (by omega),if_pos h0,d];rfl
theorem rises_less {A:AV}{r:List Val}(h:Rises A)(hr:GoodR r){i j:Nat}{p q:List Val×Int}(hi:A[i]?=some p)(hj:A[j]?=some q)(hle:i≤j)(hq:rowsF q.1 r<0):rowsF p.1 r<0:=by
 rcases Nat.lt_or_ge i j with hlt|hge
 ·obtain⟨h1,e1⟩:=List.getElem?_eq_some_iff.1 hi
  obtain⟨h2,e2⟩:=List.getElem?_eq_some_iff.1 hj;have:=List.pairwise_iff_getElem.1 h.rise i j h1 h2 hlt;rw[e1,e2]at this;exact rowsF_trans (h.good p (List.mem_of_getElem? hi)) (h.good q (List.mem_of_getElem? hj)) hr this hq
 ·obtain rfl:i=j:=by omega
  rw[hi]at hj;obtain rfl:=Option.some.inj hj;exact hq
theorem rises_more {A:AV}{r:List Val}(h:Rises A)(hr:GoodR r){i j:Nat}{p q:List Val×Int}(hi:A[i]?=some p)(hj:A[j]?=some q)(hle:i≤j)(hp:0<rowsF p.1 r):0<rowsF q.1 r:=by
 rcases Nat.lt_or_ge i j with hlt|hge
 ·obtain⟨h1,e1⟩:=List.getElem?_eq_some_iff.1 hi
  obtain⟨h2,e2⟩:=List.getElem?_eq_some_iff.1 hj;have:=List.pairwise_iff_getElem.1 h.rise i j h1 h2 hlt;rw[e1,e2]at this;have gp:=h.good p (List.mem_of_getElem? hi);have gq:=h.good q (List.mem_of_getElem? hj);have h3:rowsF r p.1<0:=by rw[rowsF_flip gp hr];omega
  have h4:=rowsF_trans hr gp gq h3 this;rw[rowsF_flip hr gq];omega
 ·obtain rfl:i=j:=by omega
  rw[hi]at hj;obtain rfl:=Option.some.inj hj;exact hp
set_option maxHeartbeats 4000000 in
set_option maxRecDepth 10000 in
theorem place_any (v vr:Value)(l:List Cnt)(r:List Val)(w:World)(h:View w v l)(hl:l.length≤1000000)(hs:Sl w vr r.length (rowCells r))(hr:Rises (av l))(hg:GoodR r):
 Calls Tryz.prog 66 #[v,vr] w fun e w'=> ∃i is,e= .returned (.tuple #[.int .i64 (i:Nat),.bool is])∧PlaceOf (av l) r i is∧Below w.heap.size w w':=by
 have HV:=Lib.hid h;have HS:=Lib.hid hs;have HR:=Lib.hid hr;have HG:=Lib.hid hg;have HAL:=Lib.hid (show(av l).length=l.length from by unfold av;rw[List.length_map]);obtain⟨A,c,rfl,h1,h2,-⟩:=h.sl;obtain⟨Ar,cr,rfl,-⟩:=id hs;clear h hs hr hg;unfold maxLen at h2;go_enter Tryz.func66,Tryz.ntmps66
 go_wp2_with fail
 go_loopw[6,7,8,9] (fun lo hi _ _ wr=> ∃a b:Nat,lo= .int .i64 a∧hi= .int .i64 b∧a≤b∧b≤l.length∧Hid (∀j p,j<a→(av l)[j]?=some p→rowsF p.1 r<0)∧Hid (∀j p,b≤j→(av l)[j]?=some p→0<rowsF p.1 r)∧Below w.heap.size w wr) (fun lo hi _ _ _=>(intOf hi).toNat-(intOf lo).toNat)
 case atStart=>exact⟨0,l.length,rfl,rfl,by omega,by omega,fun j p h=>absurd h (by omega),fun j p h hp=>by have:=(List.getElem?_eq_some_iff.1 hp).1;rw[HAL.out]at this;omega,Below.refl _ _⟩
 case round=>
  obtain⟨a,b,rfl,rfl,hab,hbl,HL,HM,hbw⟩:=hrel;by_cases hlt:a<b
  ·obtain⟨m,hm⟩: ∃m,(a+b)/ 2=m:=⟨_,rfl⟩
   have hma:a≤m:=by omega
   have hmb:m<b:=by omega
   have hq:((a:Int)+(b:Int)).tdiv 2=(m:Int):=by rw[Int.tdiv_eq_ediv_of_nonneg (by omega)];omega
   have hml:m<l.length:=by omega
   have hx:=List.getElem?_eq_getElem (l:=l) hml;generalize l[m]=x at hx;obtain⟨g,off,rfl,-,hc⟩:=cnt_at HV.out.sl rfl hx;obtain⟨d1,d2⟩:=hc _ hbw;have HRX:=Lib.hid (HV.out.rows x (List.mem_of_getElem? hx));have HX:=Lib.hid (show(av l)[m]?=some (x.r,x.n)from by unfold av;rw[List.getElem?_map,hx];rfl);clear hx hc hm;obtain⟨xv,xr,xn⟩:=x;simp only at d1 d2 HRX HX;obtain⟨Ax,cx,rfl,-⟩:=id HRX.out;have m0:(0:Int)≤(m:Int):=by omega
   have m1:(m:Int)<(l.length:Int):=by omega
   have hD:rowsF xr r=0∨rowsF xr r<0∨0<rowsF xr r:=by omega
   rcases hD with hz|hz|hz
   ·have hb0:=beqT hz
    have HP:Hid (PlaceOf (av l) r m true):=Lib.hid ⟨by rw[HAL.out];omega,fun j p hj hp=>by
     have:=(List.getElem?_eq_some_iff.1 hp);obtain⟨h1,e1⟩:=this;obtain⟨h2,e2⟩:=List.getElem?_eq_some_iff.1 HX.out;have h3:=List.pairwise_iff_getElem.1 HR.out.rise j m h1 h2 hj;rw[e1,e2]at h3;have e:=(rowsF_zero (HR.out.good _ (List.mem_of_getElem? HX.out)) HG.out).1 hz;simp only at h3 e;rw[←e];exact h3,fun _=>⟨_,HX.out,hz⟩,nofun⟩
    clear hz
    go_wp2_with fail
    refine(rrows_any _ _ xr r _ (HRX.out.below hbw) (HS.out.below hbw)).mono ?_;rintro e w2 ⟨rfl,hb2⟩;go_wp2
    go_ret2
    exact⟨m,true,rfl,HP.out,below_trans hbw hb2⟩
   ·have hb0:=beqF (show rowsF xr r≠0 by omega)
    have HL2:Hid (∀j p,j<m+1→(av l)[j]?=some p→rowsF p.1 r<0):=Lib.hid fun j p hj hp=>rises_less HR.out HG.out hp HX.out (by omega) hz
    go_wp2_with fail
    refine(rrows_any _ _ xr r _ (HRX.out.below hbw) (HS.out.below hbw)).mono ?_;rintro e w2 ⟨rfl,hb2⟩;go_wp2;go_roundw
    case rel=>exact⟨m+1,b,by go_num,rfl,by omega,hbl,HL2.out,HM.out,below_trans hbw hb2⟩
    case measure=>simp[intOf];omega
   ·have hb0:=beqF (show rowsF xr r≠0 by omega)
    have hn: ¬rowsF xr r<0:=by omega
    have HM2:Hid (∀j p,m≤j→(av l)[j]?=some p→0<rowsF p.1 r):=Lib.hid fun j p hj hp=>rises_more HR.out HG.out HX.out hp hj hz;clear hz
    go_wp2_with fail
    refine(rrows_any _ _ xr r _ (HRX.out.below hbw) (HS.out.below hbw)).mono ?_;rintro e w2 ⟨rfl,hb2⟩;go_wp2;go_roundw
    case rel=>exact⟨a,m,rfl,rfl,hma,by omega,HL.out,HM2.out,below_trans hbw hb2⟩
    case measure=>simp[intOf];omega
  ·obtain rfl:a=b:=by omega
   go_wp2
   go_ret2
   exact⟨a,false,rfl,⟨by rw[HAL.out];omega,HL.out,nofun,fun _=>HM.out⟩,hbw⟩
end Go.Proofs.YtjhbeecmdgglgaaGreatDoor
namespace Go.Proofs.YtjhbeecmdgglgaaGreatDoor
open Go.RowKit
theorem cnt_take (l:List Cnt)(k:Nat):(cntCells l).take (k*2)=cntCells (l.take k):=flat_take Cnt.cells_len l k
theorem cnt_drop (l:List Cnt)(k:Nat):(cntCells l).drop (k*2)=cntCells (l.drop k):=flat_drop Cnt.cells_len l k
theorem OwnV.sub {w w':World}{base:Nat}{v v':Value}{l l':List Cnt}(h:OwnV w base v l)(hown:w'.ownsRow base 45 2 v' l'.length (cntCells l'))(hg:w.grownBy w' v.ownBlock)(hat:v'.ownBlock=v.ownBlock∨v'.ownBlock=some w.heap.size)(hsub: ∀c∈l',c∈l):OwnV w' base v' l':=by
 refine⟨hown,fun d hd=>sl_grown (h.rows d (hsub d hd)) hg (fun k hk=>(h.far d (hsub d hd) k hk).2),fun d hd k hk=> ?_⟩;obtain⟨h1,h2⟩:=h.far d (hsub d hd) k hk;refine⟨Nat.lt_of_lt_of_le h1 hg.size,?_⟩;rcases hat with hat|hat
 ·rw[hat];exact h2
 ·rw[hat];intro e;injection e with e;omega
theorem cnt_set (l:List Cnt)(i:Nat)(c:Cnt)(n:Int)(hi:l[i]?=some c):(cntCells l).set (i*2+1) (.int .i64 n)=cntCells (l.set i ⟨c.v,c.r,n⟩):=by
 induction l generalizing i with
 |nil=>simp at hi
 |cons a l ih=>
  cases i with
  |zero=>
   simp at hi;subst hi;simp[cntCells,Cnt.cells]
  |succ i=>
   have:=ih i (by simpa using hi);have e:(i+1)*2+1=i*2+1+1+1:=by omega
   rw[e,List.set_cons_succ];unfold cntCells at this⊢;rw[List.flatMap_cons,List.flatMap_cons,←this];simp[Cnt.cells]
theorem OwnV.set {w:World}{base g cap i:Nat}{l:List Cnt}{c:Cnt}{n:Int}(h:OwnV w base (.slice (some ⟨g,0,none⟩) l.length cap) l)(hi:l[i]?=some c):
 OwnV (w.setCell ⟨g,i*2+1,none⟩ (.int .i64 n)) base (.slice (some ⟨g,0,none⟩) l.length cap) (l.set i ⟨c.v,c.r,n⟩)∧w.grownBy (w.setCell ⟨g,i*2+1,none⟩ (.int .i64 n)) (some g):=by
 obtain⟨h1,h2⟩:=h.own.stored (i*2+1) (.int .i64 n);rw[cnt_set l i c n hi]at h1
 have hsub: ∀d∈l.set i ⟨c.v,c.r,n⟩,∃d'∈l,d'.v=d.v∧d'.r=d.r:=by
  intro d hd;rcases List.mem_or_eq_of_mem_set hd with hd|rfl
  ·exact⟨d,hd,rfl,rfl⟩
  ·exact⟨c,List.mem_of_getElem? hi,rfl,rfl⟩
 refine⟨⟨by rw[List.length_set];exact h1,fun d hd=> ?_,fun d hd k hk=> ?_⟩,h2⟩
 ·obtain⟨d',hd',e1,e2⟩:=hsub d hd
  rw[←e1,←e2];exact sl_grown (h.rows d' hd') h2 (fun k hk=>(h.far d' hd' k hk).2)
 ·obtain⟨d',hd',e1,-⟩:=hsub d hd
  rw[←e1]at hk;obtain⟨a,b⟩:=h.far d' hd' k hk;exact⟨Nat.lt_of_lt_of_le a h2.size,b⟩
theorem av_set (l:List Cnt)(i:Nat)(c:Cnt)(n:Int)(hi:i<l.length):av (l.set i ⟨c.v,c.r,n⟩)=(av l).take i++(c.r,n)::(av l).drop (i+1):=by
 unfold av;rw[List.set_eq_take_append_cons_drop,if_pos hi];simp[List.map_take,List.map_drop]
theorem av_cut (l:List Cnt)(i:Nat):av (l.take i++l.drop (i+1))=(av l).take i++(av l).drop (i+1):=by
 unfold av;simp[List.map_take,List.map_drop]
theorem sl_none {w:World}{A:Addr}{n c:Nat}(h:n≤c)(hc:c≤maxLen):Sl w (.slice (some A) n c) n []:=⟨_,c,rfl,h,hc,nofun,fun h=>absurd rfl h⟩
end Go.Proofs.YtjhbeecmdgglgaaGreatDoor
namespace Go.Proofs.YtjhbeecmdgglgaaGreatDoor
open Go.RowKit
theorem cntSize:(Tryz.prog.info? 45).map (·.size)=some 2:=by kernel_rfl
theorem own_shift {w:World}{base g m cap i c1 c2:Nat}{xs:List Value}(h:w.ownsRow base 45 2 (.slice (some ⟨g,0,none⟩) (m+1) cap) (m+1) xs)(hi:i<m)(h1: ∀v∈xs,v.oneCell'=true):
 ∃w',(∀ty,(Builtin.copy_ #[27,27] ty #[.slice (some ⟨g,(i+1)*2,none⟩) (m-i) c1,.slice (some ⟨g,i*2,none⟩) (m+1-i) c2]).run Tryz.prog w= .ok (goInt (m-i:Nat)) w')∧
  w'.ownsRow base 45 2 (.slice (some ⟨g,0,none⟩) (m+1) cap) (m+1) (xs.take ((i+1)*2)++(xs.drop (i*2)).take ((m-i)*2))∧w.grownBy w' (some g):=by
 have hx:=h.1;rcases h.2 with⟨h',-⟩|⟨g',cap',cur,h',hb,hg,hn,hc,hsz,ht⟩
 ·cases h'
 ·injection h' with e1 e2 e3
  injection e1 with e1;injection e1 with e1;subst e1 e3;have hlen:((xs.drop (i*2)).take ((m-i)*2)).length=(m-i)*2:=by rw[List.length_take,List.length_drop,hx];omega
  have hmin:Nat.min (m+1-i) (m-i)=m-i:=by show min _ _=_;omega
  have hcur:(m+1)*2≤cur.size:=by rw[hsz];exact Nat.mul_le_mul_right _ hn
  have hrun:=fun ty=>run_copy_wide (P:=Tryz.prog) w 27 27 ty 45 g ((i+1)*2) (m-i) c1 ⟨g,i*2,none⟩ (m+1-i) c2 2 cur 45 ((xs.drop (i*2)).take ((m-i)*2)) Tryz.underlying27 cntSize hg
   (by rw[hlen,hmin]) (fun j v hj=>by
    rw[List.getElem?_take]at hj;split at hj
    ·rw[List.getElem?_drop]at hj
     have:=h.cellAt (i*2+j) (by have:=(List.getElem?_eq_some_iff.1 hj).1;omega);rw[hj]at this;unfold Addr.add;split
     ·rename_i h0;subst h0;simpa using this
     ·exact this
    ·cases hj) (by rw[hlen];omega) (fun v hv=>h1 v (List.mem_of_mem_drop (List.mem_of_mem_take hv)))
  simp only[hmin]at hrun;refine⟨_,hrun,⟨?_,.inr ⟨g,cap,_,rfl,hb,setRow_heap w g cur _ 45 _ hg,hn,hc,?_,?_⟩⟩,⟨rfl,rfl,rfl,by simp[World.setRow],fun k hk hne=>setRow_other w g k _ (fun e=>hne (by rw[e]))⟩⟩
  ·rw[List.length_append,hlen,List.length_take,hx];omega
  ·simp only[List.size_toArray,List.length_append,List.length_take,List.length_drop,Array.length_toList,hlen];omega
  ·have e1:cur.toList.take ((i+1)*2)=xs.take ((i+1)*2):=by rw[←ht,List.take_take,Nat.min_eq_left (by omega)]
   rw[e1];have e4:(xs.take ((i+1)*2)++(xs.drop (i*2)).take ((m-i)*2)).length=(m+1)*2:=by rw[List.length_append,hlen,List.length_take,hx];omega
   exact List.take_left' e4
theorem cnt_lay (a b:List Cnt)(x c:Cnt):((cntCells (a++x::b)).set (a.length*2) c.v).set (a.length*2+1) (.int .i64 c.n)=cntCells (a++c::b):=by
 induction a with
 |nil=>simp[cntCells,Cnt.cells]
 |cons y a ih=>
  have e1:(y::a).length*2=a.length*2+1+1:=by simp;omega
  rw[e1];unfold cntCells at ih⊢;simp only[List.cons_append,List.flatMap_cons];rw[←ih];simp[Cnt.cells]
theorem OwnV.lay {w:World}{base g n cap:Nat}{a b:List Cnt}{x c:Cnt}(h:OwnV w base (.slice (some ⟨g,0,none⟩) n cap) (a++x::b))(hn:n=(a++x::b).length)(hc:Sl w c.v c.r.length (rowCells c.r))(hf: ∀k,c.v.ownBlock=some k→k<w.heap.size∧k≠g):
 OwnV ((w.setCell ⟨g,a.length*2,none⟩ c.v).setCell ⟨g,a.length*2+1,none⟩ (.int .i64 c.n)) base (.slice (some ⟨g,0,none⟩) n cap) (a++c::b)∧w.grownBy ((w.setCell ⟨g,a.length*2,none⟩ c.v).setCell ⟨g,a.length*2+1,none⟩ (.int .i64 c.n)) (some g):=by
 have ho:=h.own;rw[←hn]at ho;obtain⟨h1,g1⟩:=ho.stored (a.length*2) c.v;obtain⟨h2,g2⟩:=h1.stored (a.length*2+1) (.int .i64 c.n);have hg:=grown_trans g1 g2;rw[cnt_lay]at h2;have hlen:(a++c::b).length=n:=by rw[hn];simp
 have hd: ∀d∈a++c::b,Sl w d.v d.r.length (rowCells d.r)∧ ∀k,d.v.ownBlock=some k→k<w.heap.size∧k≠g:=by
  intro d hd;rcases List.mem_append.1 hd with hd|hd
  ·exact⟨h.rows d (by simp[hd]),fun k hk=>by obtain⟨p,q⟩:=h.far d (by simp[hd]) k hk;exact⟨p,fun e=>q (by rw[e];rfl)⟩⟩
  ·rcases List.mem_cons.1 hd with rfl|hd
   ·exact⟨hc,hf⟩
   ·exact⟨h.rows d (by simp[hd]),fun k hk=>by obtain⟨p,q⟩:=h.far d (by simp[hd]) k hk;exact⟨p,fun e=>q (by rw[e];rfl)⟩⟩
 refine⟨⟨by rw[hlen];exact h2,fun d hd'=>sl_grown (hd d hd').1 hg (fun k hk e=>((hd d hd').2 k hk).2 (by injection e with e;exact e.symm)),fun d hd' k hk=> ?_⟩,hg⟩;obtain⟨p,q⟩:=(hd d hd').2 k hk;exact⟨Nat.lt_of_lt_of_le p hg.size,fun e=>q (by simp[Value.ownBlock]at e;exact e.symm)⟩
theorem split_at {l:List Cnt}{i:Nat}(hi:i<l.length)(z:Cnt):(l++[z]).take (i+1)=l.take i++[l[i]]∧((l++[z]).drop i).take (l.length-i)=l.drop i:=by
 constructor
 ·rw[List.take_append_of_le_length (by omega),List.take_add_one,List.getElem?_eq_getElem hi];rfl
 ·rw[List.drop_append_of_le_length (by omega),List.take_append_of_le_length (by rw[List.length_drop];omega),List.take_of_length_le (by rw[List.length_drop];omega)]
theorem av_lay (l:List Cnt)(i:Nat)(c:Cnt):av (l.take i++c::l.drop i)=(av l).take i++(c.r,c.n)::(av l).drop i:=by
 unfold av;simp[List.map_take,List.map_drop]
end Go.Proofs.YtjhbeecmdgglgaaGreatDoor
