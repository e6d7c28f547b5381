/-Compare, Rows, and the reference's CompareValue, CompareRows, Same. Rows, and the reference's CompareRows and Same. The reference's Same, KeyError; a  -/
import Derived.Test.YtjhbeecmdgglgaaGreatDoorGrpX2
import Derived.Test.YtjhbeecmdgglgaaGreatDoorShelf
set_option linter.unusedSimpArgs false
set_option linter.unusedVariables false
namespace Go.Proofs.YtjhbeecmdgglgaaGreatDoor
open Go.RowKit
def firstNZ (l:List Int):Int:=(l.find? (fun n=>n != 0)).getD 0
theorem firstNZ_hit {l:List Int}{k:Nat}{n:Int}(h: ∀x∈l.take k,x=0)(hk:l[k]?=some n)(hn:n≠0):firstNZ l=n:=by
 obtain⟨hlt,he⟩:=List.getElem?_eq_some_iff.1 hk;have e:l=l.take k++n::l.drop (k+1):=by rw[←he];simp
 have e2:l.find? (fun n=>n != 0)=(l.take k++n::l.drop (k+1)).find? (fun n=>n != 0):=congrArg (fun l=>List.find? (fun n=>n != 0) l) e
 have h0:(l.take k).find? (fun n=>n != 0)=none:=by
  rw[List.find?_eq_none];intro x hx;simp[h x hx]
 unfold firstNZ;rw[e2,List.find?_append,h0];simp[hn]
theorem firstNZ_none {l:List Int}(h: ∀x∈l,x=0):firstNZ l=0:=by
 unfold firstNZ;rw[List.find?_eq_none.2 (by intro x hx;simp[h x hx])];rfl
set_option maxHeartbeats 1000000 in
set_option maxRecDepth 10000 in
theorem first_any (v:Value)(l:List Int)(w:World)(h:Sl w v l.length (intCells l)):
 Calls Tryz.prog 136 #[v] w fun e w'=>e= .returned (.int .i64 (firstNZ l))∧w=w':=by
 have HH:=Lib.hid h;obtain⟨A,c,rfl,h1,h2,-⟩:=h;unfold maxLen at h2;go_enter Tryz.func136,Tryz.ntmps136
 go_wp2
 go_loop [4,7] (fun _ i=> ∃k:Nat,k≤l.length∧i= .int .i64 k∧Hid (∀x∈l.take k,x=0)) (fun _ i=>l.length-(intOf i).toNat)
 case atStart=>exact⟨0,by omega,rfl,by simp[Hid]⟩
 case round=>
  obtain⟨k,hk,rfl,H⟩:=hrel;by_cases hlt:k<l.length
  ·obtain⟨b,off,rfl,-,hc⟩:=int_at HH.out rfl hlt
   have c1:=hc w (Below.refl _ _);have hg:l[k]?=some (l.getD k 0):=by simp[hlt]
   generalize l.getD k 0=n at c1 hg;have HG:=Lib.hid hg;clear hg hc;by_cases hn:n=0
   ·subst hn
    go_wp2
    go_round
    case rel=>
     refine⟨k+1,by omega,by go_num,?_⟩;show ∀x∈l.take (k+1),x=0;rw[List.take_add_one,HG.out];intro x hx;rcases List.mem_append.1 hx with hx|hx
     ·exact H.out x hx
     ·simpa using hx
    case measure=>simp[intOf];omega
   ·have hb:=beqF hn
    have e1:=Lib.hid (firstNZ_hit H.out HG.out hn);clear hn;go_wp2;go_ret;exact⟨by rw[e1.out];rfl,rfl⟩
  ·obtain rfl:k=l.length:=by omega
   have e1:=Lib.hid (firstNZ_none (l:=l) (by have:=H.out;simpa using this));go_wp2;go_ret;exact⟨by rw[e1.out];rfl,rfl⟩
def cmpB (a b:ByteArray):Int:=if Op.bytesLess a.toList b.toList then-1 else if a.toList==b.toList then 0 else 1
theorem cmpB_eq (a b:List UInt8):Lib.compareBytes a b=if Op.bytesLess a b then-1 else if a==b then 0 else 1:=by
 induction a generalizing b with
 |nil=>cases b<;>simp[Lib.compareBytes,Op.bytesLess]
 |cons x a ih=>
  cases b with
  |nil=>simp[Lib.compareBytes,Op.bytesLess]
  |cons y b=>
   simp only[Lib.compareBytes,Op.bytesLess,ih b];by_cases h1:x<y
   ·simp[h1]
   ·by_cases h2:y<x
    ·have h3:x≠y:=by rintro rfl;exact absurd h2 h1
     simp[h1,h2,h3]
    ·have h3:x=y:=by
      apply UInt8.toNat_inj.1;have a1: ¬x.toNat<y.toNat:=h1;have a2: ¬y.toNat<x.toNat:=h2;omega
     subst h3;simp
theorem compare_eq (a b:ByteArray):Lib.compareBytes a.data.toList b.data.toList=cmpB a b:=by
 rw[cmpB_eq,cmpB,ByteArray.toList_eq,ByteArray.toList_eq]
def cmpV (a b:Val):Int:=firstNZ [ordI a.k b.k,ordI a.n b.n,cmpB a.s b.s]
set_option maxHeartbeats 2000000 in
set_option maxRecDepth 10000 in
theorem compare_val (a b:Val)(w:World):
 Calls Tryz.prog 105 #[.agg #[.int .i64 a.k,.int .i64 a.n,.string a.s],.agg #[.int .i64 b.k,.int .i64 b.n,.string b.s]] w fun e w'=>e= .returned (.int .i64 (cmpV a b))∧Below w.heap.size w w':=by
 have B0:=new_first w 68 #[.int .i64 a.k,.int .i64 a.n,.string a.s] (.cells #[.int .i64 b.k,.int .i64 b.n,.string b.s] 68);have B1:=new_second w 68 #[.int .i64 b.k,.int .i64 b.n,.string b.s] (.cells #[.int .i64 a.k,.int .i64 a.n,.string a.s] 68);have hB:=below_trans (below_alloc w (.cells #[.int .i64 a.k,.int .i64 a.n,.string a.s] 68)) (below_alloc _ (.cells #[.int .i64 b.k,.int .i64 b.n,.string b.s] 68))
 have HX:=Lib.hid (show Sl (((w.alloc (.cells #[.int .i64 a.k,.int .i64 a.n,.string a.s] 68)).alloc (.cells #[.int .i64 b.k,.int .i64 b.n,.string b.s] 68)).alloc (.cells #[.int .i64 (ordI a.k b.k),.int .i64 (ordI a.n b.n),.int .i64 (cmpB a.s b.s)] 3)) (.slice (some ⟨w.heap.size+2,0,none⟩) 3 3) 3 (intCells [ordI a.k b.k,ordI a.n b.n,cmpB a.s b.s])from by
  have:=Sl.block (Blk.new ((w.alloc (.cells #[.int .i64 a.k,.int .i64 a.n,.string a.s] 68)).alloc (.cells #[.int .i64 b.k,.int .i64 b.n,.string b.s] 68)) 3 #[.int .i64 (ordI a.k b.k),.int .i64 (ordI a.n b.n),.int .i64 (cmpB a.s b.s)]) 3 3 (Nat.le_refl _) (by decide);simpa[intCells]using this)
 have E:=Lib.hid (compare_eq a.s b.s);go_enter Tryz.func105,Tryz.ntmps105
 go_wp2_with fail
 go_region_held3 (fun w'=>w'.cell? ⟨w.heap.size,0,none⟩=some (.int .i64 a.k)∧w'.cell? ⟨w.heap.size,1,none⟩=some (.int .i64 a.n)∧w'.cell? ⟨w.heap.size,2,none⟩=some (.string a.s)∧
  w'.cell? ⟨w.heap.size+1,0,none⟩=some (.int .i64 b.k)∧w'.cell? ⟨w.heap.size+1,1,none⟩=some (.int .i64 b.n)∧w'.cell? ⟨w.heap.size+1,2,none⟩=some (.string b.s))
  (go_keep)
  (first
   |(go_at_call 119;refine(cmp_any _ _ _).mono ?_;rintro e w1 ⟨rfl,rfl⟩)
   |(go_at_call 137;refine(Tryz.strings_Compare _ _ _).mono ?_;rw[E.out];rintro e w1 ⟨rfl,rfl⟩)
   |(go_at_call 136;refine(first_any _ [ordI a.k b.k,ordI a.n b.n,cmpB a.s b.s] _ HX.out.drew).mono ?_;rintro e w1 ⟨rfl,rfl⟩))
 all_goals
  go_wp2;go_ret;exact⟨rfl,(hB.alloc (by simp;omega) _).drew⟩
set_option maxHeartbeats 2000000 in
set_option maxRecDepth 10000 in
theorem rcompare_val (a b:Val)(w:World):
 Calls Tryz.prog 108 #[.agg #[.int .i64 a.k,.int .i64 a.n,.string a.s],.agg #[.int .i64 b.k,.int .i64 b.n,.string b.s]] w fun e w'=>e= .returned (.int .i64 (cmpV a b))∧Below w.heap.size w w':=by
 have hB:=below_trans (below_alloc w (.cells #[.int .i64 a.k,.int .i64 a.n,.string a.s] 68)) (below_alloc _ (.cells #[.int .i64 b.k,.int .i64 b.n,.string b.s] 68));by_cases h1:ordI a.k b.k=0
 ·by_cases h2:ordI a.n b.n=0
  ·have e1:=Lib.hid (show cmpV a b=cmpB a.s b.s from by
    unfold cmpV firstNZ;rw[h1,h2];by_cases h3:cmpB a.s b.s=0
    ·rw[h3];rfl
    ·simp[h3])
   cases h4:Op.bytesLess a.s.toList b.s.toList
   ·cases h5:a.s.toList==b.s.toList
    ·have e2:=Lib.hid (show cmpB a.s b.s=1 from by unfold cmpB;rw[h4,h5];rfl)
     go_enter Tryz.func108,Tryz.ntmps108
     go_wp2_with (go_at_call 138;refine(order_any _ _ _).mono ?_;rintro e w' ⟨rfl,rfl⟩)
     go_ret;exact⟨by rw[e1.out,e2.out];rfl,hB⟩
    ·have e2:=Lib.hid (show cmpB a.s b.s=0 from by unfold cmpB;rw[h4,h5];rfl)
     go_enter Tryz.func108,Tryz.ntmps108
     go_wp2_with (go_at_call 138;refine(order_any _ _ _).mono ?_;rintro e w' ⟨rfl,rfl⟩)
     go_ret;exact⟨by rw[e1.out,e2.out];rfl,hB⟩
   ·have e2:=Lib.hid (show cmpB a.s b.s= -1 from by unfold cmpB;rw[h4];rfl)
    go_enter Tryz.func108,Tryz.ntmps108
    go_wp2_with (go_at_call 138;refine(order_any _ _ _).mono ?_;rintro e w' ⟨rfl,rfl⟩)
    go_ret;exact⟨by rw[e1.out,e2.out];rfl,hB⟩
  ·have e1:=Lib.hid (show cmpV a b=ordI a.n b.n from by unfold cmpV firstNZ;rw[h1];simp[h2])
   have h2':=beqF h2;clear h2;go_enter Tryz.func108,Tryz.ntmps108
   go_wp2_with (go_at_call 138;refine(order_any _ _ _).mono ?_;rintro e w' ⟨rfl,rfl⟩)
   go_ret;exact⟨by rw[e1.out];rfl,hB⟩
 ·have e1:=Lib.hid (show cmpV a b=ordI a.k b.k from by unfold cmpV firstNZ;simp[h1])
  have h1':=beqF h1;clear h1;go_enter Tryz.func108,Tryz.ntmps108
  go_wp2_with (go_at_call 138;refine(order_any _ _ _).mono ?_;rintro e w' ⟨rfl,rfl⟩)
  go_ret;exact⟨by rw[e1.out];rfl,hB⟩
end Go.Proofs.YtjhbeecmdgglgaaGreatDoor
namespace Go.Proofs.YtjhbeecmdgglgaaGreatDoor
open Go.RowKit
theorem val_at {w:World}{l:List Val}{v:Value}(h:Sl w v l.length (rowCells l)){A:Option Addr}{n c:Nat}(hv:v= .slice A n c){k:Nat}{x:Val}(hk:l[k]?=some x):
 ∃b off,A=some ⟨b,off,none⟩∧b<w.heap.size∧ ∀w',Below w.heap.size w w'→
  w'.cell? ⟨b,off+k*3,none⟩=some (.int .i64 x.k)∧w'.cell? ⟨b,off+k*3+1,none⟩=some (.int .i64 x.n)∧w'.cell? ⟨b,off+k*3+2,none⟩=some (.string x.s):=by
 obtain⟨A',c',hv',h1,h2,-,h3⟩:=h;rw[hv]at hv';injection hv' with e1 e2 e3;subst e1;have a1:=flat_at Val.cells_len l k 0 (by omega);have a2:=flat_at Val.cells_len l k 1 (by omega);have a3:=flat_at Val.cells_len l k 2 (by omega);rw[hk]at a1 a2 a3;simp only[Option.bind_some,Nat.add_zero]at a1 a2 a3;obtain⟨b,off,hA,hc⟩:=h3 (by intro h0;rw[show l.flatMap Val.cells=rowCells l from rfl,h0]at a1;simp[Val.cells]at a1);have c1:=hc _ _ a1;have c2:=hc _ _ a2;have c3:=hc _ _ a3;exact⟨b,off,hA,World.block_lt_of_cell? w _ c1,fun w' hb=>⟨cell_below hb c1,cell_below hb c2,cell_below hb c3⟩⟩
def rowsF:List Val→List Val→Int
 |[],[]=>0
 |[],_::_=> -1
 |_::_,[]=>1
 |x::r,y::t=>if cmpV x y≠0 then cmpV x y else rowsF r t
theorem rowsF_step {a b:List Val}{k:Nat}{x y:Val}(ha:a[k]?=some x)(hb:b[k]?=some y):
 rowsF (a.drop k) (b.drop k)=if cmpV x y≠0 then cmpV x y else rowsF (a.drop (k+1)) (b.drop (k+1)):=by
 obtain⟨h1,rfl⟩:=List.getElem?_eq_some_iff.1 ha;obtain⟨h2,rfl⟩:=List.getElem?_eq_some_iff.1 hb;rw[List.drop_eq_getElem_cons h1,List.drop_eq_getElem_cons h2];rfl
theorem rowsF_end {a b:List Val}{k:Nat}(ha:k≤a.length)(hb:k≤b.length)(h:k=a.length∨k=b.length):rowsF (a.drop k) (b.drop k)=ordI a.length b.length:=by
 unfold ordI;rcases h with rfl|rfl
 ·rw[List.drop_length]
  by_cases h1:a.length<b.length
  ·rw[List.drop_eq_getElem_cons h1,if_pos (by omega)];rfl
  ·rw[List.drop_eq_nil_of_le (by omega),if_neg (by omega),if_neg (by omega)];rfl
 ·rw[List.drop_length]
  by_cases h1:b.length<a.length
  ·rw[List.drop_eq_getElem_cons h1,if_neg (by omega),if_pos (by omega)];rfl
  ·rw[List.drop_eq_nil_of_le (by omega),if_neg (by omega),if_neg (by omega)];rfl
set_option maxHeartbeats 2000000 in
set_option maxRecDepth 10000 in
theorem rrows_any (va vb:Value)(a b:List Val)(w:World)(ha:Sl w va a.length (rowCells a))(hb:Sl w vb b.length (rowCells b)):
 Calls Tryz.prog 107 #[va,vb] w fun e w'=>e= .returned (.int .i64 (rowsF a b))∧Below w.heap.size w w':=by
 have Ha:=Lib.hid ha;have Hb:=Lib.hid hb;obtain⟨A,ca,rfl,ha1,ha2,-⟩:=ha;obtain⟨B,cb,rfl,hb1,hb2,-⟩:=hb;unfold maxLen at ha2 hb2;go_enter Tryz.func107,Tryz.ntmps107
 go_wp2
 go_loopw[5,6] (fun i _ wr=> ∃k:Nat,k≤a.length∧k≤b.length∧i= .int .i64 k∧Hid (rowsF a b=rowsF (a.drop k) (b.drop k))∧Below w.heap.size w wr) (fun i _ _=>a.length-(intOf i).toNat)
 case atStart=>exact⟨0,by omega,by omega,rfl,rfl,Below.refl _ _⟩
 case round=>
  obtain⟨k,hka,hkb,rfl,H,hbw⟩:=hrel;by_cases hlt:k<a.length∧k<b.length
  ·obtain⟨hla,hlb⟩:=hlt
   have hx:=List.getElem?_eq_getElem (l:=a) hla;have hy:=List.getElem?_eq_getElem (l:=b) hlb;generalize a[k]=x at hx;generalize b[k]=y at hy;obtain⟨g,off,rfl,-,hc⟩:=val_at Ha.out rfl hx;obtain⟨g',off',rfl,-,hd⟩:=val_at Hb.out rfl hy;have z0:=And.intro (hc _ hbw) (hd _ hbw);obtain⟨⟨c1,c2,c3⟩,d1,d2,d3⟩:=z0;have hst:=rowsF_step hx hy;have HST:=Lib.hid hst;have HC:=Lib.hid hc;have HD:=Lib.hid hd;have k0:(0:Int)≤(k:Int):=by omega
   have k1:(k:Int)<(a.length:Int):=by omega
   have k2:(k:Int)<(b.length:Int):=by omega
   clear hst hx hy hc hd
   go_wp2_with fail
   go_region_held3 (fun w'=>(w'.cell? ⟨g,off+k*3,none⟩=some (.int .i64 x.k)∧w'.cell? ⟨g,off+k*3+1,none⟩=some (.int .i64 x.n)∧w'.cell? ⟨g,off+k*3+2,none⟩=some (.string x.s))∧
    w'.cell? ⟨g',off'+k*3,none⟩=some (.int .i64 y.k)∧w'.cell? ⟨g',off'+k*3+1,none⟩=some (.int .i64 y.n)∧w'.cell? ⟨g',off'+k*3+2,none⟩=some (.string y.s))
    (first|go_keep|exact z1)
    ((go_at_call 108
      refine(rcompare_val x y _).mono ?_;rintro e w1 ⟨rfl,hb1⟩;have hb1':=hbw.drew.trans (hb1.mono (by exact hbw.size));have z1:=And.intro (HC.out _ hb1') (HD.out _ hb1')))
   by_cases hq:cmpV x y=0
   ·have e1:Hid (rowsF a b=rowsF (a.drop (k+1)) (b.drop (k+1))):=by
     show _=_;rw[H.out,HST.out,if_neg (by simpa using hq)]
    go_wp2;go_roundw
    case rel=>exact⟨k+1,by omega,by omega,by go_num,e1,hb1'⟩
    case measure=>simp[intOf];omega
   ·have e1:=Lib.hid (show rowsF a b=cmpV x y from by rw[H.out,HST.out,if_pos hq])
    have hq':=beqF hq;clear hq;go_wp2;go_ret;exact⟨by rw[e1.out];rfl,hb1'⟩
  ·have hor:k=a.length∨k=b.length:=by omega
   have e1:=Lib.hid (show rowsF a b=ordI a.length b.length from by rw[H.out,rowsF_end hka hkb hor]);clear hlt;by_cases hka':k<a.length
   ·have hkb': ¬(k:Int)<(b.length:Int):=by omega
    clear hor
    go_wp2_with (go_at_call 138;refine(order_any _ _ _).mono ?_;rintro e w' ⟨rfl,rfl⟩)
    go_ret;exact⟨by rw[e1.out];rfl,hbw⟩
   ·clear hor
    go_wp2_with (go_at_call 138;refine(order_any _ _ _).mono ?_;rintro e w' ⟨rfl,rfl⟩)
    go_ret;exact⟨by rw[e1.out];rfl,hbw⟩
end Go.Proofs.YtjhbeecmdgglgaaGreatDoor
namespace Go.Proofs.YtjhbeecmdgglgaaGreatDoor
open Go.RowKit
def veq (x y:Val):Bool:=x.k==y.k&&(x.n==y.n&&x.s.toList==y.s.toList)
def sameR (a b:List Val):Bool:=a.length==b.length&&(List.zip a b).all (fun p=>veq p.1 p.2)
theorem veq_iff (x y:Val):veq x y=true↔x=y:=by
 obtain⟨k,n,s⟩:=x;obtain⟨k',n',s'⟩:=y;simp only[veq,Bool.and_eq_true,beq_iff_eq,Val.mk.injEq];rw[ByteArray.toList_eq,ByteArray.toList_eq];obtain⟨⟨x⟩⟩:=s;obtain⟨⟨y⟩⟩:=s';simp
theorem samer_len {a b:List Val}(h:a.length≠b.length):sameR a b=false:=by simp[sameR,h]
theorem samer_no {a b:List Val}{k:Nat}{s t:Val}(ha:a[k]?=some s)(hb:b[k]?=some t)(h:veq s t=false):sameR a b=false:=by
 unfold sameR;rw[Bool.and_eq_false_iff];right;rw[List.all_eq_false];refine⟨(s,t),List.mem_of_getElem? (i:=k) ?_,by simp[h]⟩;simp[List.getElem?_zip_eq_some,ha,hb]
theorem samer_yes {a b:List Val}(hl:a.length=b.length)(h: ∀(j:Nat) (s t:Val),a[j]?=some s→b[j]?=some t→veq s t=true):sameR a b=true:=by
 unfold sameR;rw[hl];simp only[beq_self_eq_true,Bool.true_and,List.all_eq_true];intro p hp;obtain⟨j,hj⟩:=List.getElem?_of_mem hp;obtain⟨p1,p2⟩:=p;rw[List.getElem?_zip_eq_some]at hj;exact h j p1 p2 hj.1 hj.2
theorem sameR_iff (a b:List Val):sameR a b=true↔a=b:=by
 constructor
 ·intro h
  have hl:a.length=b.length:=by
   rcases Nat.decEq a.length b.length with h'|h'
   ·rw[samer_len h']at h;cases h
   ·exact h'
  apply List.ext_getElem?;intro i;rcases Nat.lt_or_ge i a.length with hi|hi
  ·have h1:=List.getElem?_eq_getElem (l:=a) hi
   have h2:=List.getElem?_eq_getElem (l:=b) (show i<b.length by omega);rw[h1,h2];cases hv:veq a[i] b[i]
   ·rw[samer_no h1 h2 hv]at h;cases h
   ·rw[(veq_iff _ _).1 hv]
  ·rw[List.getElem?_eq_none hi,List.getElem?_eq_none (by omega)]
 ·rintro rfl
  refine samer_yes rfl fun j s t h1 h2=> ?_;rw[h1]at h2;injection h2 with h2;exact(veq_iff _ _).2 h2
set_option maxHeartbeats 1000000 in
set_option maxRecDepth 10000 in
theorem same_any (va vb:Value)(a b:List Val)(w:World)(ha:Sl w va a.length (rowCells a))(hb:Sl w vb b.length (rowCells b)):
 Calls Tryz.prog 26 #[va,vb] w fun e w'=>e= .returned (.bool (sameR a b))∧Below w.heap.size w w':=by
 have Ha:=Lib.hid ha;have Hb:=Lib.hid hb;obtain⟨A,ca,rfl,ha1,ha2,-⟩:=ha;obtain⟨B,cb,rfl,hb1,hb2,-⟩:=hb;unfold maxLen at ha2 hb2;by_cases hl:a.length=b.length
 ·have HL:=Lib.hid hl
  have hl':((a.length:Int)==(b.length:Int))=true:=by simp[hl]
  have hle:a.length≤b.length:=by omega
  clear hl;go_enter Tryz.func26,Tryz.ntmps26
  go_wp2;clear hl'
  go_loopw[5] (fun i wr=> ∃k:Nat,k≤a.length∧i= .int .i64 k∧Hid (∀(j:Nat) (s t:Val),j<k→a[j]?=some s→b[j]?=some t→veq s t=true)∧Below w.heap.size w wr) (fun i _=>a.length-(intOf i).toNat)
  case atStart=>exact⟨0,by omega,rfl,fun j s t hj=>absurd hj (by omega),Below.refl _ _⟩
  case round=>
   obtain⟨k,hk,rfl,H,hbw⟩:=hrel;by_cases hlt:k<a.length
   ·have hx:=List.getElem?_eq_getElem (l:=a) hlt
    have hy:=List.getElem?_eq_getElem (l:=b) (show k<b.length by omega);generalize a[k]=x at hx;generalize b[k]=y at hy;obtain⟨g,off,rfl,-,hc⟩:=val_at Ha.out rfl hx;obtain⟨g',off',rfl,-,hd⟩:=val_at Hb.out rfl hy;obtain⟨c1,c2,c3⟩:=hc _ hbw;obtain⟨d1,d2,d3⟩:=hd _ hbw;have HX:=Lib.hid hx;have HY:=Lib.hid hy;have k0:(0:Int)≤(k:Int):=by omega
    have k1:(k:Int)<(a.length:Int):=by omega
    have k2:(k:Int)<(b.length:Int):=by omega
    have hneq: ∀W,(binOp .neq 68 (.agg #[.int .i64 x.k,.int .i64 x.n,.string x.s]) (.agg #[.int .i64 y.k,.int .i64 y.n,.string y.s])).run Tryz.prog W= .ok (.bool (!veq x y)) W:=fun W=>run_neq_val ..;clear hx hy hc hd;cases hq:veq x y
    all_goals
     rw[hq]at hneq;simp only[Bool.not_true,Bool.not_false]at hneq;have HQ:=Lib.hid hq;clear hq
    ·go_wp2_with fail
     go_quiet (fail)
     go_wp2;go_ret;exact⟨ret_bool (samer_no HX.out HY.out HQ.out).symm,below_drewN hbw _⟩
    ·go_wp2_with fail
     go_quiet (fail)
     go_wp2;go_roundw
     case rel=>
      refine⟨k+1,by omega,by go_num,fun j s' t' hj h1 h2=> ?_,below_drewN hbw _⟩;rcases Nat.lt_or_ge j k with hjk|hjk
      ·exact H.out j s' t' hjk h1 h2
      ·obtain rfl:j=k:=by omega
       rw[HX.out]at h1;rw[HY.out]at h2;injection h1 with h1;injection h2 with h2;rw[←h1,←h2];exact HQ.out
     case measure=>simp[intOf];omega
   ·obtain rfl:k=a.length:=by omega
    go_wp2;go_ret;refine⟨ret_bool (samer_yes HL.out ?_).symm,hbw⟩;intro j s t h1 h2;exact H.out j s t (List.getElem?_eq_some_iff.1 h1).1 h1 h2
 ·have hl':((a.length:Int)==(b.length:Int))=false:=by simp;omega
  have e1:=Lib.hid (samer_len hl);clear hl;go_enter Tryz.func26,Tryz.ntmps26
  go_wp2;go_ret;exact⟨ret_bool e1.out.symm,Below.refl _ _⟩
def keyErr (l:List Val):Int:=if 8<l.length then 2 else firstNZ (l.map checkV)
def Small (l:List Val):Prop:= ∀x∈l,x.s.size≤9223372036854775807
set_option maxHeartbeats 1000000 in
set_option maxRecDepth 10000 in
theorem keyError_any (v:Value)(l:List Val)(w:World)(h:Sl w v l.length (rowCells l))(hsm:Small l):
 Calls Tryz.prog 93 #[v] w fun e w'=>e= .returned (.int .i64 (keyErr l))∧Below w.heap.size w w':=by
 have HH:=Lib.hid h;have HSM:=Lib.hid hsm;obtain⟨A,c,rfl,h1,h2,-⟩:=h;clear hsm;unfold maxLen at h2;by_cases hn:8<l.length
 ·have e1:=Lib.hid (show keyErr l=2 from if_pos hn)
  go_enter Tryz.func93,Tryz.ntmps93
  go_wp2;go_ret;exact⟨by rw[e1.out];rfl,Below.refl _ _⟩
 ·have HN:=Lib.hid (show keyErr l=firstNZ (l.map checkV)from if_neg hn)
  go_enter Tryz.func93,Tryz.ntmps93
  go_wp2
  go_loopw[3,4] (fun i _ wr=> ∃k:Nat,k≤l.length∧i= .int .i64 k∧Hid (∀x∈(l.map checkV).take k,x=0)∧Below w.heap.size w wr) (fun i _ _=>l.length-(intOf i).toNat)
  case atStart=>exact⟨0,by omega,rfl,by simp[Hid],Below.refl _ _⟩
  case round=>
   obtain⟨k,hk,rfl,H,hbw⟩:=hrel;by_cases hlt:k<l.length
   ·have hx:=List.getElem?_eq_getElem (l:=l) hlt
    generalize l[k]=x at hx;obtain⟨g,off,rfl,-,hc⟩:=val_at HH.out rfl hx;obtain⟨c1,c2,c3⟩:=hc _ hbw;have hxs:=HSM.out x (List.mem_of_getElem? hx);have HG:=Lib.hid (show(l.map checkV)[k]?=some (checkV x)from by rw[List.getElem?_map,hx];rfl);clear hx hc;by_cases hq:checkV x=0
    ·have HQ:=Lib.hid hq
     go_wp2_with (go_at_call 124;refine(rcheck_val x _ hxs).mono ?_;rintro e w1 ⟨rfl,hb1⟩)
     go_roundw
     case rel=>
      refine⟨k+1,by omega,by go_num,?_,hbw.trans (hb1.mono hbw.size)⟩;show ∀y∈(l.map checkV).take (k+1),y=0;rw[List.take_add_one,HG.out];intro y hy;rcases List.mem_append.1 hy with hy|hy
      ·exact H.out y hy
      ·simp at hy;rw[hy];exact HQ.out
     case measure=>simp[intOf];omega
    ·have e1:=Lib.hid (firstNZ_hit H.out HG.out hq)
     have hq':=beqF hq;clear hq
     go_wp2_with (go_at_call 124;refine(rcheck_val x _ hxs).mono ?_;rintro e w1 ⟨rfl,hb1⟩)
     go_ret;exact⟨by rw[HN.out,e1.out];rfl,hbw.trans (hb1.mono hbw.size)⟩
   ·obtain rfl:k=l.length:=by omega
    have e1:=Lib.hid (firstNZ_none (l:=l.map checkV) (by have:=H.out;rwa[List.take_of_length_le (by simp)]at this));go_wp2;go_ret;exact⟨by rw[HN.out,e1.out];rfl,hbw⟩
end Go.Proofs.YtjhbeecmdgglgaaGreatDoor
namespace Go.Proofs.YtjhbeecmdgglgaaGreatDoor
open Go.RowKit
def byteV (b:UInt8):Value:= .int .u8 (b.toNat:Int)
def bytesV (l:List UInt8):List Value:=l.map byteV
def str (l:List UInt8):ByteArray:=⟨l.toArray⟩
theorem str_size (l:List UInt8):(str l).size=l.length:=by simp[str,ByteArray.size]
theorem str_append (a b:List UInt8):str a++str b=str (a++b):=by
 apply ByteArray.ext;simp[str]
theorem str_toList (l:List UInt8):(str l).toList=l:=by rw[ByteArray.toList_eq];simp[str]
theorem str_of (s:ByteArray):str s.toList=s:=by
 rw[ByteArray.toList_eq];obtain⟨⟨x⟩⟩:=s;rfl
theorem run_str (W:World)(g off c:Nat)(l:List UInt8)(hc: ∀j u,(bytesV l)[j]?=some u→W.cell? ⟨g,off+j,none⟩=some u):
 (convert 142 9 (.slice (some ⟨g,off,none⟩) l.length c)).run Tryz.prog W= .ok (.string (str l)) W:=
 run_convert_bytes_back W 142 9 5 ⟨g,off,none⟩ c l Tryz.underlying142 Tryz.underlying5 Tryz.underlying9 (fun j hj=>by
  have:=hc j (byteV l[j]) (by simp[bytesV,hj]);unfold Addr.add;split
  ·rename_i h;subst h;simpa[byteV]using this
  ·simpa[byteV]using this)
theorem run_str1 (W:World)(b:UInt8):(convert 142 9 (.slice (some ⟨W.heap.size,0,none⟩) 1 1)).run Tryz.prog (W.alloc (.cells #[.int .u8 (b.toNat:Int)] 5))= .ok (.string (str [b])) (W.alloc (.cells #[.int .u8 (b.toNat:Int)] 5)):=
 run_str _ _ 0 1 [b] fun j u hj=>by
  have:=(Blk.new W 5 #[.int .u8 (b.toNat:Int)]).cell j u (by simpa[bytesV,byteV]using hj);simpa using this
def byteAt (m k:Nat):UInt8:=UInt8.ofNat (m/ 2 ^(56-8*k))
def be8 (m:Nat):List UInt8:=(List.range 8).map (byteAt m)
theorem be8_len (m:Nat):(be8 m).length=8:=by simp[be8]
theorem be8_take (m k:Nat)(hk:k<8):(be8 m).take (k+1)=(be8 m).take k++[byteAt m k]:=by
 rw[List.take_add_one];simp[be8,hk]
theorem byteAt_eq (m k:Nat):((m:Int)/ 2 ^(56-8*k)%256)=((byteAt m k).toNat:Int):=by
 simp[byteAt,UInt8.toNat_ofNat']
set_option maxHeartbeats 1000000 in
set_option maxRecDepth 10000 in
theorem eight_any (n:Int)(m:Nat)(w:World)(hm:IntKind.u64.wrap n=(m:Int)):
 Calls Tryz.prog 177 #[.int .i64 n] w fun e w'=>e= .returned (.string (str (be8 m)))∧Below w.heap.size w w':=by
 have HM:=Lib.hid hm;clear hm;go_enter Tryz.func177,Tryz.ntmps177
 go_wp2
 go_loopw[3,4] (fun s i wr=> ∃(k:Nat) (x:ByteArray),k≤8∧i= .int .i64 (56-8*(k:Int))∧s= .string x∧x.size≤k∧Hid (x=str ((be8 m).take k))∧Below w.heap.size w wr) (fun _ i _=>(intOf i+8).toNat)
 case atStart=>exact⟨0,⟨#[]⟩,by omega,rfl,rfl,by simp[ByteArray.size],rfl,Below.refl _ _⟩
 case round=>
  obtain⟨k,x,hk,rfl,rfl,hsz,HX,hbw⟩:=hrel;by_cases hlt:k<8
  ·have hb:IntKind.u64.wrap n/ 2 ^(56-8*k)%256=((byteAt m k).toNat:Int):=by rw[HM.out,byteAt_eq]
   have hs:=run_str1 wr (byteAt m k);have hs1:=str_size [byteAt m k];simp only[List.length_cons,List.length_nil,Nat.zero_add]at hs1;go_wp2;go_roundw
   case rel=>
    refine⟨k+1,_,by omega,?_,rfl,?_,?_,hbw.alloc hbw.size _⟩
    ·congr 1;omega
    ·rw[ByteArray.size_append];omega
    ·show _=_
     rw[HX.out,str_append,be8_take _ _ hlt]
   case measure=>simp[intOf];omega
  ·obtain rfl:k=8:=by omega
   go_wp2;go_ret;have hx:x=str (be8 m):=by rw[HX.out,List.take_of_length_le (by rw[be8_len];omega)]
   exact⟨by rw[hx];rfl,hbw⟩
end Go.Proofs.YtjhbeecmdgglgaaGreatDoor
namespace Go.Proofs.YtjhbeecmdgglgaaGreatDoor
open Go.RowKit
theorem xor_lo (x:Nat)(h:x<2 ^ 63):x ^^^ 2 ^ 63=2 ^ 63+x:=by
 apply Nat.eq_of_testBit_eq;intro j;rw[Nat.testBit_xor,Nat.testBit_two_pow];rcases Nat.lt_trichotomy j 63 with hj|hj|hj
 ·rw[Nat.testBit_two_pow_add_gt hj,show decide (63=j)=false from by simp;omega]
  simp
 ·subst hj
  rw[Nat.testBit_two_pow_add_eq,Nat.testBit_lt_two_pow h];simp
 ·have h1:x<2 ^ j:=Nat.lt_of_lt_of_le h (Nat.pow_le_pow_right (by omega) (by omega))
  have h2:2 ^ 63+x<2 ^ j:=by
   have:2 ^ 64≤2 ^ j:=Nat.pow_le_pow_right (by omega) (by omega);omega
  rw[Nat.testBit_lt_two_pow h1,Nat.testBit_lt_two_pow h2,show decide (63=j)=false from by simp;omega];rfl
theorem xor_any (x:Nat)(h:x<2 ^ 64):x ^^^ 2 ^ 63=(x+2 ^ 63)%2 ^ 64:=by
 rcases Nat.lt_or_ge x (2 ^ 63)with h1|h1
 ·rw[xor_lo x h1];omega
 ·have h2:x-2 ^ 63<2 ^ 63:=by omega
  have h3:=xor_lo (x-2 ^ 63) h2;have h4:x=(x-2 ^ 63)^^^ 2 ^ 63:=by rw[h3];omega
  have h5:x ^^^ 2 ^ 63=x-2 ^ 63:=by
   rw[h4,Nat.xor_assoc,Nat.xor_self,Nat.xor_zero];omega
  rw[h5];omega
def bias (n:Int):Nat:=(n+9223372036854775808).toNat
theorem xor_bias (n:Int)(h1: -9223372036854775808≤n)(h2:n≤9223372036854775807):
 IntKind.u64.wrap (bits .xor .i64 n (-9223372036854775808))=(bias n:Int):=by
 show IntKind.u64.wrap (IntKind.i64.wrap ((BitVec.ofInt 64 n ^^^ BitVec.ofInt 64 (-9223372036854775808)).toNat:Int))=_;have e1:(BitVec.ofInt 64 (-9223372036854775808)).toNat=2 ^ 63:=by decide
 have e2:(BitVec.ofInt 64 n).toNat=(n%18446744073709551616).toNat:=by rw[BitVec.toNat_ofInt];rfl
 rw[BitVec.toNat_xor,e1,e2,xor_any _ (by omega),IntKind.wrap_u64,IntKind.wrap_i64];unfold bias;omega
def esc (l:List UInt8):List UInt8:=l.flatMap fun b=>if b=0 then[0,255]else[b]
def keyCell (v:Val):List UInt8:=
 UInt8.ofNat v.k.toNat::(if v.k=1 then[UInt8.ofNat v.n.toNat]else if v.k=2 then be8 (bias v.n)else if v.k=3 then esc v.s.toList++[0,1]else[])
def keyRow (l:List Val):List UInt8:=l.flatMap keyCell
theorem esc_cons (b:UInt8)(l:List UInt8):esc (b::l)=(if b=0 then[0,255]else[b])++esc l:=List.flatMap_cons
theorem esc_append (a b:List UInt8):esc (a++b)=esc a++esc b:=List.flatMap_append
theorem esc_len (l:List UInt8):(esc l).length≤2*l.length:=by
 induction l with
 |nil=>simp[esc]
 |cons b l ih=>
  rw[esc_cons,List.length_append,List.length_cons];split<;>simp<;>omega
theorem toList_len (s:ByteArray):s.toList.length=s.size:=by rw[ByteArray.toList_eq];exact Array.length_toList
theorem keyCell_len (v:Val)(h:v.s.size≤64):(keyCell v).length≤131:=by
 unfold keyCell;have h1:=esc_len v.s.toList;have h2:=toList_len v.s;simp only[List.length_cons];split
 ·simp
 ·split
  ·rw[be8_len];omega
  ·split
   ·rw[List.length_append];simp;omega
   ·simp
theorem toList_at (s:ByteArray)(k:Nat)(hk:k<s.size):s.toList[k]?=some s[k]:=by
 rw[ByteArray.toList_eq];have hk':k<s.data.toList.length:=by rw[Array.length_toList];exact hk
 rw[List.getElem?_eq_getElem hk'];rfl
theorem esc_take (s:ByteArray)(k:Nat)(hk:k<s.size):esc (s.toList.take (k+1))=esc (s.toList.take k)++(if s[k]=0 then[0,255]else[s[k]]):=by
 rw[List.take_add_one,toList_at s k hk,esc_append];show _=_++_
 congr 1
 rw[Option.toList_some,esc_cons];simp[esc]
theorem extract_one (s:ByteArray)(k:Nat)(hk:k<s.size):s.extract k (k+1)=str [s[k]]:=by
 have h:s.toList[k]?=some s[k]:=toList_at s k hk;rw[ByteArray.toList_eq]at h;apply ByteArray.ext;simp only[str,ByteArray.data_extract];apply Array.ext';simp only[Array.toList_extract,List.extract_eq_take_drop,Nat.add_sub_cancel_left];rw[List.take_one,List.head?_drop,h];rfl
end Go.Proofs.YtjhbeecmdgglgaaGreatDoor
namespace Go.Proofs.YtjhbeecmdgglgaaGreatDoor
open Go.RowKit
theorem strL0 (W:World):(convert 142 9 (.slice (some ⟨W.heap.size,0,none⟩) 1 1)).run Tryz.prog (W.alloc (.cells #[.int .u8 0] 5))= .ok (.string (str [0])) (W.alloc (.cells #[.int .u8 0] 5)):=run_str1 W 0
theorem strL1 (W:World):(convert 142 9 (.slice (some ⟨W.heap.size,0,none⟩) 1 1)).run Tryz.prog (W.alloc (.cells #[.int .u8 1] 5))= .ok (.string (str [1])) (W.alloc (.cells #[.int .u8 1] 5)):=run_str1 W 1
theorem strL2 (W:World):(convert 142 9 (.slice (some ⟨W.heap.size,0,none⟩) 1 1)).run Tryz.prog (W.alloc (.cells #[.int .u8 2] 5))= .ok (.string (str [2])) (W.alloc (.cells #[.int .u8 2] 5)):=run_str1 W 2
theorem strL3 (W:World):(convert 142 9 (.slice (some ⟨W.heap.size,0,none⟩) 1 1)).run Tryz.prog (W.alloc (.cells #[.int .u8 3] 5))= .ok (.string (str [3])) (W.alloc (.cells #[.int .u8 3] 5)):=run_str1 W 3
theorem strA0 (w:World)(o:Obj):(convert 142 9 (.slice (some ⟨w.heap.size+1,0,none⟩) 1 1)).run Tryz.prog ((w.alloc o).alloc (.cells #[.int .u8 0] 5))= .ok (.string (str [0])) ((w.alloc o).alloc (.cells #[.int .u8 0] 5)):=by
 have:=strL0 (w.alloc o);rwa[World.size_alloc]at this
theorem strB0 (w:World)(o o':Obj):(convert 142 9 (.slice (some ⟨w.heap.size+1+1,0,none⟩) 1 1)).run Tryz.prog (((w.alloc o).alloc o').alloc (.cells #[.int .u8 0] 5))= .ok (.string (str [0])) (((w.alloc o).alloc o').alloc (.cells #[.int .u8 0] 5)):=by
 have:=strL0 ((w.alloc o).alloc o');rwa[World.size_alloc,World.size_alloc]at this
theorem strA1 (w:World)(o:Obj):(convert 142 9 (.slice (some ⟨w.heap.size+1,0,none⟩) 1 1)).run Tryz.prog ((w.alloc o).alloc (.cells #[.int .u8 1] 5))= .ok (.string (str [1])) ((w.alloc o).alloc (.cells #[.int .u8 1] 5)):=by
 have:=strL1 (w.alloc o);rwa[World.size_alloc]at this
theorem strB1 (w:World)(o o':Obj):(convert 142 9 (.slice (some ⟨w.heap.size+1+1,0,none⟩) 1 1)).run Tryz.prog (((w.alloc o).alloc o').alloc (.cells #[.int .u8 1] 5))= .ok (.string (str [1])) (((w.alloc o).alloc o').alloc (.cells #[.int .u8 1] 5)):=by
 have:=strL1 ((w.alloc o).alloc o');rwa[World.size_alloc,World.size_alloc]at this
theorem strA2 (w:World)(o:Obj):(convert 142 9 (.slice (some ⟨w.heap.size+1,0,none⟩) 1 1)).run Tryz.prog ((w.alloc o).alloc (.cells #[.int .u8 2] 5))= .ok (.string (str [2])) ((w.alloc o).alloc (.cells #[.int .u8 2] 5)):=by
 have:=strL2 (w.alloc o);rwa[World.size_alloc]at this
theorem strA3 (w:World)(o:Obj):(convert 142 9 (.slice (some ⟨w.heap.size+1,0,none⟩) 1 1)).run Tryz.prog ((w.alloc o).alloc (.cells #[.int .u8 3] 5))= .ok (.string (str [3])) ((w.alloc o).alloc (.cells #[.int .u8 3] 5)):=by
 have:=strL3 (w.alloc o);rwa[World.size_alloc]at this
theorem good_cases (v:Val)(h:checkV v=0):
 (v.k=0∧keyCell v=[0])∨(v.k=1∧v.n=0∧keyCell v=[1,0])∨(v.k=1∧v.n=1∧keyCell v=[1,1])∨(v.k=2∧keyCell v=2::be8 (bias v.n))∨
 (v.k=3∧v.s.size≤64∧keyCell v=3::(esc v.s.toList++[0,1])):=by
 unfold keyCell;rcases val_cases v with⟨h1,-,hc⟩|⟨h1,-,-,hc⟩|⟨h1,-,-,hc⟩|⟨h1,-,-,hc⟩|⟨h1,-,-,hc⟩|⟨h1,h2,-,hc⟩|⟨h1,-,-,hc⟩|⟨h1,h2,-,hc⟩|⟨h1,-,hc⟩|⟨h1,-,hc⟩|⟨h1,-,hc⟩|⟨h1,-,-,hc⟩|⟨h1,-,h2,hc⟩|⟨h1,hc⟩|⟨h1,hc⟩
 all_goals
  first|(rw[h]at hc;exact absurd hc (by decide))|skip
 ·simp[h1]
 ·simp[h1,h2]
 ·simp[h1,h2]
 ·simp[h1]
 ·simp[h1];omega
set_option maxHeartbeats 2000000 in
set_option maxRecDepth 10000 in
theorem cellKey_any (v:Val)(w:World)(hc:checkV v=0)(h1: -9223372036854775808≤v.n)(h2:v.n≤9223372036854775807):
 Calls Tryz.prog 159 #[.agg #[.int .i64 v.k,.int .i64 v.n,.string v.s]] w fun e w'=>e= .returned (.string (str (keyCell v)))∧Below w.heap.size w w':=by
 have H:=good_cases v hc;obtain⟨k,n,s⟩:=v;simp only at H h1 h2⊢;clear hc;generalize keyCell ⟨k,n,s⟩=kc at H⊢;have hB:=fun o1 o2=>below_trans (below_alloc w o1) (below_alloc _ o2);rcases H with⟨rfl,rfl⟩|⟨rfl,rfl,rfl⟩|⟨rfl,rfl,rfl⟩|⟨rfl,rfl⟩|⟨rfl,hs,rfl⟩
 ·have hs0:=strA0 w
  go_enter Tryz.func159,Tryz.ntmps159
  go_wp2;go_ret;exact⟨rfl,hB _ _⟩
 ·have hs0:=strB0 w
  have hs1:=strA1 w;have z1:=str_size [1];have z2:=str_size [0];simp only[List.length_cons,List.length_nil,Nat.zero_add]at z1 z2;go_enter Tryz.func159,Tryz.ntmps159
  go_wp2;go_ret;exact⟨by rw[show str [1,0]=str [1]++str [0]from(str_append [1] [0]).symm];rfl,below_trans (hB _ _) (below_alloc _ _)⟩
 ·have hs1:=strA1 w
  have hs0:=strB1 w;have z1:=str_size [1];simp only[List.length_cons,List.length_nil,Nat.zero_add]at z1;go_enter Tryz.func159,Tryz.ntmps159
  go_wp2;go_ret;exact⟨by rw[show str [1,1]=str [1]++str [1]from(str_append [1] [1]).symm];rfl,below_trans (hB _ _) (below_alloc _ _)⟩
 ·have hs2:=strA2 w
  have z1:=str_size [2];have z2:=str_size (be8 (bias n));rw[be8_len]at z2;have hx:=xor_bias n h1 h2;generalize hq:bits .xor .i64 n (-9223372036854775808)=q at hx;have HX:=Lib.hid hx;simp only[List.length_cons,List.length_nil,Nat.zero_add]at z1;go_enter Tryz.func159,Tryz.ntmps159
  go_wp2_with fail
  refine(eight_any q (bias n) _ HX.out).mono ?_;rintro e w1 ⟨rfl,hb1⟩;go_wp2;go_ret;exact⟨by rw[show str (2::be8 (bias n))=str [2]++str (be8 (bias n))from(str_append [2] _).symm];rfl,below_trans (hB _ _) hb1⟩
 ·have hs3:=strA3 w
  have z1:=str_size [3];simp only[List.length_cons,List.length_nil,Nat.zero_add]at z1;go_enter Tryz.func159,Tryz.ntmps159
  go_wp2
  go_loop [3,4] (fun x i=> ∃(j:Nat) (y:ByteArray),j≤s.size∧i= .int .i64 j∧x= .string y∧y.size≤1+2*j∧Hid (y=str (3::esc (s.toList.take j)))) (fun _ i=>s.size-(intOf i).toNat)
  case atStart=>exact⟨0,str [3],by omega,rfl,rfl,by omega,rfl⟩
  case round=>
   obtain⟨j,y,hj,rfl,rfl,hy,HY⟩:=hrel;by_cases hlt:j<s.size
   ·have hex:=extract_one s j hlt
    have he1:(s.extract j (j+1)).size≤1:=by rw[hex,str_size];simp
    have HEX:=Lib.hid hex;have HTK:=Lib.hid (esc_take s j hlt);clear hex;cases hz:(((s[j].toNat:Int))==0)
    ·have hz2:s[j]≠0:=by intro h0;rw[h0]at hz;simp at hz
     have HZ:=Lib.hid hz2;clear hz2;go_wp2
     go_round
     case rel=>
      refine⟨j+1,_,by omega,by go_num,rfl,?_,?_⟩
      ·rw[ByteArray.size_append];omega
      ·show _=_
       rw[HY.out,HEX.out,str_append,HTK.out,if_neg HZ.out];rfl
     case measure=>simp[intOf];omega
    ·have hz2:s[j]=0:=by
      apply UInt8.toNat_inj.1;have:(s[j].toNat:Int)=0:=by simpa using hz
      have h0:(0:UInt8).toNat=0:=rfl;omega
     have HZ:=Lib.hid hz2;clear hz2;go_wp2
     go_round
     case rel=>
      refine⟨j+1,_,by omega,by go_num,rfl,?_,?_⟩
      ·rw[ByteArray.size_append,ByteArray.size_append]
       have:(⟨#[255]⟩:ByteArray).size=1:=rfl;omega
      ·show _=_
       rw[HY.out,HEX.out,HZ.out,show(⟨#[255]⟩:ByteArray)=str [255]from rfl,str_append,str_append,HTK.out,if_pos HZ.out];simp
     case measure=>simp[intOf];omega
   ·obtain rfl:j=s.size:=by omega
    have hfull:s.toList.take s.size=s.toList:=List.take_of_length_le (by rw[toList_len];omega);go_wp2;go_ret;refine⟨?_,hB _ _⟩;rw[show str (3::(esc s.toList++[0,1]))=y++str [0,1]from by rw[HY.out,str_append,hfull];simp];rfl
structure Fine (l:List Val):Prop where
 small:Small l
 nums: ∀x∈l,-9223372036854775808≤x.n∧x.n≤9223372036854775807
theorem keyErr_zero {l:List Val}(h:keyErr l=0):l.length≤8∧ ∀x∈l,checkV x=0:=by
 unfold keyErr at h;by_cases hn:8<l.length
 ·rw[if_pos hn]at h;omega
 ·rw[if_neg hn]at h
  refine⟨by omega,fun x hx=> ?_⟩;obtain⟨i,hi⟩:=List.getElem?_of_mem hx;unfold firstNZ at h;cases hf:(l.map checkV).find? (fun n=>n != 0)with
  |none=>
   rw[List.find?_eq_none]at hf;have:=hf (checkV x) (List.mem_map.2 ⟨x,hx,rfl⟩);simpa using this
  |some y=>
   rw[hf]at h;have:=List.find?_some hf;simp at this h;exact absurd h this
theorem good_size {v:Val}(h:checkV v=0):v.s.size≤64:=by
 have he:v.s.toList.isEmpty=true→v.s.size≤64:=by
  intro h0;rw[←toList_len];cases hl:v.s.toList with
  |nil=>simp
  |cons a r=>rw[hl]at h0;simp at h0
 rcases val_cases v with⟨-,-,hc⟩|⟨-,-,-,hc⟩|⟨-,-,h3,hc⟩|⟨-,-,-,hc⟩|⟨-,-,-,hc⟩|⟨-,-,h3,hc⟩|⟨-,-,-,hc⟩|⟨-,-,h3,hc⟩|⟨-,-,hc⟩|⟨-,h3,hc⟩|⟨-,-,hc⟩|⟨-,-,-,hc⟩|⟨-,-,h3,hc⟩|⟨-,hc⟩|⟨-,hc⟩
 all_goals
  first|(rw[h]at hc;exact absurd hc (by decide))|exact he h3|exact h3
theorem keyRow_take (l:List Val)(k:Nat)(x:Val)(hk:l[k]?=some x):keyRow (l.take (k+1))=keyRow (l.take k)++keyCell x:=by
 rw[List.take_add_one,hk];simp[keyRow]
set_option maxHeartbeats 1000000 in
set_option maxRecDepth 10000 in
theorem rkey_any (v:Value)(l:List Val)(w:World)(h:Sl w v l.length (rowCells l))(hf:Fine l)(he:keyErr l=0):
 Calls Tryz.prog 125 #[v] w fun e w'=>e= .returned (.string (str (keyRow l)))∧Below w.heap.size w w':=by
 have HH:=Lib.hid h;have HF:=Lib.hid hf;obtain⟨A,c,rfl,h1,h2,-⟩:=h;obtain⟨hl8,hg⟩:=keyErr_zero he;have HG:=Lib.hid hg;clear hf he hg;unfold maxLen at h2;go_enter Tryz.func125,Tryz.ntmps125
 go_wp2
 go_loopw[3,4] (fun s i wr=> ∃(k:Nat) (y:ByteArray),k≤l.length∧i= .int .i64 k∧s= .string y∧y.size≤131*k∧Hid (y=str (keyRow (l.take k)))∧Below w.heap.size w wr) (fun _ i _=>l.length-(intOf i).toNat)
 case atStart=>exact⟨0,⟨#[]⟩,by omega,rfl,rfl,by simp[ByteArray.size],rfl,Below.refl _ _⟩
 case round=>
  obtain⟨k,y,hk,rfl,rfl,hy,HY,hbw⟩:=hrel;by_cases hlt:k<l.length
  ·have hx:=List.getElem?_eq_getElem (l:=l) hlt
   generalize l[k]=x at hx;obtain⟨g,off,rfl,-,hc⟩:=val_at HH.out rfl hx;obtain⟨c1,c2,c3⟩:=hc _ hbw;have hmem:=List.mem_of_getElem? hx;have hz:=HG.out x hmem;have HZ:=Lib.hid hz;have hn:=HF.out.nums x hmem;have hks:(str (keyCell x)).size≤131:=by rw[str_size];exact keyCell_len x (good_size hz)
   have HT:=Lib.hid (keyRow_take l k x hx);clear hx hc hz hmem;obtain⟨n1,n2⟩:=hn
   go_wp2_with (go_at_call 159;refine(cellKey_any x _ HZ.out n1 n2).mono ?_;rintro e w1 ⟨rfl,hb1⟩)
   go_roundw
   case rel=>
    refine⟨k+1,_,by omega,by go_num,rfl,?_,?_,hbw.trans (hb1.mono hbw.size)⟩
    ·rw[ByteArray.size_append];omega
    ·show _=_
     rw[HY.out,str_append,HT.out]
   case measure=>simp[intOf];omega
  ·obtain rfl:k=l.length:=by omega
   go_wp2;go_ret;have hx:y=str (keyRow l):=by rw[HY.out,List.take_of_length_le (Nat.le_refl _)]
   exact⟨by rw[hx];rfl,hbw⟩
end Go.Proofs.YtjhbeecmdgglgaaGreatDoor
namespace Go.Proofs.YtjhbeecmdgglgaaGreatDoor
open Go.RowKit
theorem index_zero (l:List UInt8):(Lib.index l [0]= -1∧ ∀b∈l,b≠0)∨(∃p r,l=p++0::r∧(∀b∈p,b≠0)∧Lib.index l [0]=(p.length:Int)):=by
 induction l with
 |nil=>exact .inl ⟨rfl,by simp⟩
 |cons b l ih=>
  by_cases hb:b=0
  ·subst hb
   exact .inr ⟨[],l,rfl,by simp,by simp[Lib.index]⟩
  ·have e:Lib.index (b::l) [0]=if Lib.index l [0]== -1 then-1 else Lib.index l [0]+1:=by
    rw[Lib.index,if_neg];simp only[List.isPrefixOf,Bool.and_true,beq_iff_eq];exact fun h=>hb h.symm
   rcases ih with⟨h1,h2⟩|⟨p,r,rfl,h2,h3⟩
   ·left
    rw[e,h1];refine⟨rfl,fun x hx=> ?_⟩;rcases List.mem_cons.1 hx with rfl|hx
    ·exact hb
    ·exact h2 x hx
   ·right
    refine⟨b::p,r,rfl,fun x hx=> ?_,?_⟩
    ·rcases List.mem_cons.1 hx with rfl|hx
     ·exact hb
     ·exact h2 x hx
    ·rw[e,h3,if_neg]
     ·simp
     ·simp
theorem esc_plain {l:List UInt8}(h: ∀b∈l,b≠0):esc l=l:=by
 induction l with
 |nil=>rfl
 |cons b l ih=>rw[esc_cons,if_neg (h b (by simp)),ih fun x hx=>h x (by simp[hx])];rfl
theorem replace_zero (fuel:Nat): ∀l:List UInt8,l.length<fuel→Lib.replaceK [0] [0,255] (Lib.countFrom [0] fuel l) l=esc l:=by
 induction fuel with
 |zero=>intro l h;omega
 |succ fuel ih=>
  intro l hl;rw[Lib.countFrom];rcases index_zero l with⟨h1,h2⟩|⟨p,r,rfl,h2,h3⟩
  ·rw[h1]
   show Lib.replaceK _ _ 0 l=_;rw[Lib.replaceK,esc_plain h2]
  ·have hne: ¬(Lib.index (p++0::r) [0]== -1)=true:=by rw[h3];simp
   rw[if_neg hne,h3,Nat.add_comm]
   have hd:(p++0::r).drop (((p.length:Nat):Int).toNat+[(0:UInt8)].length)=r:=by
    have e:((p.length:Nat):Int).toNat+[(0:UInt8)].length=p.length+1:=by simp
    rw[e,List.drop_append];simp
   rw[Lib.replaceK_hit _ _ _ _ p.length h3];rw[hd];have hd2:(p++0::r).drop (p.length+[(0:UInt8)].length)=r:=by simp
   rw[hd2,ih r (by simp at hl;omega)];rw[esc_append,esc_cons,esc_plain h2,List.take_append];simp
theorem replaceAll_zero (l:List UInt8):Lib.replaceAll l [0] [0,255]=esc l:=by
 unfold Lib.replaceAll Lib.replace Lib.replaceNum Lib.count;rw[if_neg (by decide),if_pos (.inl (by decide))];exact replace_zero _ l (by omega)
def Mx (w:World):Prop:= ∃m:Int,w.cell? ⟨0,0,none⟩=some (.int .i64 m)
theorem Mx.below {w w':World}(h:Mx w)(hb:Below w.heap.size w w'):Mx w':=by
 obtain⟨m,hm⟩:=h;exact⟨m,cell_below hb hm⟩
theorem replaceAll_any (s:ByteArray)(w:World)(hs:s.size≤64)(hm:Mx w):
 Calls Tryz.prog 103 #[.string s,.string ⟨#[0]⟩,.string ⟨#[0,255]⟩] w fun e w'=>e= .returned (.string (str (esc s.toList)))∧Below w.heap.size w w':=by
 obtain⟨m,hm⟩:=hm;have h1:=Lib.countB_le ⟨#[0]⟩ (by decide) s.size s (Nat.le_refl _);have h2:(⟨#[0,255]⟩:ByteArray).size=2:=rfl;refine(Tryz.strings_ReplaceAll s ⟨#[0]⟩ ⟨#[0,255]⟩ m w (by omega) hm (by decide) (by rw[h2];omega)).mono ?_;rintro e w' ⟨rfl,hb⟩;refine⟨?_,hb⟩;have:Lib.replaceAll s.data.toList [0] [0,255]=esc s.toList:=by rw[replaceAll_zero,ByteArray.toList_eq]
 show Ending.returned (.string ⟨(Lib.replaceAll s.data.toList [0] [0,255]).toArray⟩)=_;rw[this];rfl
end Go.Proofs.YtjhbeecmdgglgaaGreatDoor
