/-Compare, Rows, and the reference's CompareValue, CompareRows, Same. Rows, and the reference's CompareRows and Same. The reference's Same, KeyError; a  -/
import Derived.Test.YtjodlngbiikgfaaGreatDoorGrpK1
import Derived.Test.YtjodlngbiikgfaaGreatDoorShelf
import Derived.Lib.AppendStr
set_option linter.unusedSimpArgs false
set_option linter.unusedVariables false
namespace Go.Proofs.YtjodlngbiikgfaaGreatDoor
open Go.RowKit
def firstNZ (l:List Int):Int:=(l.find? (fun n=>n != 0)).getD 0
theorem firstNZ_hit {l:List Int}{k:Nat}{n:Int}(h: ∀x∈l.take k,x=0)(hk:l[k]?=some n)(hn:n≠0):firstNZ l=n:=by
 obtain⟨hlt,he⟩:=List.getElem?_eq_some_iff.1 hk;have e:l=l.take k++n::l.drop (k+1):=by rw[←he];simp
 have e2:l.find? (fun n=>n != 0)=(l.take k++n::l.drop (k+1)).find? (fun n=>n != 0):=congrArg (fun l=>List.find? (fun n=>n != 0) l) e
 have h0:(l.take k).find? (fun n=>n != 0)=none:=by
  rw[List.find?_eq_none];intro x hx;simp[h x hx]
 unfold firstNZ;rw[e2,List.find?_append,h0];simp[hn]
theorem firstNZ_none {l:List Int}(h: ∀x∈l,x=0):firstNZ l=0:=by
 unfold firstNZ;rw[List.find?_eq_none.2 (by intro x hx;simp[h x hx])];rfl
def cmpB (a b:ByteArray):Int:=if Op.bytesLess a.toList b.toList then-1 else if a.toList==b.toList then 0 else 1
theorem cmpB_eq (a b:List UInt8):Lib.compareBytes a b=if Op.bytesLess a b then-1 else if a==b then 0 else 1:=by
 induction a generalizing b with
 |nil=>cases b<;>simp[Lib.compareBytes,Op.bytesLess]
 |cons x a ih=>
  cases b with
  |nil=>simp[Lib.compareBytes,Op.bytesLess]
  |cons y b=>
   simp only[Lib.compareBytes,Op.bytesLess,ih b];by_cases h1:x<y
   ·simp[h1]
   ·by_cases h2:y<x
    ·have h3:x≠y:=by rintro rfl;exact absurd h2 h1
     simp[h1,h2,h3]
    ·have h3:x=y:=by
      apply UInt8.toNat_inj.1;have a1: ¬x.toNat<y.toNat:=h1;have a2: ¬y.toNat<x.toNat:=h2;omega
     subst h3;simp
theorem compare_eq (a b:ByteArray):Lib.compareBytes a.data.toList b.data.toList=cmpB a b:=by
 rw[cmpB_eq,cmpB,ByteArray.toList_eq,ByteArray.toList_eq]
def cmpV (a b:Val):Int:=firstNZ [ordI a.k b.k,ordI a.n b.n,cmpB a.s b.s]
end Go.Proofs.YtjodlngbiikgfaaGreatDoor
namespace Go.Proofs.YtjodlngbiikgfaaGreatDoor
open Go.RowKit
theorem val_at {w:World}{l:List Val}{v:Value}(h:Sl w v l.length (rowCells l)){A:Option Addr}{n c:Nat}(hv:v= .slice A n c){k:Nat}{x:Val}(hk:l[k]?=some x):
 ∃b off,A=some ⟨b,off,none⟩∧b<w.heap.size∧ ∀w',Below w.heap.size w w'→
  w'.cell? ⟨b,off+k*3,none⟩=some (.int .i64 x.k)∧w'.cell? ⟨b,off+k*3+1,none⟩=some (.int .i64 x.n)∧w'.cell? ⟨b,off+k*3+2,none⟩=some (.string x.s):=by
 obtain⟨A',c',hv',h1,h2,-,h3⟩:=h;rw[hv]at hv';injection hv' with e1 e2 e3;subst e1;have a1:=flat_at Val.cells_len l k 0 (by omega);have a2:=flat_at Val.cells_len l k 1 (by omega);have a3:=flat_at Val.cells_len l k 2 (by omega);rw[hk]at a1 a2 a3;simp only[Option.bind_some,Nat.add_zero]at a1 a2 a3;obtain⟨b,off,hA,hc⟩:=h3 (by intro h0;rw[show l.flatMap Val.cells=rowCells l from rfl,h0]at a1;simp[Val.cells]at a1);have c1:=hc _ _ a1;have c2:=hc _ _ a2;have c3:=hc _ _ a3;exact⟨b,off,hA,World.block_lt_of_cell? w _ c1,fun w' hb=>⟨cell_below hb c1,cell_below hb c2,cell_below hb c3⟩⟩
def rowsF:List Val→List Val→Int
 |[],[]=>0
 |[],_::_=> -1
 |_::_,[]=>1
 |x::r,y::t=>if cmpV x y≠0 then cmpV x y else rowsF r t
end Go.Proofs.YtjodlngbiikgfaaGreatDoor
namespace Go.Proofs.YtjodlngbiikgfaaGreatDoor
open Go.RowKit
def veq (x y:Val):Bool:=x.k==y.k&&(x.n==y.n&&x.s.toList==y.s.toList)
def sameR (a b:List Val):Bool:=a.length==b.length&&(List.zip a b).all (fun p=>veq p.1 p.2)
theorem veq_iff (x y:Val):veq x y=true↔x=y:=by
 obtain⟨k,n,s⟩:=x;obtain⟨k',n',s'⟩:=y;simp only[veq,Bool.and_eq_true,beq_iff_eq,Val.mk.injEq];rw[ByteArray.toList_eq,ByteArray.toList_eq];obtain⟨⟨x⟩⟩:=s;obtain⟨⟨y⟩⟩:=s';simp
theorem samer_len {a b:List Val}(h:a.length≠b.length):sameR a b=false:=by simp[sameR,h]
theorem samer_no {a b:List Val}{k:Nat}{s t:Val}(ha:a[k]?=some s)(hb:b[k]?=some t)(h:veq s t=false):sameR a b=false:=by
 unfold sameR;rw[Bool.and_eq_false_iff];right;rw[List.all_eq_false];refine⟨(s,t),List.mem_of_getElem? (i:=k) ?_,by simp[h]⟩;simp[List.getElem?_zip_eq_some,ha,hb]
theorem samer_yes {a b:List Val}(hl:a.length=b.length)(h: ∀(j:Nat) (s t:Val),a[j]?=some s→b[j]?=some t→veq s t=true):sameR a b=true:=by
 unfold sameR;rw[hl];simp only[beq_self_eq_true,Bool.true_and,List.all_eq_true];intro p hp;obtain⟨j,hj⟩:=List.getElem?_of_mem hp;obtain⟨p1,p2⟩:=p;rw[List.getElem?_zip_eq_some]at hj;exact h j p1 p2 hj.1 hj.2
theorem sameR_iff (a b:List Val):sameR a b=true↔a=b:=by
 constructor
 ·intro h
  have hl:a.length=b.length:=by
   rcases Nat.decEq a.length b.length with h'|h'
   ·rw[samer_len h']at h;cases h
   ·exact h'
  apply List.ext_getElem?;intro i;rcases Nat.lt_or_ge i a.length with hi|hi
  ·have h1:=List.getElem?_eq_getElem (l:=a) hi
   have h2:=List.getElem?_eq_getElem (l:=b) (show i<b.length by omega);rw[h1,h2];cases hv:veq a[i] b[i]
   ·rw[samer_no h1 h2 hv]at h;cases h
   ·rw[(veq_iff _ _).1 hv]
  ·rw[List.getElem?_eq_none hi,List.getElem?_eq_none (by omega)]
 ·rintro rfl
  refine samer_yes rfl fun j s t h1 h2=> ?_;rw[h1]at h2;injection h2 with h2;exact(veq_iff _ _).2 h2
set_option maxHeartbeats 1000000 in
set_option maxRecDepth 10000 in
theorem same_any (va vb:Value)(a b:List Val)(w:World)(ha:Sl w va a.length (rowCells a))(hb:Sl w vb b.length (rowCells b)):
 Calls Tryz.prog 23 #[va,vb] w fun e w'=>e= .returned (.bool (sameR a b))∧Below w.heap.size w w':=by
 have Ha:=Lib.hid ha;have Hb:=Lib.hid hb;obtain⟨A,ca,rfl,ha1,ha2,-⟩:=ha;obtain⟨B,cb,rfl,hb1,hb2,-⟩:=hb;unfold maxLen at ha2 hb2;by_cases hl:a.length=b.length
 ·have HL:=Lib.hid hl
  have hl':((a.length:Int)==(b.length:Int))=true:=by simp[hl]
  have hle:a.length≤b.length:=by omega
  clear hl;go_enter Tryz.func23,Tryz.ntmps23
  go_wp2;clear hl'
  go_loopw[5] (fun i wr=> ∃k:Nat,k≤a.length∧i= .int .i64 k∧Hid (∀(j:Nat) (s t:Val),j<k→a[j]?=some s→b[j]?=some t→veq s t=true)∧Below w.heap.size w wr) (fun i _=>a.length-(intOf i).toNat)
  case atStart=>exact⟨0,by omega,rfl,fun j s t hj=>absurd hj (by omega),Below.refl _ _⟩
  case round=>
   obtain⟨k,hk,rfl,H,hbw⟩:=hrel;by_cases hlt:k<a.length
   ·have hx:=List.getElem?_eq_getElem (l:=a) hlt
    have hy:=List.getElem?_eq_getElem (l:=b) (show k<b.length by omega);generalize a[k]=x at hx;generalize b[k]=y at hy;obtain⟨g,off,rfl,-,hc⟩:=val_at Ha.out rfl hx;obtain⟨g',off',rfl,-,hd⟩:=val_at Hb.out rfl hy;obtain⟨c1,c2,c3⟩:=hc _ hbw;obtain⟨d1,d2,d3⟩:=hd _ hbw;have HX:=Lib.hid hx;have HY:=Lib.hid hy;have k0:(0:Int)≤(k:Int):=by omega
    have k1:(k:Int)<(a.length:Int):=by omega
    have k2:(k:Int)<(b.length:Int):=by omega
    have hneq: ∀W,(binOp .neq 114 (.agg #[.int .i64 x.k,.int .i64 x.n,.string x.s]) (.agg #[.int .i64 y.k,.int .i64 y.n,.string y.s])).run Tryz.prog W= .ok (.bool (!veq x y)) W:=fun W=>run_neq_val ..;clear hx hy hc hd;cases hq:veq x y
    all_goals
     rw[hq]at hneq;simp only[Bool.not_true,Bool.not_false]at hneq;have HQ:=Lib.hid hq;clear hq
    ·go_wp2_with fail
     go_quiet (fail)
     go_wp2;go_ret;exact⟨ret_bool (samer_no HX.out HY.out HQ.out).symm,below_drewN hbw _⟩
    ·go_wp2_with fail
     go_quiet (fail)
     go_wp2;go_roundw
     case rel=>
      refine⟨k+1,by omega,by go_num,fun j s' t' hj h1 h2=> ?_,below_drewN hbw _⟩;rcases Nat.lt_or_ge j k with hjk|hjk
      ·exact H.out j s' t' hjk h1 h2
      ·obtain rfl:j=k:=by omega
       rw[HX.out]at h1;rw[HY.out]at h2;injection h1 with h1;injection h2 with h2;rw[←h1,←h2];exact HQ.out
     case measure=>simp[intOf];omega
   ·obtain rfl:k=a.length:=by omega
    go_wp2;go_ret;refine⟨ret_bool (samer_yes HL.out ?_).symm,hbw⟩;intro j s t h1 h2;exact H.out j s t (List.getElem?_eq_some_iff.1 h1).1 h1 h2
 ·have hl':((a.length:Int)==(b.length:Int))=false:=by simp;omega
  have e1:=Lib.hid (samer_len hl);clear hl;go_enter Tryz.func23,Tryz.ntmps23
  go_wp2;go_ret;exact⟨ret_bool e1.out.symm,Below.refl _ _⟩
def keyErr (l:List Val):Int:=if 8<l.length then 2 else firstNZ (l.map checkV)
def Small (l:List Val):Prop:= ∀x∈l,x.s.size≤9223372036854775807
end Go.Proofs.YtjodlngbiikgfaaGreatDoor
namespace Go.Proofs.YtjodlngbiikgfaaGreatDoor
open Go.RowKit
def byteV (b:UInt8):Value:= .int .u8 (b.toNat:Int)
def bytesV (l:List UInt8):List Value:=l.map byteV
def str (l:List UInt8):ByteArray:=⟨l.toArray⟩
theorem str_size (l:List UInt8):(str l).size=l.length:=by simp[str,ByteArray.size]
theorem str_toList (l:List UInt8):(str l).toList=l:=by rw[ByteArray.toList_eq];simp[str]
theorem str_of (s:ByteArray):str s.toList=s:=by
 rw[ByteArray.toList_eq];obtain⟨⟨x⟩⟩:=s;rfl
theorem run_str (W:World)(g off c:Nat)(l:List UInt8)(hc: ∀j u,(bytesV l)[j]?=some u→W.cell? ⟨g,off+j,none⟩=some u):
 (convert 180 9 (.slice (some ⟨g,off,none⟩) l.length c)).run Tryz.prog W= .ok (.string (str l)) W:=
 run_convert_bytes_back W 180 9 5 ⟨g,off,none⟩ c l Tryz.underlying180 Tryz.underlying5 Tryz.underlying9 (fun j hj=>by
  have:=hc j (byteV l[j]) (by simp[bytesV,hj]);unfold Addr.add;split
  ·rename_i h;subst h;simpa[byteV]using this
  ·simpa[byteV]using this)
def byteAt (m k:Nat):UInt8:=UInt8.ofNat (m/ 2 ^(56-8*k))
def be8 (m:Nat):List UInt8:=(List.range 8).map (byteAt m)
theorem be8_len (m:Nat):(be8 m).length=8:=by simp[be8]
theorem be8_take (m k:Nat)(hk:k<8):(be8 m).take (k+1)=(be8 m).take k++[byteAt m k]:=by
 rw[List.take_add_one];simp[be8,hk]
theorem byteAt_eq (m k:Nat):((m:Int)/ 2 ^(56-8*k)%256)=((byteAt m k).toNat:Int):=by
 simp[byteAt,UInt8.toNat_ofNat']
end Go.Proofs.YtjodlngbiikgfaaGreatDoor
namespace Go.Proofs.YtjodlngbiikgfaaGreatDoor
open Go.RowKit
def bias (n:Int):Nat:=(n+9223372036854775808).toNat
def esc (l:List UInt8):List UInt8:=l.flatMap fun b=>if b=0 then[0,255]else[b]
def keyCell (v:Val):List UInt8:=
 UInt8.ofNat v.k.toNat::(if v.k=1 then[UInt8.ofNat v.n.toNat]else if v.k=2 then be8 (bias v.n)else if v.k=3 then esc v.s.toList++[0,1]else[])
def keyRow (l:List Val):List UInt8:=l.flatMap keyCell
theorem esc_cons (b:UInt8)(l:List UInt8):esc (b::l)=(if b=0 then[0,255]else[b])++esc l:=List.flatMap_cons
theorem esc_append (a b:List UInt8):esc (a++b)=esc a++esc b:=List.flatMap_append
theorem esc_len (l:List UInt8):(esc l).length≤2*l.length:=by
 induction l with
 |nil=>simp[esc]
 |cons b l ih=>
  rw[esc_cons,List.length_append,List.length_cons];split<;>simp<;>omega
theorem toList_len (s:ByteArray):s.toList.length=s.size:=by rw[ByteArray.toList_eq];exact Array.length_toList
theorem keyCell_len (v:Val)(h:v.s.size≤64):(keyCell v).length≤131:=by
 unfold keyCell;have h1:=esc_len v.s.toList;have h2:=toList_len v.s;simp only[List.length_cons];split
 ·simp
 ·split
  ·rw[be8_len];omega
  ·split
   ·rw[List.length_append];simp;omega
   ·simp
theorem toList_at (s:ByteArray)(k:Nat)(hk:k<s.size):s.toList[k]?=some s[k]:=by
 rw[ByteArray.toList_eq];have hk':k<s.data.toList.length:=by rw[Array.length_toList];exact hk
 rw[List.getElem?_eq_getElem hk'];rfl
end Go.Proofs.YtjodlngbiikgfaaGreatDoor
namespace Go.Proofs.YtjodlngbiikgfaaGreatDoor
open Go.RowKit
theorem good_cases (v:Val)(h:checkV v=0):
 (v.k=0∧keyCell v=[0])∨(v.k=1∧v.n=0∧keyCell v=[1,0])∨(v.k=1∧v.n=1∧keyCell v=[1,1])∨(v.k=2∧keyCell v=2::be8 (bias v.n))∨
 (v.k=3∧v.s.size≤64∧keyCell v=3::(esc v.s.toList++[0,1])):=by
 unfold keyCell;rcases val_cases v with⟨h1,-,hc⟩|⟨h1,-,-,hc⟩|⟨h1,-,-,hc⟩|⟨h1,-,-,hc⟩|⟨h1,-,-,hc⟩|⟨h1,h2,-,hc⟩|⟨h1,-,-,hc⟩|⟨h1,h2,-,hc⟩|⟨h1,-,hc⟩|⟨h1,-,hc⟩|⟨h1,-,hc⟩|⟨h1,-,-,hc⟩|⟨h1,-,h2,hc⟩|⟨h1,hc⟩|⟨h1,hc⟩
 all_goals
  first|(rw[h]at hc;exact absurd hc (by decide))|skip
 ·simp[h1]
 ·simp[h1,h2]
 ·simp[h1,h2]
 ·simp[h1]
 ·simp[h1];omega
structure Fine (l:List Val):Prop where
 small:Small l
 nums: ∀x∈l,-9223372036854775808≤x.n∧x.n≤9223372036854775807
theorem keyErr_zero {l:List Val}(h:keyErr l=0):l.length≤8∧ ∀x∈l,checkV x=0:=by
 unfold keyErr at h;by_cases hn:8<l.length
 ·rw[if_pos hn]at h;omega
 ·rw[if_neg hn]at h
  refine⟨by omega,fun x hx=> ?_⟩;obtain⟨i,hi⟩:=List.getElem?_of_mem hx;unfold firstNZ at h;cases hf:(l.map checkV).find? (fun n=>n != 0)with
  |none=>
   rw[List.find?_eq_none]at hf;have:=hf (checkV x) (List.mem_map.2 ⟨x,hx,rfl⟩);simpa using this
  |some y=>
   rw[hf]at h;have:=List.find?_some hf;simp at this h;exact absurd h this
theorem good_size {v:Val}(h:checkV v=0):v.s.size≤64:=by
 have he:v.s.toList.isEmpty=true→v.s.size≤64:=by
  intro h0;rw[←toList_len];cases hl:v.s.toList with
  |nil=>simp
  |cons a r=>rw[hl]at h0;simp at h0
 rcases val_cases v with⟨-,-,hc⟩|⟨-,-,-,hc⟩|⟨-,-,h3,hc⟩|⟨-,-,-,hc⟩|⟨-,-,-,hc⟩|⟨-,-,h3,hc⟩|⟨-,-,-,hc⟩|⟨-,-,h3,hc⟩|⟨-,-,hc⟩|⟨-,h3,hc⟩|⟨-,-,hc⟩|⟨-,-,-,hc⟩|⟨-,-,h3,hc⟩|⟨-,hc⟩|⟨-,hc⟩
 all_goals
  first|(rw[h]at hc;exact absurd hc (by decide))|exact he h3|exact h3
theorem keyRow_take (l:List Val)(k:Nat)(x:Val)(hk:l[k]?=some x):keyRow (l.take (k+1))=keyRow (l.take k)++keyCell x:=by
 rw[List.take_add_one,hk];simp[keyRow]
end Go.Proofs.YtjodlngbiikgfaaGreatDoor
namespace Go.Proofs.YtjodlngbiikgfaaGreatDoor
open Go.RowKit
theorem index_zero (l:List UInt8):(Lib.index l [0]= -1∧ ∀b∈l,b≠0)∨(∃p r,l=p++0::r∧(∀b∈p,b≠0)∧Lib.index l [0]=(p.length:Int)):=by
 induction l with
 |nil=>exact .inl ⟨rfl,by simp⟩
 |cons b l ih=>
  by_cases hb:b=0
  ·subst hb
   exact .inr ⟨[],l,rfl,by simp,by simp[Lib.index]⟩
  ·have e:Lib.index (b::l) [0]=if Lib.index l [0]== -1 then-1 else Lib.index l [0]+1:=by
    rw[Lib.index,if_neg];simp only[List.isPrefixOf,Bool.and_true,beq_iff_eq];exact fun h=>hb h.symm
   rcases ih with⟨h1,h2⟩|⟨p,r,rfl,h2,h3⟩
   ·left
    rw[e,h1];refine⟨rfl,fun x hx=> ?_⟩;rcases List.mem_cons.1 hx with rfl|hx
    ·exact hb
    ·exact h2 x hx
   ·right
    refine⟨b::p,r,rfl,fun x hx=> ?_,?_⟩
    ·rcases List.mem_cons.1 hx with rfl|hx
     ·exact hb
     ·exact h2 x hx
    ·rw[e,h3,if_neg]
     ·simp
     ·simp
theorem esc_plain {l:List UInt8}(h: ∀b∈l,b≠0):esc l=l:=by
 induction l with
 |nil=>rfl
 |cons b l ih=>rw[esc_cons,if_neg (h b (by simp)),ih fun x hx=>h x (by simp[hx])];rfl
theorem replace_zero (fuel:Nat): ∀l:List UInt8,l.length<fuel→Lib.replaceK [0] [0,255] (Lib.countFrom [0] fuel l) l=esc l:=by
 induction fuel with
 |zero=>intro l h;omega
 |succ fuel ih=>
  intro l hl;rw[Lib.countFrom];rcases index_zero l with⟨h1,h2⟩|⟨p,r,rfl,h2,h3⟩
  ·rw[h1]
   show Lib.replaceK _ _ 0 l=_;rw[Lib.replaceK,esc_plain h2]
  ·have hne: ¬(Lib.index (p++0::r) [0]== -1)=true:=by rw[h3];simp
   rw[if_neg hne,h3,Nat.add_comm]
   have hd:(p++0::r).drop (((p.length:Nat):Int).toNat+[(0:UInt8)].length)=r:=by
    have e:((p.length:Nat):Int).toNat+[(0:UInt8)].length=p.length+1:=by simp
    rw[e,List.drop_append];simp
   rw[Lib.replaceK_hit _ _ _ _ p.length h3];rw[hd];have hd2:(p++0::r).drop (p.length+[(0:UInt8)].length)=r:=by simp
   rw[hd2,ih r (by simp at hl;omega)];rw[esc_append,esc_cons,esc_plain h2,List.take_append];simp
theorem replaceAll_zero (l:List UInt8):Lib.replaceAll l [0] [0,255]=esc l:=by
 unfold Lib.replaceAll Lib.replace Lib.replaceNum Lib.count;rw[if_neg (by decide),if_pos (.inl (by decide))];exact replace_zero _ l (by omega)
def Mx (w:World):Prop:= ∃m:Int,w.cell? ⟨0,0,none⟩=some (.int .i64 m)
theorem Mx.below {w w':World}(h:Mx w)(hb:Below w.heap.size w w'):Mx w':=by
 obtain⟨m,hm⟩:=h;exact⟨m,cell_below hb hm⟩
theorem replaceAll_any (s:ByteArray)(w:World)(hs:s.size≤64)(hm:Mx w):
 Calls Tryz.prog 115 #[.string s,.string ⟨#[0]⟩,.string ⟨#[0,255]⟩] w fun e w'=>e= .returned (.string (str (esc s.toList)))∧Below w.heap.size w w':=by
 obtain⟨m,hm⟩:=hm;have h1:=Lib.countB_le ⟨#[0]⟩ (by decide) s.size s (Nat.le_refl _);have h2:(⟨#[0,255]⟩:ByteArray).size=2:=rfl;refine(Tryz.strings_ReplaceAll s ⟨#[0]⟩ ⟨#[0,255]⟩ m w (by omega) hm (by decide) (by rw[h2];omega)).mono ?_;rintro e w' ⟨rfl,hb⟩;refine⟨?_,hb⟩;have:Lib.replaceAll s.data.toList [0] [0,255]=esc s.toList:=by rw[replaceAll_zero,ByteArray.toList_eq]
 show Ending.returned (.string ⟨(Lib.replaceAll s.data.toList [0] [0,255]).toArray⟩)=_;rw[this];rfl
end Go.Proofs.YtjodlngbiikgfaaGreatDoor
namespace Go.Proofs.YtjodlngbiikgfaaGreatDoor
open Go.RowKit
def keyR (l:List Val):ByteArray×Int:=if keyErr l≠0 then(⟨#[]⟩,keyErr l)else(str (keyRow l),0)
theorem byteI:EInfo Tryz.prog 5 1 1:=by
 have h:(Tryz.prog.info? 5).map (fun i=>(i.zero,i.size,i.bytes))=some (some (.int .u8 0),1,1):=by kernel_rfl
 obtain⟨i,hi,h1,h2,h3⟩:=info_parts h;exact⟨i,_,hi,h1,h2,h3,rfl,by omega⟩
theorem byteInfo: ∃i,Tryz.prog.info? 5=some i∧i.zero=some (.int .u8 0)∧i.size=1∧i.bytes=1:=by
 have h:(Tryz.prog.info? 5).map (fun i=>(i.zero,i.size,i.bytes))=some (some (.int .u8 0),1,1):=by kernel_rfl
 obtain⟨i,hi,h1,h2,h3⟩:=info_parts h;exact⟨i,hi,h1,h2,h3⟩
theorem own_below {w w':World}{base:Nat}{e:TypeId}{size:Nat}{v:Value}{n:Nat}{xs:List Value}(h:w.ownsRow base e size v n xs)(hb:Below w.heap.size w w'):w'.ownsRow base e size v n xs:=by
 refine⟨h.1,?_⟩;rcases h.2 with hn|⟨g,cap,cur,hv,hg,hh,r⟩
 ·exact .inl hn
 ·exact .inr ⟨g,cap,cur,hv,hg,(hb.block g (Array.getElem?_eq_some_iff.1 hh).1).trans hh,r⟩
theorem own_lt {w:World}{base:Nat}{e:TypeId}{size:Nat}{v:Value}{n:Nat}{xs:List Value}(h:w.ownsRow base e size v n xs): ∀k,v.ownBlock=some k→k<w.heap.size:=fun k hk=>(h.lt k hk).2
theorem u64_bias (n:Int)(h1: -9223372036854775808≤n)(h2:n≤9223372036854775807):IntKind.u64.wrap (IntKind.u64.wrap n+9223372036854775808)=(bias n:Int):=by
 rw[IntKind.wrap_u64,IntKind.wrap_u64];unfold bias;omega
theorem byteAt_shift (m j:Nat)(hj:j<8):((m:Int)/ 2 ^(8*(7-j))%256)=((byteAt m j).toNat:Int):=by
 rw[←byteAt_eq,show 8*(7-j)=56-8*j from by omega]
theorem below_app {a w w':World}{o:Obj}{row:Option Nat}(h:Below a.heap.size a w)(hg:(w.alloc o).grownBy w' row)(hr: ∀k,row=some k→a.heap.size≤k):Below a.heap.size a w':=
 below_grown (h.alloc h.size o) hg hr
theorem bytesV_append (a b:List UInt8):bytesV (a++b)=bytesV a++bytesV b:=List.map_append
theorem key_step {l:List Val}{k n m base:Nat}{x:Val}{v1:Value}{w2:World}{K:List Value}(HT:keyRow (l.take (k+1))=keyRow (l.take k)++keyCell x)(HNL:n=(keyRow (l.take k)).length)(hlen:(keyCell x).length≤131)
 (hnk:n≤131*k) (hown:w2.ownsRow base 5 1 v1 (n+m) (bytesV (keyRow (l.take k))++K)) (hK:K=bytesV (keyCell x)) (hm:m=(keyCell x).length):
 n+m≤131*(k+1)∧Hid (n+m=(keyRow (l.take (k+1))).length)∧w2.ownsRow base 5 1 v1 (n+m) (bytesV (keyRow (l.take (k+1)))):=by
 refine⟨by omega,?_,?_⟩
 ·show _=_
  rw[HT,List.length_append];omega
 ·rw[HT,bytesV_append,←hK];exact hown
theorem zeros_step {l:List Val}{k:Nat}{x:Val}(H: ∀x∈(l.map checkV).take k,x=0)(HG:(l.map checkV)[k]?=some (checkV x))(HQ:checkV x=0):Hid (∀x∈(l.map checkV).take (k+1),x=0):=by
 show ∀y∈(l.map checkV).take (k+1),y=0;rw[List.take_add_one,HG];intro y hy;rcases List.mem_append.1 hy with hy|hy
 ·exact H y hy
 ·simp at hy;rw[hy];exact HQ
set_option maxHeartbeats 4000000 in
set_option maxRecDepth 10000 in
theorem key_any (v:Value)(l:List Val)(w:World)(h:Sl w v l.length (rowCells l))(hf:Fine l)(hm:Mx w):
 Calls Tryz.prog 65 #[v] w fun e w'=>e= .returned (.tuple #[.string (keyR l).1,.int .i64 (keyR l).2])∧Below w.heap.size w w':=by
 have HH:=Lib.hid h;have HF:=Lib.hid hf;have HM:=Lib.hid hm;obtain⟨A,c,rfl,h1,h2,-⟩:=h;clear hf hm;unfold maxLen at h2;by_cases hn:8<l.length
 ·have e1:=Lib.hid (show keyR l=(⟨#[]⟩,2)from by
   have h0:keyErr l=2:=if_pos hn;unfold keyR;rw[h0];rfl)
  go_enter Tryz.func65,Tryz.ntmps65
  go_wp2
  go_ret2
  exact⟨by rw[e1.out];rfl,Below.refl _ _⟩
 ·have HN:=Lib.hid (show keyErr l=firstNZ (l.map checkV)from if_neg hn)
  go_enter Tryz.func65,Tryz.ntmps65
  go_wp2
  go_loopw[4,15] (fun b i wr=> ∃(k n:Nat) (v:Value),v=b∧k≤l.length∧i= .int .i64 k∧n≤131*k∧Hid (∀x∈(l.map checkV).take k,x=0)∧Hid (n=(keyRow (l.take k)).length)∧wr.ownsRow w.heap.size 5 1 v n (bytesV (keyRow (l.take k)))∧Below w.heap.size w wr)
   (fun _ i _=>l.length-(intOf i).toNat)
  case atStart=>exact⟨0,0,_,rfl,by omega,rfl,by omega,by simp[Hid],rfl,World.ownsRow_nil _ _ _ _,Below.refl _ _⟩
  case round=>
   obtain⟨k,n,v,rfl,hk,rfl,hnk,H,HNL,hown,hbw⟩:=hrel;by_cases hlt:k<l.length
   ·have hx:=List.getElem?_eq_getElem (l:=l) hlt
    generalize l[k]=x at hx;obtain⟨g,off,rfl,-,hc⟩:=val_at HH.out rfl hx;obtain⟨c1,c2,c3⟩:=hc _ hbw;have hmem:=List.mem_of_getElem? hx;have hxs:=HF.out.small x hmem;have hxn:=HF.out.nums x hmem;have HT:=Lib.hid (keyRow_take l k x hx);have HG:=Lib.hid (show(l.map checkV)[k]?=some (checkV x)from by rw[List.getElem?_map,hx];rfl);clear hx hc hmem;by_cases hq:checkV x=0
    ·have HGC:=Lib.hid (good_cases x hq)
     have HQ:=Lib.hid hq;have hlen:=keyCell_len x (good_size hq);have HL:=Lib.hid hlen
     go_wp2_with fail
     refine(check_val x _ hxs).mono ?_;rw[hq];rintro e w1 ⟨rfl,hb1⟩;clear hq;have b1:=(Blk.new wr 114 #[.int .i64 x.k,.int .i64 x.n,.string x.s]).below hb1;have hown1:=own_below hown (below_trans (below_alloc wr (.cells #[.int .i64 x.k,.int .i64 x.n,.string x.s] 114)) hb1);have hlt1:=own_lt hown;have hge1:=own_ge hown;have hbw1:=below_trans (below_trans hbw (below_alloc wr (.cells #[.int .i64 x.k,.int .i64 x.n,.string x.s] 114))) hb1;have hsz1:=b1.lt;have x1:=b1.cell 0 _ rfl;have y1:=fun o=>(b1.alloc o).cell 0 _ rfl;rcases HGC.out with⟨hk0,hkc⟩|⟨hk0,hn0,hkc⟩|⟨hk0,hn0,hkc⟩|⟨hk0,hkc⟩|⟨hk0,hs64,hkc⟩
     ·have HKC:=Lib.hid hkc
      clear hkc
      go_wp2_with (at_builtin;refine wpList_app rfl (.tmp 24) (.tmp 28) 180 rfl w.heap.size 5 1 1 Tryz.underlying180 byteI v n _ rfl (hown1.alloc _) _ 1 [.int .u8 0] rfl (Sl.block (Blk.new w1 5 #[.int .u8 0]) 1 1 (Nat.le_refl _) (by decide)) rfl ?_ ?_ ?_ ?_ ?_)
      ·intro u hu;simp at hu;subst hu;rfl
      ·unfold maxLen;omega
      ·omega
      ·have:=hbw1.size;simp;omega
      ·intro v1 w2 hown2 hg2 hat2
       have b2:=(b1.alloc (.cells #[.int .u8 0] 5)).grown hg2 (fun e=>by have:=hlt1 _ e;omega);have hbw2:=below_app hbw1 hg2 hge1;have z0:=b2.cell 0 _ rfl;have z1:=b2.cell 1 _ rfl;have z2:=b2.cell 2 _ rfl;have R:=key_step HT.out HNL.out HL.out hnk hown2 (by rw[HKC.out];rfl) (by rw[HKC.out];rfl);go_wp2;go_roundw
       case rel=>exact⟨k+1,_,_,rfl,by omega,by go_num,R.1,zeros_step H.out HG.out HQ.out,R.2.1,R.2.2,hbw2⟩
       case measure=>simp[intOf];omega
     ·have HKC:=Lib.hid hkc
      clear hkc
      go_wp2_with (at_builtin;refine wpList_app rfl (.tmp 24) (.tmp 28) 180 rfl w.heap.size 5 1 1 Tryz.underlying180 byteI v n _ rfl (hown1.alloc _) _ 1 [.int .u8 1] rfl (Sl.block (Blk.new w1 5 #[.int .u8 1]) 1 1 (Nat.le_refl _) (by decide)) rfl ?_ ?_ ?_ ?_ ?_)
      ·intro u hu;simp at hu;subst hu;rfl
      ·unfold maxLen;omega
      ·omega
      ·have:=hbw1.size;simp;omega
      ·intro v1 w2 hown2 hg2 hat2
       have b2:=(b1.alloc (.cells #[.int .u8 1] 5)).grown hg2 (fun e=>by have:=hlt1 _ e;omega);have hbw2:=below_app hbw1 hg2 hge1;have z0:=b2.cell 0 _ rfl;have z1:=b2.cell 1 _ rfl;have z2:=b2.cell 2 _ rfl
       go_wp2_with (at_builtin;refine wpList_app rfl (.tmp 34) (.tmp 38) 180 rfl w.heap.size 5 1 1 Tryz.underlying180 byteI v1 (n+1) _ rfl (hown2.alloc _) _ 1 [.int .u8 0] rfl (Sl.block (Blk.new w2 5 #[.int .u8 0]) 1 1 (Nat.le_refl _) (by decide)) rfl ?_ ?_ ?_ ?_ ?_)
       ·intro u hu;simp at hu;subst hu;rfl
       ·unfold maxLen;omega
       ·omega
       ·have:=hbw2.size;simp;omega
       ·intro v2 w3 hown3 hg3 hat3
        have hbw3:=below_app hbw2 hg3 (own_ge hown2);have R:=key_step (m:=2) HT.out HNL.out HL.out hnk hown3 (by rw[HKC.out];rfl) (by rw[HKC.out];rfl);go_wp2;go_roundw
        case rel=>exact⟨k+1,_,_,rfl,by omega,by go_num,R.1,zeros_step H.out HG.out HQ.out,R.2.1,R.2.2,hbw3⟩
        case measure=>simp[intOf];omega
     ·have HKC:=Lib.hid hkc
      clear hkc
      go_wp2_with (at_builtin;refine wpList_app rfl (.tmp 24) (.tmp 28) 180 rfl w.heap.size 5 1 1 Tryz.underlying180 byteI v n _ rfl (hown1.alloc _) _ 1 [.int .u8 1] rfl (Sl.block (Blk.new w1 5 #[.int .u8 1]) 1 1 (Nat.le_refl _) (by decide)) rfl ?_ ?_ ?_ ?_ ?_)
      ·intro u hu;simp at hu;subst hu;rfl
      ·unfold maxLen;omega
      ·omega
      ·have:=hbw1.size;simp;omega
      ·intro v1 w2 hown2 hg2 hat2
       have b2:=(b1.alloc (.cells #[.int .u8 1] 5)).grown hg2 (fun e=>by have:=hlt1 _ e;omega);have hbw2:=below_app hbw1 hg2 hge1;have z0:=b2.cell 0 _ rfl;have z1:=b2.cell 1 _ rfl;have z2:=b2.cell 2 _ rfl
       go_wp2_with (at_builtin;refine wpList_app rfl (.tmp 34) (.tmp 38) 180 rfl w.heap.size 5 1 1 Tryz.underlying180 byteI v1 (n+1) _ rfl (hown2.alloc _) _ 1 [.int .u8 1] rfl (Sl.block (Blk.new w2 5 #[.int .u8 1]) 1 1 (Nat.le_refl _) (by decide)) rfl ?_ ?_ ?_ ?_ ?_)
       ·intro u hu;simp at hu;subst hu;rfl
       ·unfold maxLen;omega
       ·omega
       ·have:=hbw2.size;simp;omega
       ·intro v2 w3 hown3 hg3 hat3
        have hbw3:=below_app hbw2 hg3 (own_ge hown2);have R:=key_step (m:=2) HT.out HNL.out HL.out hnk hown3 (by rw[HKC.out];rfl) (by rw[HKC.out];rfl);go_wp2;go_roundw
        case rel=>exact⟨k+1,_,_,rfl,by omega,by go_num,R.1,zeros_step H.out HG.out HQ.out,R.2.1,R.2.2,hbw3⟩
        case measure=>simp[intOf];omega
     ·have HKC:=Lib.hid hkc
      clear hkc
      go_wp2_with (at_builtin;refine wpList_app rfl (.tmp 24) (.tmp 28) 180 rfl w.heap.size 5 1 1 Tryz.underlying180 byteI v n _ rfl (hown1.alloc _) _ 1 [.int .u8 2] rfl (Sl.block (Blk.new w1 5 #[.int .u8 2]) 1 1 (Nat.le_refl _) (by decide)) rfl ?_ ?_ ?_ ?_ ?_)
      ·intro u hu;simp at hu;subst hu;rfl
      ·unfold maxLen;omega
      ·omega
      ·have:=hbw1.size;simp;omega
      ·intro v1 w2 hown2 hg2 hat2
       have b2:=(b1.alloc (.cells #[.int .u8 2] 5)).grown hg2 (fun e=>by have:=hlt1 _ e;omega);have hbw2:=below_app hbw1 hg2 hge1;have z0:=b2.cell 0 _ rfl;have z1:=b2.cell 1 _ rfl;have z2:=b2.cell 2 _ rfl;have hub:=u64_bias x.n hxn.1 hxn.2;have HUB:=Lib.hid hub;generalize bias x.n=bm at hub HUB HKC
       go_wp2_with fail
       obtain⟨wo,hwo⟩: ∃wo:World,wo=w2:=⟨_,rfl⟩;subst hwo;clear y1 z0 z1 z2 hub
       go_loopw[4,9] (fun b i wr2=> ∃(j:Nat) (vb:Value),vb=b∧j≤8∧i= .int .i64 (7-(j:Int))∧wr2.ownsRow w.heap.size 5 1 vb (n+1+j) (bytesV (keyRow (l.take k))++(.int .u8 2::bytesV ((be8 bm).take j)))∧Below w.heap.size w wr2)
        (fun _ i _=>(intOf i+1).toNat)
       case atStart=>exact⟨0,_,rfl,by omega,rfl,by simpa[bytesV]using hown2,hbw2⟩
       case round=>
        obtain⟨j,vb,rfl,hj,rfl,hownj,hbwj⟩:=hrel;by_cases hj8:j<8
        ·have hbj:=byteAt_shift bm j hj8
         have HBT:=Lib.hid (be8_take bm j hj8)
         go_wp2_with (at_builtin;refine wpList_app rfl (.tmp 50) (.tmp 56) 180 rfl w.heap.size 5 1 1 Tryz.underlying180 byteI vb (n+1+j) _ rfl (hownj.alloc _) _ 1 [.int .u8 ((byteAt bm j).toNat:Int)] rfl (Sl.block (Blk.new _ 5 #[.int .u8 ((byteAt bm j).toNat:Int)]) 1 1 (Nat.le_refl _) (by decide)) rfl ?_ ?_ ?_ ?_ ?_)
         ·intro u hu;simp at hu;subst hu;rfl
         ·unfold maxLen;omega
         ·omega
         ·have:=hbwj.size;simp;omega
         ·intro v2 w3 hown3 hg3 hat3
          have hbw3:=below_app hbwj hg3 (own_ge hownj)
          have hown3':w3.ownsRow w.heap.size 5 1 v2 (n+1+(j+1)) (bytesV (keyRow (l.take k))++(.int .u8 2::bytesV ((be8 bm).take (j+1)))):=by
           rw[HBT.out,bytesV_append];simpa[bytesV,byteV,Nat.add_assoc]using hown3
          clear hbj;go_wp2;go_roundw
          case rel=>exact⟨j+1,_,rfl,by omega,by congr 1;omega,hown3',hbw3⟩
          case measure=>simp[intOf];omega
        ·obtain rfl:j=8:=by omega
         have hfull:(be8 bm).take 8=be8 bm:=List.take_of_length_le (by rw[be8_len];omega);rw[hfull]at hownj;have R:=key_step (m:=9) HT.out HNL.out HL.out hnk hownj (by rw[HKC.out];rfl) (by rw[HKC.out,List.length_cons,be8_len]);clear hfull;go_wp2;go_roundw
         case rel=>exact⟨k+1,_,_,rfl,by omega,by go_num,R.1,zeros_step H.out HG.out HQ.out,R.2.1,R.2.2,hbwj⟩
         case measure=>simp[intOf];omega
     ·have HKC:=Lib.hid hkc
      clear hkc
      go_wp2_with (at_builtin;refine wpList_app rfl (.tmp 24) (.tmp 28) 180 rfl w.heap.size 5 1 1 Tryz.underlying180 byteI v n _ rfl (hown1.alloc _) _ 1 [.int .u8 3] rfl (Sl.block (Blk.new w1 5 #[.int .u8 3]) 1 1 (Nat.le_refl _) (by decide)) rfl ?_ ?_ ?_ ?_ ?_)
      ·intro u hu;simp at hu;subst hu;rfl
      ·unfold maxLen;omega
      ·omega
      ·have:=hbw1.size;simp;omega
      ·intro v1 w2 hown2 hg2 hat2
       have b2:=(b1.alloc (.cells #[.int .u8 3] 5)).grown hg2 (fun e=>by have:=hlt1 _ e;omega);have hbw2:=below_app hbw1 hg2 hge1;have z0:=b2.cell 0 _ rfl;have z1:=b2.cell 1 _ rfl;have z2:=b2.cell 2 _ rfl
       go_wp2_with fail
       have hmx:Mx w2:=HM.out.below hbw2;refine(replaceAll_any x.s _ hs64 hmx).mono ?_;rintro e w3 ⟨rfl,hb3⟩;have hown3:=own_below hown2 hb3;have hbw3:=below_trans hbw2 hb3;have hel:=esc_len x.s.toList;rw[toList_len]at hel;have hsz3:=str_size (esc x.s.toList);have HSZ:=Lib.hid hsz3;have hsc:Lib.strCells (str (esc x.s.toList))=bytesV (esc x.s.toList):=by simp[Lib.strCells,bytesV,byteV,str]
       have HSC:=Lib.hid hsc;have hm128:(str (esc x.s.toList)).size≤128:=by rw[hsz3];omega
       clear hsz3 hsc y1 z0 z1 z2;obtain⟨bi,hbi,hbi1,hbi2,hbi3⟩:=byteInfo
       go_wp2_with (at_builtin;refine Lib.wpList_append_own_string _ rfl (.tmp 60) (.tmp 63) 180 9 rfl w.heap.size 5 bi Tryz.underlying180 Tryz.underlying9 hbi hbi1 hbi2 hbi3 v1 (n+1) _ rfl hown3 (str (esc x.s.toList)) rfl ?_ ?_ hbw3.size ?_)
       ·unfold maxLen;omega
       ·omega
       intro v2 w4 hown4 hg4 hat4;have hbw4:=below_grown hbw3 hg4 (own_ge hown3)
       go_wp2_with (at_builtin;refine wpList_app rfl (.tmp 65) (.tmp 66) 180 rfl w.heap.size 5 1 1 Tryz.underlying180 byteI v2 (n+1+(str (esc x.s.toList)).size) _ rfl (hown4.alloc _) _ 2 [.int .u8 0,.int .u8 1] rfl (Sl.block (Blk.new w4 5 #[.int .u8 0,.int .u8 1]) 2 2 (Nat.le_refl _) (by decide)) rfl ?_ ?_ ?_ ?_ ?_)
       ·intro u hu;simp at hu;rcases hu with rfl|rfl<;>rfl
       ·unfold maxLen;omega
       ·omega
       ·have:=hbw4.size;simp;omega
       intro v3 w5 hown5 hg5 hat5;have hbw5:=below_app hbw4 hg5 (own_ge hown4)
       have hown6:w5.ownsRow w.heap.size 5 1 v3 (n+(1+(str (esc x.s.toList)).size+2)) (bytesV (keyRow (l.take k))++(.int .u8 3::(bytesV (esc x.s.toList)++[.int .u8 0,.int .u8 1]))):=by
        rw[HSC.out]at hown5;simpa[Nat.add_assoc]using hown5
       have R:=key_step HT.out HNL.out HL.out hnk hown6 (by rw[HKC.out];simp[bytesV,byteV]) (by rw[HKC.out,HSZ.out];simp;omega);go_wp2;go_roundw
       case rel=>exact⟨k+1,_,_,rfl,by omega,by go_num,R.1,zeros_step H.out HG.out HQ.out,R.2.1,R.2.2,hbw5⟩
       case measure=>simp[intOf];omega
    ·have e1:=Lib.hid (show keyR l=(⟨#[]⟩,checkV x)from by
      have h0:keyErr l=checkV x:=by rw[HN.out,firstNZ_hit H.out HG.out hq]
      unfold keyR;rw[h0,if_pos hq])
     have hq':=beqF hq;clear hq
     go_wp2_with fail
     refine(check_val x _ hxs).mono ?_;rintro e w1 ⟨rfl,hb1⟩;go_wp2
     go_ret2
     exact⟨by rw[e1.out];rfl,below_trans (below_trans hbw (below_alloc _ _)) hb1⟩
   ·obtain rfl:k=l.length:=by omega
    have e1:=Lib.hid (show keyR l=(str (keyRow l),0)from by
     have h0:keyErr l=0:=by rw[HN.out];exact firstNZ_none (by have:=H.out;rwa[List.take_of_length_le (by simp)]at this)
     unfold keyR;rw[h0];rfl)
    have hsl:=Sl.of_own hown;obtain⟨A',c',rfl,hnc,-,hA0,hcell⟩:=hsl
    have hcv:(convert 180 9 (.slice A' n c')).run Tryz.prog wr= .ok (.string (str (keyRow (l.take l.length)))) wr:=by
     cases hks:keyRow (l.take l.length)with
     |nil=>
      have hn0:n=0:=by rw[HNL.out,hks];rfl
      subst hn0;cases A' with
      |none=>
       rw[run_convert_bytes_nil wr 180 5 Tryz.underlying180 Tryz.underlying5 0 c' 9 Tryz.underlying9];rfl
      |some a=>
       have:=run_convert_bytes_back wr 180 9 5 a c' [] Tryz.underlying180 Tryz.underlying5 Tryz.underlying9 (by simp);exact this
     |cons q r=>
      obtain⟨gb,go,rfl,hcc⟩:=hcell (by rw[hks];simp[bytesV]);have hn1:n=(q::r).length:=by rw[HNL.out,hks]
      subst hn1;rw[hks]at hcc;exact run_str wr gb go c' (q::r) hcc
    clear hcell hA0;go_wp2
    go_ret2
    refine⟨?_,hbw⟩;rw[e1.out];rfl
end Go.Proofs.YtjodlngbiikgfaaGreatDoor
namespace Go.Proofs.YtjodlngbiikgfaaGreatDoor
open Go.RowKit
def txtF:List UInt8→Nat→Option (List UInt8×Nat)
 |[],_=>none
 |_::_,0=>none
 |c::r,m+1=>
  if c≠0 then(txtF r m).map fun p=>(c::p.1,p.2+1)
  else match r with
   |[]=>none
   |d::r'=>if d=1 then some ([],2)else if d=255 then(txtF r' m).map fun p=>(0::p.1,p.2+2)else none
theorem txt_plain {c:UInt8}(r:List UInt8)(m:Nat)(hc:c≠0):txtF (c::r) (m+1)=(txtF r m).map fun p=>(c::p.1,p.2+1):=by
 rw[txtF.eq_def];simp[hc]
theorem txt_end (m:Nat):txtF [0] (m+1)=none:=by rw[txtF.eq_def];rfl
theorem txt_stop (r:List UInt8)(m:Nat):txtF (0::1::r) (m+1)=some ([],2):=by rw[txtF.eq_def];rfl
theorem txt_zero (r:List UInt8)(m:Nat):txtF (0::255::r) (m+1)=(txtF r m).map fun p=>(0::p.1,p.2+2):=by rw[txtF.eq_def];rfl
theorem txt_bad {d:UInt8}(r:List UInt8)(m:Nat)(h1:d≠1)(h2:d≠255):txtF (0::d::r) (m+1)=none:=by rw[txtF.eq_def];simp[h1,h2]
theorem txt_full (l:List UInt8):txtF l 0=none:=by cases l<;>rfl
theorem txt_nil (m:Nat):txtF [] m=none:=by cases m<;>rfl
def TxtRel (l:List UInt8) (i:Nat) (b:List UInt8):Prop:=txtF l 65=(txtF (l.drop i) (65-b.length)).map fun p=>(b++p.1,i+p.2)
theorem rel_start (l:List UInt8):TxtRel l 0 []:=by
 unfold TxtRel;simp
theorem rel_plain {l:List UInt8}{i:Nat}{b:List UInt8}{c:UInt8}(h:TxtRel l i b)(hd:l[i]?=some c)(hc:c≠0)(hb:b.length≤64):TxtRel l (i+1) (b++[c]):=by
 unfold TxtRel at*;obtain⟨hlt,rfl⟩:=List.getElem?_eq_some_iff.1 hd;rw[h,List.drop_eq_getElem_cons hlt,show 65-b.length=(64-b.length)+1 from by omega,txt_plain _ _ hc,Option.map_map];rw[show 65-(b++[l[i]]).length=64-b.length from by simp]
 congr 1
 funext p
 simp[Nat.add_assoc,Nat.add_comm 1]
theorem rel_zero {l:List UInt8}{i:Nat}{b:List UInt8}(h:TxtRel l i b)(hd:l[i]?=some 0)(hd2:l[i+1]?=some 255)(hb:b.length≤64):TxtRel l (i+2) (b++[0]):=by
 unfold TxtRel at*;obtain⟨hlt,e1⟩:=List.getElem?_eq_some_iff.1 hd;obtain⟨hlt2,e2⟩:=List.getElem?_eq_some_iff.1 hd2;rw[h,List.drop_eq_getElem_cons hlt,List.drop_eq_getElem_cons hlt2,e1,e2,show 65-b.length=(64-b.length)+1 from by omega,txt_zero,Option.map_map];rw[show 65-(b++[(0:UInt8)]).length=64-b.length from by simp]
 congr 1
 funext p
 simp[Nat.add_assoc,Nat.add_comm 2]
theorem rel_end1 {l:List UInt8}{i:Nat}{b:List UInt8}(h:TxtRel l i b)(hi:l.length≤i):txtF l 65=none:=by
 rw[h,List.drop_eq_nil_of_le hi,txt_nil];rfl
theorem rel_end2 {l:List UInt8}{i:Nat}{b:List UInt8}(h:TxtRel l i b)(hb:64<b.length):txtF l 65=none:=by
 rw[h,show 65-b.length=0 from by omega,txt_full];rfl
theorem rel_end3 {l:List UInt8}{i:Nat}{b:List UInt8}(h:TxtRel l i b)(hd:l[i]?=some 0)(hi:l.length=i+1)(hb:b.length≤64):txtF l 65=none:=by
 obtain⟨hlt,e1⟩:=List.getElem?_eq_some_iff.1 hd;rw[h,List.drop_eq_getElem_cons hlt,e1,List.drop_eq_nil_of_le (by omega),show 65-b.length=(64-b.length)+1 from by omega,txt_end];rfl
theorem rel_end4 {l:List UInt8}{i:Nat}{b:List UInt8}{d:UInt8}(h:TxtRel l i b)(hd:l[i]?=some 0)(hd2:l[i+1]?=some d)(h1:d≠1)(h2:d≠255)(hb:b.length≤64):txtF l 65=none:=by
 obtain⟨hlt,e1⟩:=List.getElem?_eq_some_iff.1 hd;obtain⟨hlt2,e2⟩:=List.getElem?_eq_some_iff.1 hd2;rw[h,List.drop_eq_getElem_cons hlt,List.drop_eq_getElem_cons hlt2,e1,e2,show 65-b.length=(64-b.length)+1 from by omega,txt_bad _ _ h1 h2];rfl
theorem rel_stop {l:List UInt8}{i:Nat}{b:List UInt8}(h:TxtRel l i b)(hd:l[i]?=some 0)(hd2:l[i+1]?=some 1)(hb:b.length≤64):txtF l 65=some (b,i+2):=by
 obtain⟨hlt,e1⟩:=List.getElem?_eq_some_iff.1 hd;obtain⟨hlt2,e2⟩:=List.getElem?_eq_some_iff.1 hd2;rw[h,List.drop_eq_getElem_cons hlt,List.drop_eq_getElem_cons hlt2,e1,e2,show 65-b.length=(64-b.length)+1 from by omega,txt_stop];simp
def textR (l:List UInt8):ByteArray×Int×Bool:=match txtF l 65 with
 |some p=>(str p.1,(p.2:Int),true)
 |none=>(⟨#[]⟩,0,false)
theorem textR_no {l:List UInt8}(h:txtF l 65=none):textR l=(⟨#[]⟩,0,false):=by unfold textR;rw[h]
theorem textR_yes {l b:List UInt8}{n:Nat}(h:txtF l 65=some (b,n)):textR l=(str b,(n:Int),true):=by unfold textR;rw[h]
set_option maxRecDepth 10000 in
theorem run_str_own {wr:World}{base n:Nat}{A:Option Addr}{c:Nat}{l:List UInt8}(h:wr.ownsRow base 5 1 (.slice A n c) n (bytesV l))(hn:n=l.length):
 (convert 180 9 (.slice A n c)).run Tryz.prog wr= .ok (.string (str l)) wr:=by
 obtain⟨A',c',e,-,-,-,hcell⟩:=Sl.of_own h;injection e with e1 e2 e3;subst e1 e3;cases l with
 |nil=>
  have hn0:n=0:=hn;subst hn0;cases A with
  |none=>
   rw[run_convert_bytes_nil wr 180 5 Tryz.underlying180 Tryz.underlying5 0 c 9 Tryz.underlying9];rfl
  |some a=>exact run_convert_bytes_back wr 180 9 5 a c [] Tryz.underlying180 Tryz.underlying5 Tryz.underlying9 (by simp)
 |cons q r=>
  obtain⟨gb,go,rfl,hcc⟩:=hcell (by simp[bytesV]);subst hn;exact run_str wr gb go c (q::r) hcc
theorem byte_ne {c:UInt8}{n:Nat}(hn:n<256)(h:c≠UInt8.ofNat n):((c.toNat:Int)==(n:Int))=false:=by
 simp only[beq_eq_false_iff_ne];intro e;apply h;apply UInt8.toNat_inj.1;rw[UInt8.toNat_ofNat',Nat.mod_eq_of_lt hn];omega
set_option maxHeartbeats 2000000 in
set_option maxRecDepth 10000 in
theorem text_any (s:ByteArray)(w:World)(hs:s.size≤4611686018427387904):
 Calls Tryz.prog 162 #[.string s] w fun e w'=>e= .returned (.tuple #[.string (textR s.toList).1,.int .i64 (textR s.toList).2.1,.bool (textR s.toList).2.2])∧Below w.heap.size w w':=by
 go_enter Tryz.func162,Tryz.ntmps162
 go_wp2
 go_loopw[5,6] (fun b i wr=> ∃(k:Nat) (v:Value) (x:List UInt8),v=b∧k≤s.size∧i= .int .i64 k∧x.length≤65∧Hid (TxtRel s.toList k x)∧wr.ownsRow w.heap.size 5 1 v x.length (bytesV x)∧Below w.heap.size w wr)
  (fun _ i _=>s.size-(intOf i).toNat)
 case atStart=>exact⟨0,_,[],rfl,by omega,rfl,by simp,rel_start _,World.ownsRow_nil _ _ _ _,Below.refl _ _⟩
 case round=>
  obtain⟨k,v,x,rfl,hk,rfl,hx,HR,hown,hbw⟩:=hrel;obtain⟨A,c,rfl,hxc,-⟩:=Sl.of_own hown;by_cases hlt:k<s.size
  ·by_cases hx64:x.length≤64
   ·have hat:=toList_at s k hlt
    have HA:=Lib.hid hat;clear hat;by_cases hc0:s[k]=0
    ·have HA0:=Lib.hid (show s.toList[k]?=some 0 from by rw[HA.out,hc0])
     by_cases hk1:k+1<s.size
     ·have HD:=Lib.hid (toList_at s (k+1) hk1)
      by_cases hd1:s[k+1]=1
      ·have HD1:=Lib.hid (show s.toList[k+1]?=some 1 from by rw[HD.out,hd1])
       have e1:=Lib.hid (textR_yes (rel_stop HR.out HA0.out HD1.out hx64));have hcv:=run_str_own hown rfl;go_wp2
       go_ret3
       exact⟨by rw[e1.out];rfl,hbw⟩
      ·by_cases hd2:s[k+1]=255
       ·have HD1:=Lib.hid (show s.toList[k+1]?=some 255 from by rw[HD.out,hd2])
        clear hd1
        go_wp2_with (at_builtin;refine wpList_app rfl (.tmp 54) (.tmp 55) 180 rfl w.heap.size 5 1 1 Tryz.underlying180 byteI _ x.length _ rfl (hown.alloc _) _ 1 [.int .u8 0] rfl (Sl.block (Blk.new wr 5 #[.int .u8 0]) 1 1 (Nat.le_refl _) (by decide)) rfl ?_ ?_ ?_ ?_ ?_)
        ·intro u hu;simp at hu;subst hu;rfl
        ·unfold maxLen;omega
        ·omega
        ·have:=hbw.size;simp;omega
        ·intro v2 w3 hown3 hg3 hat3
         have hbw3:=below_app hbw hg3 (own_ge hown);have R:=rel_zero HR.out HA0.out HD1.out hx64;have HRR:=Lib.hid R;clear R;go_wp2;go_roundw
         case rel=>exact⟨k+2,_,x++[0],rfl,by omega,by go_num,by simp;omega,HRR.out,by simpa[bytesV,byteV]using hown3,hbw3⟩
         case measure=>simp[intOf];omega
       ·have hb1:=(show((s[k+1].toNat:Int)==1)=false from byte_ne (n:=1) (by omega) hd1)
        have hb2:=(show((s[k+1].toNat:Int)==255)=false from byte_ne (n:=255) (by omega) hd2);have e1:=Lib.hid (textR_no (rel_end4 HR.out HA0.out HD.out hd1 hd2 hx64));have hb3:((s[k+1].toNat:Int) != 1)=true:=by simp only[bne,hb1];rfl
        have hb4:((s[k+1].toNat:Int) != 255)=true:=by simp only[bne,hb2];rfl
        have hb5:(((k:Int)+1)==(s.size:Int))=false:=by simp;omega
        clear hd1 hd2;go_wp2
        go_ret3
        exact⟨by rw[e1.out];rfl,hbw⟩
     ·have hke:k+1=s.size:=by omega
      have e1:=Lib.hid (textR_no (rel_end3 HR.out HA0.out (by rw[toList_len];omega) hx64));have hb0:(((k:Int)+1)==(s.size:Int))=true:=by simp;omega
      clear hke;go_wp2
      go_ret3
      exact⟨by rw[e1.out];rfl,hbw⟩
    ·have hb:=byte_ne (n:=0) (by omega) hc0
     have HC:=Lib.hid hc0;clear hc0
     go_wp2_with (at_builtin;refine wpList_app rfl (.tmp 22) (.tmp 26) 180 rfl w.heap.size 5 1 1 Tryz.underlying180 byteI _ x.length _ rfl (hown.alloc _) _ 1 [.int .u8 (s[k].toNat:Int)] rfl (Sl.block (Blk.new wr 5 #[.int .u8 (s[k].toNat:Int)]) 1 1 (Nat.le_refl _) (by decide)) rfl ?_ ?_ ?_ ?_ ?_)
     ·intro u hu;simp at hu;subst hu;rfl
     ·unfold maxLen;omega
     ·omega
     ·have:=hbw.size;simp;omega
     ·intro v2 w3 hown3 hg3 hat3
      have hbw3:=below_app hbw hg3 (own_ge hown);have R:=rel_plain HR.out HA.out HC.out hx64;have HRR:=Lib.hid R;clear R hb;go_wp2;go_roundw
      case rel=>exact⟨k+1,_,x++[s[k]],rfl,by omega,by go_num,by simp;omega,HRR.out,by simpa[bytesV,byteV]using hown3,hbw3⟩
      case measure=>simp[intOf];omega
   ·have e1:=Lib.hid (textR_no (rel_end2 HR.out (by omega)))
    go_wp2
    go_ret3
    exact⟨by rw[e1.out];rfl,hbw⟩
  ·have e1:=Lib.hid (textR_no (rel_end1 HR.out (by rw[toList_len];omega)))
   go_wp2
   go_ret3
   exact⟨by rw[e1.out];rfl,hbw⟩
end Go.Proofs.YtjodlngbiikgfaaGreatDoor
namespace Go.Proofs.YtjodlngbiikgfaaGreatDoor
open Go.RowKit
theorem txt_make (b:List UInt8): ∀(m:Nat) (r:List UInt8),b.length<m→txtF (esc b++(0::1::r)) m=some (b,(esc b).length+2):=by
 induction b with
 |nil=>
  intro m r h;obtain⟨m,rfl⟩: ∃q,m=q+1:=⟨m-1,by simp at h;omega⟩;exact txt_stop r m
 |cons c b ih=>
  intro m r h;obtain⟨m,rfl⟩: ∃q,m=q+1:=⟨m-1,by simp at h;omega⟩;have hm:b.length<m:=by simp at h;omega
  rw[esc_cons];by_cases hc:c=0
  ·subst hc
   rw[if_pos rfl,List.append_assoc];show txtF (0::255::(esc b++(0::1::r))) (m+1)=_;rw[txt_zero,ih m r hm];simp
  ·rw[if_neg hc,List.append_assoc]
   show txtF (c::(esc b++(0::1::r))) (m+1)=_;rw[txt_plain _ _ hc,ih m r hm];simp
theorem txt_back: ∀(k:Nat) (l:List UInt8) (m:Nat) (b:List UInt8) (n:Nat),l.length≤k→txtF l m=some (b,n)→l=esc b++(0::1::l.drop n)∧n=(esc b).length+2∧b.length<m:=by
 intro k
 induction k with
 |zero=>
  intro l m b n hl h;obtain rfl:l=[]:=List.length_eq_zero_iff.1 (by omega);rw[txt_nil]at h;simp at h
 |succ k ih=>
  intro l m b n hl h;cases l with
  |nil=>rw[txt_nil]at h;simp at h
  |cons c r=>
   cases m with
   |zero=>rw[txt_full]at h;simp at h
   |succ m=>
    by_cases hc:c=0
    ·subst hc
     cases r with
     |nil=>rw[txt_end]at h;simp at h
     |cons d r=>
      by_cases h1:d=1
      ·subst h1
       rw[txt_stop]at h;simp only[Option.some.injEq,Prod.mk.injEq]at h;obtain⟨rfl,rfl⟩:=h;exact⟨rfl,rfl,by simp⟩
      ·by_cases h2:d=255
       ·subst h2
        rw[txt_zero]at h;rw[Option.map_eq_some_iff]at h;obtain⟨⟨b',n'⟩,hb,he⟩:=h;simp only[Prod.mk.injEq]at he;obtain⟨rfl,rfl⟩:=he;obtain⟨e1,e2,e3⟩:=ih r m b' n' (by simp at hl;omega) hb;refine⟨?_,?_,by simp;omega⟩
        ·rw[esc_cons,if_pos rfl]
         show 0::255::r=0::255::(esc b'++(0::1::r.drop n'));rw[←e1]
        ·rw[esc_cons,if_pos rfl];simp;omega
       ·rw[txt_bad _ _ h1 h2]at h;simp at h
    ·rw[txt_plain _ _ hc]at h
     rw[Option.map_eq_some_iff]at h;obtain⟨⟨b',n'⟩,hb,he⟩:=h;simp only[Prod.mk.injEq]at he;obtain⟨rfl,rfl⟩:=he;obtain⟨e1,e2,e3⟩:=ih r m b' n' (by simp at hl;omega) hb;refine⟨?_,?_,by simp;omega⟩
     ·rw[esc_cons,if_neg hc]
      show c::r=c::(esc b'++(0::1::r.drop n'));rw[←e1]
     ·rw[esc_cons,if_neg hc];simp;omega
def be8N (l:List UInt8):Nat:=l.foldl (fun m b=>m*256+b.toNat) 0
theorem be8N_snoc (l:List UInt8)(b:UInt8):be8N (l++[b])=be8N l*256+b.toNat:=by simp[be8N]
theorem be8_make (m:Nat)(h:m<18446744073709551616):be8N (be8 m)=m:=by
 have e:be8 m=[byteAt m 0,byteAt m 1,byteAt m 2,byteAt m 3,byteAt m 4,byteAt m 5,byteAt m 6,byteAt m 7]:=rfl;rw[e];simp only[be8N,List.foldl,byteAt,UInt8.toNat_ofNat'];simp only[Nat.reducePow,Nat.reduceMul,Nat.reduceSub];omega
theorem be8_back (l:List UInt8)(h:l.length=8):be8 (be8N l)=l∧be8N l<18446744073709551616:=by
 match l,h with
 |[b0,b1,b2,b3,b4,b5,b6,b7],_=>
  have h0:=b0.toNat_lt;have h1:=b1.toNat_lt;have h2:=b2.toNat_lt;have h3:=b3.toNat_lt;have h4:=b4.toNat_lt;have h5:=b5.toNat_lt;have h6:=b6.toNat_lt;have h7:=b7.toNat_lt;simp only[be8N,List.foldl]
  have hb: ∀(m k:Nat) (b:UInt8),m/ 2 ^(56-8*k)%256=b.toNat→byteAt m k=b:=fun m k b hh=>by
   apply UInt8.toNat_inj.1;rw[byteAt,UInt8.toNat_ofNat'];exact hh
  refine⟨?_,by omega⟩;show[byteAt _ 0,byteAt _ 1,byteAt _ 2,byteAt _ 3,byteAt _ 4,byteAt _ 5,byteAt _ 6,byteAt _ 7]=_;rw[hb _ 0 b0,hb _ 1 b1,hb _ 2 b2,hb _ 3 b3,hb _ 4 b4,hb _ 5 b5,hb _ 6 b6,hb _ 7 b7]
  all_goals
   simp only[Nat.reducePow,Nat.reduceMul,Nat.reduceSub];omega
def cellF:List UInt8→Option (Val×Nat)
 |[]=>none
 |c::r=>
  if c=0 then some (⟨0,0,⟨#[]⟩⟩,1)
  else if c=1 then match r with
   |[]=>none
   |b::_=>if b.toNat≤1 then some (⟨1,(b.toNat:Int),⟨#[]⟩⟩,2)else none
  else if c=2 then if 8≤r.length then some (⟨2,(be8N (r.take 8):Int)-9223372036854775808,⟨#[]⟩⟩,9)else none
  else if c=3 then(txtF r 65).map fun p=>(⟨3,0,str p.1⟩,1+p.2)
  else none
def decG:Nat→List UInt8→Option (List Val)
 |_,[]=>some []
 |0,_::_=>none
 |m+1,c::r=>match cellF (c::r)with
  |none=>none
  |some p=>(decG m ((c::r).drop p.2)).map (p.1:: ·)
theorem empty_bytes {s:ByteArray}(h:s.toList.isEmpty=true):s=⟨#[]⟩:=by
 rw[←str_of s,List.isEmpty_iff.1 h];rfl
theorem good_cells (v:Val)(h:checkV v=0):
 v=⟨0,0,⟨#[]⟩⟩∨v=⟨1,0,⟨#[]⟩⟩∨v=⟨1,1,⟨#[]⟩⟩∨v=⟨2,v.n,⟨#[]⟩⟩∨(v=⟨3,0,v.s⟩∧v.s.size≤64):=by
 rcases val_cases v with⟨h1,-,hc⟩|⟨h1,-,-,hc⟩|⟨h1,h2,h3,hc⟩|⟨h1,-,-,hc⟩|⟨h1,-,-,hc⟩|⟨h1,h2,h3,hc⟩|⟨h1,-,-,hc⟩|⟨h1,h2,h3,hc⟩|⟨h1,-,hc⟩|⟨h1,h3,hc⟩|⟨h1,-,hc⟩|⟨h1,-,-,hc⟩|⟨h1,h4,h2,hc⟩|⟨h1,hc⟩|⟨h1,hc⟩
 all_goals
  first|(rw[h]at hc;exact absurd hc (by decide))|skip
 all_goals obtain⟨k,n,s⟩:=v
 all_goals simp only at h1
 all_goals try simp only at h2
 all_goals try simp only at h3
 all_goals try simp only at h4
 ·rw[h1,h2,empty_bytes h3];exact .inl rfl
 ·rw[h1,h2,empty_bytes h3];exact .inr (.inl rfl)
 ·rw[h1,h2,empty_bytes h3];exact .inr (.inr (.inl rfl))
 ·rw[h1,empty_bytes h3];exact .inr (.inr (.inr (.inl rfl)))
 ·rw[h1,h4];exact .inr (.inr (.inr (.inr ⟨rfl,h2⟩)))
theorem cell_make (v:Val)(r:List UInt8)(h:checkV v=0)(h1: -9223372036854775808≤v.n)(h2:v.n≤9223372036854775807):cellF (keyCell v++r)=some (v,(keyCell v).length):=by
 rcases good_cells v h with e|e|e|e|⟨e,hs⟩
 ·rw[e];rfl
 ·rw[e];rfl
 ·rw[e];rfl
 ·rw[e]
  have hk:keyCell ⟨2,v.n,⟨#[]⟩⟩=2::be8 (bias v.n):=rfl;rw[hk];have hb:bias v.n<18446744073709551616:=by unfold bias;omega
  have hl:((be8 (bias v.n))++r).take 8=be8 (bias v.n):=by rw[List.take_append_of_le_length (by rw[be8_len];omega),List.take_of_length_le (by rw[be8_len];omega)]
  show(if 8≤(be8 (bias v.n)++r).length then some ((⟨2,(be8N ((be8 (bias v.n)++r).take 8):Int)-9223372036854775808,⟨#[]⟩⟩:Val),9)else none)=_;rw[if_pos (by rw[List.length_append,be8_len];omega),hl,be8_make _ hb,List.length_cons,be8_len];have:((bias v.n:Nat):Int)-9223372036854775808=v.n:=by unfold bias;omega
  rw[this]
 ·rw[e]
  have hk:keyCell ⟨3,0,v.s⟩=3::(esc v.s.toList++[0,1]):=rfl;rw[hk];show(txtF ((esc v.s.toList++[0,1])++r) 65).map (fun p=>((⟨3,0,str p.1⟩:Val),1+p.2))=_;rw[List.append_assoc];show(txtF (esc v.s.toList++(0::1::r)) 65).map (fun p=>((⟨3,0,str p.1⟩:Val),1+p.2))=_;rw[txt_make _ _ _ (by rw[toList_len];omega)];simp[str_of,Nat.add_comm]
theorem dec_make: ∀(l:List Val) (m:Nat),l.length≤m→(∀x∈l,checkV x=0∧ -9223372036854775808≤x.n∧x.n≤9223372036854775807)→decG m (keyRow l)=some l
 |[],m,_,_=>by cases m<;>rfl
 |x::l,0,h,_=>by simp at h
 |x::l,m+1,h,hh=>by
  obtain⟨h0,h1,h2⟩:=hh x (by simp);have ih:=dec_make l m (by simp at h;omega) (fun y hy=>hh y (by simp[hy]));have hc:=cell_make x (keyRow l) h0 h1 h2;have e:keyRow (x::l)=keyCell x++keyRow l:=List.flatMap_cons;rw[e];obtain⟨c,q,hq⟩: ∃c q,keyCell x=c::q:=⟨_,_,rfl⟩;rw[hq]at hc⊢;show(match cellF (c::q++keyRow l)with|none=>none|some p=>(decG m ((c::q++keyRow l).drop p.2)).map (p.1:: ·))=_;rw[hc];simp only[List.drop_left];rw[ih];rfl
end Go.Proofs.YtjodlngbiikgfaaGreatDoor
namespace Go.Proofs.YtjodlngbiikgfaaGreatDoor
open Go.RowKit
theorem or_byte (m:Nat)(b:UInt8):bits .or .i64 (IntKind.i64.wrap ((m:Int)*256)) (b.toNat:Int)=IntKind.i64.wrap ((m*256+b.toNat:Nat):Int):=by
 show IntKind.i64.wrap ((BitVec.ofInt 64 (IntKind.i64.wrap ((m:Int)*256))||| BitVec.ofInt 64 (b.toNat:Int)).toNat:Int)=_;have hb:=b.toNat_lt
 have e1:(BitVec.ofInt 64 (IntKind.i64.wrap ((m:Int)*256))).toNat=2 ^ 8*(m%2 ^ 56):=by
  rw[BitVec.toNat_ofInt,IntKind.wrap_i64];simp only[Nat.reducePow];omega
 have e2:(BitVec.ofInt 64 (b.toNat:Int)).toNat=b.toNat:=by
  rw[BitVec.toNat_ofInt];simp only[Nat.reducePow];omega
 rw[BitVec.toNat_or,e1,e2,←Nat.two_pow_add_eq_or_of_lt hb,IntKind.wrap_i64,IntKind.wrap_i64];simp only[Nat.reducePow];omega
end Go.Proofs.YtjodlngbiikgfaaGreatDoor
