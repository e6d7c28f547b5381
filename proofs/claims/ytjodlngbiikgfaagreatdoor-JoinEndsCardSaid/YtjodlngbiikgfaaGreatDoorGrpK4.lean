/-The walk of value.Back. -/
import Derived.Test.YtjodlngbiikgfaaGreatDoorGrpK3
set_option linter.unusedSimpArgs false
set_option linter.unusedVariables false
namespace Go.Proofs.YtjodlngbiikgfaaGreatDoor
open Go.RowKit
def DecRel (l y:List UInt8) (r:List Val):Prop:=decG 8 l=(decG (8-r.length) y).map (r++ ·)
theorem dec_start (l:List UInt8):DecRel l l []:=by
 unfold DecRel;simp
theorem dec_done {l y:List UInt8}{r:List Val}(h:DecRel l y r)(hy:y=[]):decG 8 l=some r:=by
 subst hy;rw[h];have:decG (8-r.length) []=some []:=by cases 8-r.length<;>rfl
 rw[this];simp
theorem decG_cons (m:Nat)(c:UInt8)(q:List UInt8):decG (m+1) (c::q)=match cellF (c::q)with
 |none=>none
 |some p=>(decG m ((c::q).drop p.2)).map (p.1:: ·):=rfl
theorem dec_full {l y:List UInt8}{r:List Val}(h:DecRel l y r)(hy:y≠[])(hr:8≤r.length):decG 8 l=none:=by
 rw[h,show 8-r.length=0 from by omega];cases y with
 |nil=>exact absurd rfl hy
 |cons c q=>rfl
theorem dec_bad {l y:List UInt8}{r:List Val}(h:DecRel l y r)(hy:y≠[])(hc:cellF y=none):decG 8 l=none:=by
 rcases Nat.lt_or_ge r.length 8 with hr|hr
 ·rw[h,show 8-r.length=(7-r.length)+1 from by omega]
  cases y with
  |nil=>exact absurd rfl hy
  |cons c q=>rw[decG_cons,hc];rfl
 ·exact dec_full h hy hr
theorem dec_cell {l y:List UInt8}{r:List Val}{v:Val}{n:Nat}(h:DecRel l y r)(hr:r.length<8)(hc:cellF y=some (v,n)):DecRel l (y.drop n) (r++[v]):=by
 unfold DecRel at*;rw[h,show 8-r.length=(7-r.length)+1 from by omega];cases y with
 |nil=>simp[cellF]at hc
 |cons c q=>
  rw[decG_cons,hc,Option.map_map,show 8-(r++[v]).length=7-r.length from by simp]
  congr 1
  funext p
  simp
def backR (l:List UInt8):List Val×Int:=match decG 8 l with
 |some r=>(r,0)
 |none=>([],1)
theorem backR_no {l:List UInt8}(h:decG 8 l=none):backR l=([],1):=by unfold backR;rw[h]
theorem backR_yes {l:List UInt8}{r:List Val}(h:decG 8 l=some r):backR l=(r,0):=by unfold backR;rw[h]
theorem valI:EInfo Tryz.prog 114 3 32:=by
 have h:(Tryz.prog.info? 114).map (fun i=>(i.zero,i.size,i.bytes))=some (some (.agg #[.int .i64 0,.int .i64 0,.string ⟨#[]⟩]),3,32):=by kernel_rfl
 obtain⟨i,hi,h1,h2,h3⟩:=info_parts h;exact⟨i,_,hi,h1,h2,h3,rfl,by omega⟩
theorem extract_drop (s:ByteArray)(k:Nat):(s.extract k s.size).toList=s.toList.drop k:=by
 rw[ByteArray.toList_eq,ByteArray.toList_eq,ByteArray.data_extract,Array.toList_extract,List.extract_eq_take_drop];exact List.take_of_length_le (by rw[List.length_drop];exact Nat.le_refl _)
theorem rowCells_snoc (r:List Val)(v:Val):rowCells (r++[v])=rowCells r++v.cells:=by simp[rowCells]
theorem cut_key {x x1:ByteArray}{n:Nat}(h:x.extract 1 x.size=x1)(hs:x1.size=x.size-1):(x1.extract n (x.size-1)).size=x.size-1-n∧(x1.extract n (x.size-1)).toList=x.toList.drop (1+n):=by
 rw[←hs];refine⟨by rw[ByteArray.size_extract];omega,?_⟩;rw[extract_drop,←h,extract_drop,List.drop_drop]
theorem new_set (w:World)(t:TypeId)(cs:Array Value)(p:Addr)(u:Value):Blk ((w.setCell p u).alloc (.cells cs t)) w.heap.size t cs:=by
 have h:=Blk.new (w.setCell p u) t cs;have e:(w.setCell p u).heap.size=w.heap.size:=by simp
 rw[e]at h;exact h
theorem u8_wrap (b:UInt8):wrap64 (b.toNat:Int)=(b.toNat:Int):=by
 have:=b.toNat_lt;unfold wrap64;omega
theorem own_set {w:World}{base:Nat}{e:TypeId}{size n:Nat}{v:Value}{xs:List Value}(h:w.ownsRow base e size v n xs){p:Addr}(hp: ∀k,v.ownBlock=some k→k≠p.block)(u:Value):
 (w.setCell p u).ownsRow base e size v n xs:=by
 refine⟨h.1,?_⟩;rcases h.2 with h'|⟨g,cap,cur,h',hb,hg,r⟩
 ·exact .inl h'
 ·exact .inr ⟨g,cap,cur,h',hb,by rw[Below.heap_setCell _ _ _ _ (hp g (by rw[h'];simp[Value.ownBlock]))];exact hg,r⟩
theorem wrap_256 (m:Nat):wrap64 (wrap64 (m:Int)*256)=IntKind.i64.wrap ((m:Int)*256):=by
 rw[IntKind.wrap_i64];unfold wrap64;omega
theorem unbias (M:Nat)(h:M<18446744073709551616):wrap64 (IntKind.u64.wrap (IntKind.u64.wrap (wrap64 (M:Int))-9223372036854775808))=(M:Int)-9223372036854775808:=by
 have e1:IntKind.u64.wrap (wrap64 (M:Int))=(M:Int):=by rw[IntKind.wrap_u64];unfold wrap64;omega
 rw[e1];by_cases hM:M<9223372036854775808
 ·have e2:IntKind.u64.wrap ((M:Int)-9223372036854775808)=(M:Int)+9223372036854775808:=by rw[IntKind.wrap_u64];omega
  rw[e2];unfold wrap64;omega
 ·have e2:IntKind.u64.wrap ((M:Int)-9223372036854775808)=(M:Int)-9223372036854775808:=by rw[IntKind.wrap_u64];omega
  rw[e2];unfold wrap64;omega
theorem take_snoc8 (s:ByteArray)(j:Nat)(hj:j<s.size):be8N (s.toList.take (j+1))=be8N (s.toList.take j)*256+s[j].toNat:=by
 rw[List.take_add_one,toList_at s j hj,Option.toList_some,be8N_snoc]
set_option maxHeartbeats 4000000 in
set_option maxRecDepth 10000 in
theorem back_own (s:ByteArray)(w:World)(hs:s.size≤4611686018427387904):
 Calls Tryz.prog 117 #[.string s] w fun e w'=> ∃v,e= .returned (.tuple #[v,.int .i64 (backR s.toList).2])∧w'.ownsRow w.heap.size 114 3 v (backR s.toList).1.length (rowCells (backR s.toList).1)∧Below w.heap.size w w':=by
 go_enter Tryz.func117,Tryz.ntmps117
 go_wp2
 go_loopw[0,4] (fun y b wr=> ∃(x:ByteArray) (r:List Val) (v:Value),v=b∧y= .string x∧x.size≤s.size∧r.length≤8∧Hid (DecRel s.toList x.toList r)∧wr.ownsRow w.heap.size 114 3 v r.length (rowCells r)∧Below w.heap.size w wr)
  (fun y _ _=>match y with| .string x=>x.size|_=>0)
 case atStart=>exact⟨s,[],_,rfl,rfl,Nat.le_refl _,by simp,dec_start _,World.ownsRow_nil _ _ _ _,Below.refl _ _⟩
 case round=>
  obtain⟨x,r,v,rfl,rfl,hx,hr,HR,hown,hbw⟩:=hrel;obtain⟨A,c,rfl,hrc,-⟩:=Sl.of_own hown;by_cases hx0:x.size=0
  ·have he:x.toList.isEmpty=true:=by rw[List.isEmpty_iff_length_eq_zero,toList_len];exact hx0
   have hd:=dec_done HR.out (List.isEmpty_iff.1 he);have e1:=Lib.hid (backR_yes hd);clear hd;go_wp2
   go_ret2
   refine⟨_,by rw[e1.out];rfl,?_,hbw⟩;rw[e1.out];exact hown
  ·have hpos:0<x.size:=by omega
   have hne:x.toList.isEmpty=false:=by
    cases hq:x.toList with
    |nil=>exact absurd (by rw[←toList_len,hq];rfl) hx0
    |cons a b=>rfl
   have HNE:=Lib.hid (show x.toList≠[]from by intro h0;rw[h0]at hne;simp at hne);have hxs:(x.extract 1 x.size).size=x.size-1:=by rw[ByteArray.size_extract];omega
   have HCO:=Lib.hid (show x.toList=x[0]::(x.extract 1 x.size).toList from by
    have h1:=toList_at x 0 hpos;rw[extract_drop];cases hq:x.toList with
    |nil=>exact absurd hq HNE.out
    |cons a b=>
     rw[hq]at h1;simp only[List.getElem?_cons_zero,Option.some.injEq]at h1;rw[h1];rfl)
   have b1:=fun cs=>Blk.new wr 114 cs;have hB1:=fun o=>hbw.alloc hbw.size o;by_cases hc0:x[0]=0
   ·have hcell:=(show cellF x.toList=some (⟨0,0,⟨#[]⟩⟩,1)from by rw[HCO.out,hc0];rfl)
    have HC:=Lib.hid hcell;clear hcell;by_cases hr8:r.length<8
    ·have hd8:decide ((r.length:Int)<8)=true:=by simp;omega
     go_wp2_with (at_builtin;refine wpList_app rfl (.tmp 93) (.tmp 95) 41 rfl w.heap.size 114 3 32 Tryz.underlying41 valI _ r.length _ rfl ((hown.alloc _).alloc _) _ 1 [.int .i64 0,.int .i64 0,.string ⟨#[]⟩] rfl (Sl.block (new_second wr 114 #[.int .i64 0,.int .i64 0,.string ⟨#[]⟩] _) 1 1 (Nat.le_refl _) (by decide)) rfl ?_ ?_ ?_ ?_ ?_)
     ·intro u hu;simp at hu;rcases hu with rfl|rfl|rfl<;>rfl
     ·unfold maxLen;omega
     ·omega
     ·have:=hbw.size;simp;omega
     ·intro v2 w3 hown3 hg3 hat3
      have hbw3:=below_app (hB1 _) hg3 (own_ge hown);have R:=Lib.hid (dec_cell HR.out hr8 HC.out);generalize hx1:x.extract 1 x.size=x1 at hxs⊢;have HX1:=Lib.hid (cut_key (n:=0) hx1 hxs);clear hx1 b1 hB1 hc0 hd8 hne hg3 hat3 hown hx0;go_wp2;go_roundw
      case rel=>exact⟨_,r++[⟨0,0,⟨#[]⟩⟩],_,rfl,rfl,by rw[HX1.out.1];omega,by simp;omega,by rw[HX1.out.2];exact R.out,by rw[rowCells_snoc,List.length_append];exact hown3,hbw3⟩
      case measure=>simp only[HX1.out.1];omega
    ·have hd8:decide ((r.length:Int)<8)=false:=by simp;omega
     have e1:=Lib.hid (backR_no (dec_full HR.out HNE.out (by omega)));go_wp2
     go_ret2
     refine⟨_,by rw[e1.out];rfl,?_,hB1 _⟩;rw[e1.out];exact World.ownsRow_nil _ _ _ _
   ·have hb0:=byte_ne (n:=0) (by omega) hc0
    have hlt:x[0].toNat<256:=x[0].toNat_lt;have hw64:wrap64 (x[0].toNat:Int)=(x[0].toNat:Int):=by unfold wrap64;omega
    by_cases hc3:3<x[0].toNat
    ·have hq1:((x[0].toNat:Int)==1)=false:=by simp;omega
     have hq2:((x[0].toNat:Int)==2)=false:=by simp;omega
     have hq3:((x[0].toNat:Int)==3)=false:=by simp;omega
     have hcell:cellF x.toList=none:=by
      rw[HCO.out,cellF.eq_def];simp only;rw[if_neg hc0,if_neg (by intro h;rw[h]at hq1;simp at hq1),if_neg (by intro h;rw[h]at hq2;simp at hq2),if_neg (by intro h;rw[h]at hq3;simp at hq3)]
     have e1:=Lib.hid (backR_no (dec_bad HR.out HNE.out hcell));clear hcell hc0;go_wp2
     go_ret2
     refine⟨_,by rw[e1.out];rfl,?_,hB1 _⟩;rw[e1.out];exact World.ownsRow_nil _ _ _ _
    ·by_cases hc1:x[0]=1
     ·clear hb0 hlt hw64 hc0 hc3
      by_cases hr8:r.length<8
      ·have hd8:decide ((r.length:Int)<8)=true:=by simp;omega
       by_cases hx1:x.size=1
       ·have he1:(x.extract 1 x.size).toList.isEmpty=true:=by rw[List.isEmpty_iff_length_eq_zero,toList_len];omega
        have hcell:cellF x.toList=none:=by
         rw[HCO.out,hc1,List.isEmpty_iff.1 he1];rfl
        have e1:=Lib.hid (backR_no (dec_bad HR.out HNE.out hcell));clear hcell hx1;go_wp2
        go_ret2
        refine⟨_,by rw[e1.out];rfl,?_,hB1 _⟩;rw[e1.out];exact World.ownsRow_nil _ _ _ _
       ·have hp1:0<(x.extract 1 x.size).size:=by omega
        have hco1:(x.extract 1 x.size).toList=(x.extract 1 x.size)[0]::(x.extract 1 x.size).toList.tail:=by
         have h1:=toList_at _ 0 hp1;cases hq:(x.extract 1 x.size).toList with
         |nil=>rw[hq]at h1;simp at h1
         |cons a b=>
          rw[hq]at h1;simp only[List.getElem?_cons_zero,Option.some.injEq]at h1;rw[h1];rfl
        have hne1:(x.extract 1 x.size).toList.isEmpty=false:=by rw[hco1];rfl
        have HCO1:=Lib.hid hco1;have hq64:=u8_wrap (x.extract 1 x.size)[0];clear hco1;by_cases hq:(x.extract 1 x.size)[0].toNat≤1
        ·have hdq:decide (((x.extract 1 x.size)[0].toNat:Int)≤1)=true:=by simp;omega
         have hcell:cellF x.toList=some (⟨1,((x.extract 1 x.size)[0].toNat:Int),⟨#[]⟩⟩,2):=by
          rw[HCO.out,hc1,HCO1.out];show(if(x.extract 1 x.size)[0].toNat≤1 then _ else none)=_;rw[if_pos hq]
         have HC:=Lib.hid hcell;clear hcell hq
         go_wp2_with (at_builtin;refine wpList_app rfl (.tmp 93) (.tmp 95) 41 rfl w.heap.size 114 3 32 Tryz.underlying41 valI _ r.length _ rfl ((hown.alloc _).alloc _) _ 1 [.int .i64 1,.int .i64 ((x.extract 1 x.size)[0].toNat:Int),.string ⟨#[]⟩] rfl (Sl.block (new_second wr 114 #[.int .i64 1,.int .i64 ((x.extract 1 x.size)[0].toNat:Int),.string ⟨#[]⟩] _) 1 1 (Nat.le_refl _) (by decide)) rfl ?_ ?_ ?_ ?_ ?_)
         ·intro u hu;simp at hu;rcases hu with rfl|rfl|rfl<;>rfl
         ·unfold maxLen;omega
         ·omega
         ·have:=hbw.size;simp;omega
         ·intro v2 w3 hown3 hg3 hat3
          have hbw3:=below_app (hB1 _) hg3 (own_ge hown);have R:=Lib.hid (dec_cell HR.out hr8 HC.out);generalize (x.extract 1 x.size)[0].toNat=qn at*;generalize hx1':x.extract 1 x.size=x1 at hxs⊢;have HX1:=Lib.hid (cut_key (n:=1) hx1' hxs);clear hx1' b1 hB1 hd8 hne hg3 hat3 hown hx0 hdq hq64 hne1;go_wp2;go_roundw
          case rel=>exact⟨_,r++[⟨1,qn,⟨#[]⟩⟩],_,rfl,rfl,by rw[HX1.out.1];omega,by simp;omega,by rw[HX1.out.2];exact R.out,by rw[rowCells_snoc,List.length_append];exact hown3,hbw3⟩
          case measure=>simp only[HX1.out.1];omega
        ·have hdq:decide (((x.extract 1 x.size)[0].toNat:Int)≤1)=false:=by simp;omega
         have hcell:cellF x.toList=none:=by
          rw[HCO.out,hc1,HCO1.out];show(if(x.extract 1 x.size)[0].toNat≤1 then _ else none)=_;rw[if_neg hq]
         have e1:=Lib.hid (backR_no (dec_bad HR.out HNE.out hcell));clear hcell hq;go_wp2
         go_ret2
         refine⟨_,by rw[e1.out];rfl,?_,hB1 _⟩;rw[e1.out];exact World.ownsRow_nil _ _ _ _
      ·have hd8:decide ((r.length:Int)<8)=false:=by simp;omega
       have e1:=Lib.hid (backR_no (dec_full HR.out HNE.out (by omega)));go_wp2
       go_ret2
       refine⟨_,by rw[e1.out];rfl,?_,hB1 _⟩;rw[e1.out];exact World.ownsRow_nil _ _ _ _
     ·by_cases hc2:x[0]=2
      ·clear hb0 hlt hw64 hc0 hc3 hc1
       have hlt0:=own_lt hown;obtain⟨wo,rfl⟩: ∃wo:World,wo=wr:=⟨_,rfl⟩;by_cases hr8:r.length<8
       ·have hd8:decide ((r.length:Int)<8)=true:=by simp;omega
        by_cases hx9:9≤x.size
        ·have hd9:decide ((8:Int)≤((x.size-1:Nat):Int))=true:=by simp;omega
         go_wp2_with fail
         go_loopw[8] (fun i wr2=> ∃(j:Nat),j≤8∧i= .int .i64 j∧Blk wr2 wo.heap.size 114 #[.int .i64 2,.int .i64 (IntKind.i64.wrap ((be8N ((x.extract 1 x.size).toList.take j):Nat):Int)),.string ⟨#[]⟩]∧wr2.ownsRow w.heap.size 114 3 (.slice A r.length c) r.length (rowCells r)∧Below w.heap.size w wr2∧wo.heap.size<wr2.heap.size)
          (fun i _=>8-(intOf i).toNat)
         case atStart=>exact⟨0,by omega,rfl,b1 _,hown.alloc _,hB1 _,by simp⟩
         case round=>
          obtain⟨j,hj,rfl,hk,hown2,hbw2,hsz⟩:=hrel;by_cases hj8:j<8
          ·have hjx:j<(x.extract 1 x.size).size:=by omega
           have j0:(0:Int)≤(j:Int):=by omega
           have j1:j<x.size-1:=by omega
           have hw:=u8_wrap (x.extract 1 x.size)[j];have HT:=Lib.hid (take_snoc8 (x.extract 1 x.size) j hjx);generalize hM:be8N ((x.extract 1 x.size).toList.take j)=M at hk HT;clear hM;have z0:=hk.cell 0 _ rfl;have z1:=hk.cell 1 _ rfl;have z2:=hk.cell 2 _ rfl;have zf:=hk.free 1
           go_wp2_with fail
           go_region
           have hk2:=(hk.set_ 1 (.int .i64 (bits BinOp.or IntKind.i64 (wrap64 (wrap64 (M:Int)*256)) ((x.extract 1 x.size)[j].toNat:Int)))).drew;have ho2:=own_set (p:=⟨wo.heap.size,1,none⟩) hown2 (fun k hk=>by have:=hlt0 k hk;simp;omega) (.int .i64 (bits BinOp.or IntKind.i64 (wrap64 (wrap64 (M:Int)*256)) ((x.extract 1 x.size)[j].toNat:Int)));have HK2:=Lib.hid hk2;have HV:=Lib.hid (show bits BinOp.or IntKind.i64 (wrap64 (wrap64 (M:Int)*256)) ((x.extract 1 x.size)[j].toNat:Int)=IntKind.i64.wrap ((be8N ((x.extract 1 x.size).toList.take (j+1)):Nat):Int)from by rw[wrap_256,or_byte,HT.out]);clear hk2 z0 z1 z2 zf hw;go_wp2;go_roundw
           case rel=>
            refine⟨j+1,by omega,by go_num,?_,ho2,(Below.setCell (p:=⟨wo.heap.size,1,none⟩) hbw2 hbw.size _).drew,by simp;omega⟩;show Blk _ _ _ #[.int .i64 2,.int .i64 (IntKind.i64.wrap ((be8N ((x.extract 1 x.size).toList.take (j+1)):Nat):Int)),.string ⟨#[]⟩];rw[←HV.out];exact HK2.out
           case measure=>simp[intOf];omega
          ·obtain rfl:j=8:=by omega
           obtain⟨g1,g2⟩:=be8_back ((x.extract 1 x.size).toList.take 8) (by rw[List.length_take,toList_len];omega)
           have HC:=Lib.hid (show cellF x.toList=some (⟨2,((be8N ((x.extract 1 x.size).toList.take 8):Nat):Int)-9223372036854775808,⟨#[]⟩⟩,9)from by
            rw[HCO.out,hc2,cell2,if_pos (by rw[toList_len];omega)])
           generalize hM:be8N ((x.extract 1 x.size).toList.take 8)=M at hk g2 HC;clear hM g1;have z0:=hk.cell 0 _ rfl;have z1:=hk.cell 1 _ rfl;have z2:=hk.cell 2 _ rfl;have zf:=hk.free 1;have hV:wrap64 (IntKind.u64.wrap (IntKind.u64.wrap (wrap64 (M:Int))-9223372036854775808))=(M:Int)-9223372036854775808:=unbias M g2;have ho2:=own_set (p:=⟨wo.heap.size,1,none⟩) hown2 (fun k hk=>by have:=hlt0 k hk;simp;omega) (.int .i64 ((M:Int)-9223372036854775808));have hbt2:=Below.setCell (p:=⟨wo.heap.size,1,none⟩) hbw2 hbw.size (.int .i64 ((M:Int)-9223372036854775808));clear hk g2
           go_wp2_with (at_builtin;refine wpList_app rfl (.tmp 93) (.tmp 95) 41 rfl w.heap.size 114 3 32 Tryz.underlying41 valI _ r.length _ rfl (ho2.alloc _) _ 1 [.int .i64 2,.int .i64 ((M:Int)-9223372036854775808),.string ⟨#[]⟩] rfl (Sl.block (new_set wr 114 #[.int .i64 2,.int .i64 ((M:Int)-9223372036854775808),.string ⟨#[]⟩] _ _) 1 1 (Nat.le_refl _) (by decide)) rfl ?_ ?_ ?_ ?_ ?_)
           ·intro u hu;simp at hu;rcases hu with rfl|rfl|rfl<;>rfl
           ·unfold maxLen;omega
           ·omega
           ·have:=hbt2.size;simp at this⊢;omega
           ·intro v2 w3 hown3 hg3 hat3
            have hbw3:=below_app hbt2 hg3 (own_ge hown);have R:=Lib.hid (dec_cell HR.out hr8 HC.out);generalize hx1':x.extract 1 x.size=x1 at hxs⊢;have HX1:=Lib.hid (cut_key (n:=8) hx1' hxs);clear hx1' b1 hB1 hd8 hd9 hne hg3 hat3 hown hx0 ho2 hown2 hV z0 z1 z2 zf;go_wp2;go_roundw
            case rel=>exact⟨_,r++[⟨2,(M:Int)-9223372036854775808,⟨#[]⟩⟩],_,rfl,rfl,by rw[HX1.out.1];omega,by simp;omega,by rw[HX1.out.2];exact R.out,by rw[rowCells_snoc,List.length_append];exact hown3,hbw3⟩
            case measure=>simp only[HX1.out.1];omega
        ·have hd9:decide ((8:Int)≤((x.size-1:Nat):Int))=false:=by simp;omega
         have e1:=Lib.hid (backR_no (dec_bad HR.out HNE.out (by rw[HCO.out,hc2,cell2,if_neg (by rw[toList_len];omega)])))
         go_wp2_with fail
         go_loopw[8] (fun i wr2=>i= .int .i64 0∧wr2=wo.alloc (.cells #[.int .i64 2,.int .i64 0,.string ⟨#[]⟩] 114)) (fun i _=>0)
         case atStart=>exact⟨rfl,rfl⟩
         case round=>
          obtain⟨rfl,rfl⟩:=hrel;go_wp2
          go_ret2
          refine⟨_,by rw[e1.out];rfl,?_,hB1 _⟩;rw[e1.out];exact World.ownsRow_nil _ _ _ _
       ·have hd8:decide ((r.length:Int)<8)=false:=by simp;omega
        have e1:=Lib.hid (backR_no (dec_full HR.out HNE.out (by omega)))
        go_wp2_with fail
        go_loopw[8] (fun i wr2=>i= .int .i64 0∧wr2=wo.alloc (.cells #[.int .i64 2,.int .i64 0,.string ⟨#[]⟩] 114)) (fun i _=>0)
        case atStart=>exact⟨rfl,rfl⟩
        case round=>
         obtain⟨rfl,rfl⟩:=hrel;go_wp2
         go_ret2
         refine⟨_,by rw[e1.out];rfl,?_,hB1 _⟩;rw[e1.out];exact World.ownsRow_nil _ _ _ _
      ·have hce:x[0]=3:=by
        have h1:x[0].toNat≠0:=fun h=>hc0 (UInt8.toNat_inj.1 h);have h2:x[0].toNat≠1:=fun h=>hc1 (UInt8.toNat_inj.1 h);have h3:x[0].toNat≠2:=fun h=>hc2 (UInt8.toNat_inj.1 h);apply UInt8.toNat_inj.1;show x[0].toNat=3;omega
       clear hb0 hlt hw64 hc0 hc1 hc2 hc3
       have hcell:cellF x.toList=(txtF (x.extract 1 x.size).toList 65).map fun p=>(⟨3,0,str p.1⟩,1+p.2):=by
        rw[HCO.out,hce];rfl
       have HC:=Lib.hid hcell;clear hcell
       go_wp2_with (go_at_call 162;refine(text_any _ _ (by omega)).mono ?_)
       rintro e w1 ⟨rfl,hb1⟩;have k1:=(Blk.new wr 114 #[.int .i64 3,.int .i64 0,.string ⟨#[]⟩]).below hb1;have hbt:=below_trans (hB1 (.cells #[.int .i64 3,.int .i64 0,.string ⟨#[]⟩] 114)) hb1;have z0:=k1.cell 0 _ rfl;have z1:=k1.cell 1 _ rfl;have z2:=k1.cell 2 _ rfl;have zf:=k1.free 2;have hown1:=own_below hown (below_trans (below_alloc wr (.cells #[.int .i64 3,.int .i64 0,.string ⟨#[]⟩] 114)) hb1);cases ht:txtF (x.extract 1 x.size).toList 65 with
       |none=>
        rw[textR_no ht];have e1:=Lib.hid (backR_no (dec_bad HR.out HNE.out (by rw[HC.out,ht];rfl)));clear ht hb1;go_wp2
        all_goals
         go_ret2
         refine⟨_,by rw[e1.out];rfl,?_,Below.setCell hbt hbw.size _⟩;rw[e1.out];exact World.ownsRow_nil _ _ _ _
       |some p=>
        obtain⟨b,n⟩:=p;rw[textR_yes ht];obtain⟨q1,q2,q3⟩:=txt_back _ _ 65 b n (Nat.le_refl _) ht;have hsz:(str b).size≤64:=by rw[str_size];omega
        have hn:n≤x.size-1:=by
         have h1:=congrArg List.length q1;rw[toList_len,List.length_append,List.length_cons,List.length_cons,hxs]at h1;omega
        have HCC:=Lib.hid (show cellF x.toList=some (⟨3,0,str b⟩,1+n)from by rw[HC.out,ht];rfl);clear q1 q2 q3 ht;by_cases hr8:r.length<8
        ·have hd8:decide ((r.length:Int)<8)=true:=by simp;omega
         have hown2:=own_below hown (Below.setCell (below_trans (below_alloc wr (.cells #[.int .i64 3,.int .i64 0,.string ⟨#[]⟩] 114)) hb1) (p:=⟨wr.heap.size,2,none⟩) (Nat.le_refl _) (.string (str b)));have hbt2:=Below.setCell hbt (p:=⟨wr.heap.size,2,none⟩) hbw.size (.string (str b));have hdz:decide (((str b).size:Int)≤64)=true:=by simp;omega
         clear hb1
         go_wp2_with (at_builtin;refine wpList_app rfl (.tmp 93) (.tmp 95) 41 rfl w.heap.size 114 3 32 Tryz.underlying41 valI _ r.length _ rfl (hown2.alloc _) _ 1 [.int .i64 3,.int .i64 0,.string (str b)] rfl (Sl.block (new_set w1 114 #[.int .i64 3,.int .i64 0,.string (str b)] _ _) 1 1 (Nat.le_refl _) (by decide)) rfl ?_ ?_ ?_ ?_ ?_)
         ·intro u hu;simp at hu;rcases hu with rfl|rfl|rfl<;>rfl
         ·unfold maxLen;omega
         ·omega
         ·have:=hbt.size;simp;omega
         ·intro v2 w3 hown3 hg3 hat3
          have hbw3:=below_app hbt2 hg3 (own_ge hown);have R:=Lib.hid (dec_cell HR.out hr8 HCC.out);generalize hx1':x.extract 1 x.size=x1 at hxs⊢;have HX1:=Lib.hid (cut_key (n:=n) hx1' hxs);clear hx1' b1 hB1 hd8 hne hg3 hat3 hown hx0 hown1 hown2;go_wp2;go_roundw
          case rel=>exact⟨_,r++[⟨3,0,str b⟩],_,rfl,rfl,by rw[HX1.out.1];omega,by simp;omega,by rw[HX1.out.2];exact R.out,by rw[rowCells_snoc,List.length_append];exact hown3,hbw3⟩
          case measure=>simp only[HX1.out.1];omega
        ·have hd8:decide ((r.length:Int)<8)=false:=by simp;omega
         have e1:=Lib.hid (backR_no (dec_full HR.out HNE.out (by omega)));clear hb1;go_wp2
         go_ret2
         refine⟨_,by rw[e1.out];rfl,?_,Below.setCell hbt hbw.size _⟩;rw[e1.out];exact World.ownsRow_nil _ _ _ _
theorem back_any2 (s:ByteArray)(w:World)(hs:s.size≤4611686018427387904):
 Calls Tryz.prog 117 #[.string s] w fun e w'=> ∃v,e= .returned (.tuple #[v,.int .i64 (backR s.toList).2])∧Sl w' v (backR s.toList).1.length (rowCells (backR s.toList).1)∧(∀k,v.ownBlock=some k→w.heap.size≤k∧k<w'.heap.size)∧Below w.heap.size w w':=
 (back_own s w hs).mono fun _ _ ⟨v,h1,h2,h3⟩=>⟨v,h1,Sl.of_own h2,h2.lt,h3⟩
end Go.Proofs.YtjodlngbiikgfaaGreatDoor
