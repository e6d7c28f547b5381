/-The walk of value.Key. The laws' word for a number. The contracts of package times and of its reference: what each function returns, as a plain functi -/
import Derived.Test.YtjhbeecmdgglgaaGreatDoorGrpX3
import Derived.Lib.AppendStr
import Derived.Test.YtjhbeecmdgglgaaGreatDoorGrpX1
set_option linter.unusedSimpArgs false
set_option linter.unusedVariables false
namespace Go.Proofs.YtjhbeecmdgglgaaGreatDoor
open Go.RowKit
def keyR (l:List Val):ByteArray×Int:=if keyErr l≠0 then(⟨#[]⟩,keyErr l)else(str (keyRow l),0)
theorem byteI:EInfo Tryz.prog 5 1 1:=by
 have h:(Tryz.prog.info? 5).map (fun i=>(i.zero,i.size,i.bytes))=some (some (.int .u8 0),1,1):=by kernel_rfl
 obtain⟨i,hi,h1,h2,h3⟩:=info_parts h;exact⟨i,_,hi,h1,h2,h3,rfl,by omega⟩
theorem byteInfo: ∃i,Tryz.prog.info? 5=some i∧i.zero=some (.int .u8 0)∧i.size=1∧i.bytes=1:=by
 have h:(Tryz.prog.info? 5).map (fun i=>(i.zero,i.size,i.bytes))=some (some (.int .u8 0),1,1):=by kernel_rfl
 obtain⟨i,hi,h1,h2,h3⟩:=info_parts h;exact⟨i,hi,h1,h2,h3⟩
theorem own_below {w w':World}{base:Nat}{e:TypeId}{size:Nat}{v:Value}{n:Nat}{xs:List Value}(h:w.ownsRow base e size v n xs)(hb:Below w.heap.size w w'):w'.ownsRow base e size v n xs:=by
 refine⟨h.1,?_⟩;rcases h.2 with hn|⟨g,cap,cur,hv,hg,hh,r⟩
 ·exact .inl hn
 ·exact .inr ⟨g,cap,cur,hv,hg,(hb.block g (Array.getElem?_eq_some_iff.1 hh).1).trans hh,r⟩
theorem own_lt {w:World}{base:Nat}{e:TypeId}{size:Nat}{v:Value}{n:Nat}{xs:List Value}(h:w.ownsRow base e size v n xs): ∀k,v.ownBlock=some k→k<w.heap.size:=fun k hk=>(h.lt k hk).2
theorem u64_bias (n:Int)(h1: -9223372036854775808≤n)(h2:n≤9223372036854775807):IntKind.u64.wrap (IntKind.u64.wrap n+9223372036854775808)=(bias n:Int):=by
 rw[IntKind.wrap_u64,IntKind.wrap_u64];unfold bias;omega
theorem byteAt_shift (m j:Nat)(hj:j<8):((m:Int)/ 2 ^(8*(7-j))%256)=((byteAt m j).toNat:Int):=by
 rw[←byteAt_eq,show 8*(7-j)=56-8*j from by omega]
theorem below_app {a w w':World}{o:Obj}{row:Option Nat}(h:Below a.heap.size a w)(hg:(w.alloc o).grownBy w' row)(hr: ∀k,row=some k→a.heap.size≤k):Below a.heap.size a w':=
 below_grown (h.alloc h.size o) hg hr
theorem bytesV_append (a b:List UInt8):bytesV (a++b)=bytesV a++bytesV b:=List.map_append
theorem key_step {l:List Val}{k n m base:Nat}{x:Val}{v1:Value}{w2:World}{K:List Value}(HT:keyRow (l.take (k+1))=keyRow (l.take k)++keyCell x)(HNL:n=(keyRow (l.take k)).length)(hlen:(keyCell x).length≤131)
 (hnk:n≤131*k) (hown:w2.ownsRow base 5 1 v1 (n+m) (bytesV (keyRow (l.take k))++K)) (hK:K=bytesV (keyCell x)) (hm:m=(keyCell x).length):
 n+m≤131*(k+1)∧Hid (n+m=(keyRow (l.take (k+1))).length)∧w2.ownsRow base 5 1 v1 (n+m) (bytesV (keyRow (l.take (k+1)))):=by
 refine⟨by omega,?_,?_⟩
 ·show _=_
  rw[HT,List.length_append];omega
 ·rw[HT,bytesV_append,←hK];exact hown
theorem zeros_step {l:List Val}{k:Nat}{x:Val}(H: ∀x∈(l.map checkV).take k,x=0)(HG:(l.map checkV)[k]?=some (checkV x))(HQ:checkV x=0):Hid (∀x∈(l.map checkV).take (k+1),x=0):=by
 show ∀y∈(l.map checkV).take (k+1),y=0;rw[List.take_add_one,HG];intro y hy;rcases List.mem_append.1 hy with hy|hy
 ·exact H y hy
 ·simp at hy;rw[hy];exact HQ
set_option maxHeartbeats 4000000 in
set_option maxRecDepth 10000 in
theorem key_any (v:Value)(l:List Val)(w:World)(h:Sl w v l.length (rowCells l))(hf:Fine l)(hm:Mx w):
 Calls Tryz.prog 55 #[v] w fun e w'=>e= .returned (.tuple #[.string (keyR l).1,.int .i64 (keyR l).2])∧Below w.heap.size w w':=by
 have HH:=Lib.hid h;have HF:=Lib.hid hf;have HM:=Lib.hid hm;obtain⟨A,c,rfl,h1,h2,-⟩:=h;clear hf hm;unfold maxLen at h2;by_cases hn:8<l.length
 ·have e1:=Lib.hid (show keyR l=(⟨#[]⟩,2)from by
   have h0:keyErr l=2:=if_pos hn;unfold keyR;rw[h0];rfl)
  go_enter Tryz.func55,Tryz.ntmps55
  go_wp2
  go_ret2
  exact⟨by rw[e1.out];rfl,Below.refl _ _⟩
 ·have HN:=Lib.hid (show keyErr l=firstNZ (l.map checkV)from if_neg hn)
  go_enter Tryz.func55,Tryz.ntmps55
  go_wp2
  go_loopw[4,15] (fun b i wr=> ∃(k n:Nat) (v:Value),v=b∧k≤l.length∧i= .int .i64 k∧n≤131*k∧Hid (∀x∈(l.map checkV).take k,x=0)∧Hid (n=(keyRow (l.take k)).length)∧wr.ownsRow w.heap.size 5 1 v n (bytesV (keyRow (l.take k)))∧Below w.heap.size w wr)
   (fun _ i _=>l.length-(intOf i).toNat)
  case atStart=>exact⟨0,0,_,rfl,by omega,rfl,by omega,by simp[Hid],rfl,World.ownsRow_nil _ _ _ _,Below.refl _ _⟩
  case round=>
   obtain⟨k,n,v,rfl,hk,rfl,hnk,H,HNL,hown,hbw⟩:=hrel;by_cases hlt:k<l.length
   ·have hx:=List.getElem?_eq_getElem (l:=l) hlt
    generalize l[k]=x at hx;obtain⟨g,off,rfl,-,hc⟩:=val_at HH.out rfl hx;obtain⟨c1,c2,c3⟩:=hc _ hbw;have hmem:=List.mem_of_getElem? hx;have hxs:=HF.out.small x hmem;have hxn:=HF.out.nums x hmem;have HT:=Lib.hid (keyRow_take l k x hx);have HG:=Lib.hid (show(l.map checkV)[k]?=some (checkV x)from by rw[List.getElem?_map,hx];rfl);clear hx hc hmem;by_cases hq:checkV x=0
    ·have HGC:=Lib.hid (good_cases x hq)
     have HQ:=Lib.hid hq;have hlen:=keyCell_len x (good_size hq);have HL:=Lib.hid hlen
     go_wp2_with fail
     refine(check_val x _ hxs).mono ?_;rw[hq];rintro e w1 ⟨rfl,hb1⟩;clear hq;have b1:=(Blk.new wr 68 #[.int .i64 x.k,.int .i64 x.n,.string x.s]).below hb1;have hown1:=own_below hown (below_trans (below_alloc wr (.cells #[.int .i64 x.k,.int .i64 x.n,.string x.s] 68)) hb1);have hlt1:=own_lt hown;have hge1:=own_ge hown;have hbw1:=below_trans (below_trans hbw (below_alloc wr (.cells #[.int .i64 x.k,.int .i64 x.n,.string x.s] 68))) hb1;have hsz1:=b1.lt;have x1:=b1.cell 0 _ rfl;have y1:=fun o=>(b1.alloc o).cell 0 _ rfl;rcases HGC.out with⟨hk0,hkc⟩|⟨hk0,hn0,hkc⟩|⟨hk0,hn0,hkc⟩|⟨hk0,hkc⟩|⟨hk0,hs64,hkc⟩
     ·have HKC:=Lib.hid hkc
      clear hkc
      go_wp2_with (at_builtin;refine wpList_app rfl (.tmp 24) (.tmp 28) 142 rfl w.heap.size 5 1 1 Tryz.underlying142 byteI v n _ rfl (hown1.alloc _) _ 1 [.int .u8 0] rfl (Sl.block (Blk.new w1 5 #[.int .u8 0]) 1 1 (Nat.le_refl _) (by decide)) rfl ?_ ?_ ?_ ?_ ?_)
      ·intro u hu;simp at hu;subst hu;rfl
      ·unfold maxLen;omega
      ·omega
      ·have:=hbw1.size;simp;omega
      ·intro v1 w2 hown2 hg2 hat2
       have b2:=(b1.alloc (.cells #[.int .u8 0] 5)).grown hg2 (fun e=>by have:=hlt1 _ e;omega);have hbw2:=below_app hbw1 hg2 hge1;have z0:=b2.cell 0 _ rfl;have z1:=b2.cell 1 _ rfl;have z2:=b2.cell 2 _ rfl;have R:=key_step HT.out HNL.out HL.out hnk hown2 (by rw[HKC.out];rfl) (by rw[HKC.out];rfl);go_wp2;go_roundw
       case rel=>exact⟨k+1,_,_,rfl,by omega,by go_num,R.1,zeros_step H.out HG.out HQ.out,R.2.1,R.2.2,hbw2⟩
       case measure=>simp[intOf];omega
     ·have HKC:=Lib.hid hkc
      clear hkc
      go_wp2_with (at_builtin;refine wpList_app rfl (.tmp 24) (.tmp 28) 142 rfl w.heap.size 5 1 1 Tryz.underlying142 byteI v n _ rfl (hown1.alloc _) _ 1 [.int .u8 1] rfl (Sl.block (Blk.new w1 5 #[.int .u8 1]) 1 1 (Nat.le_refl _) (by decide)) rfl ?_ ?_ ?_ ?_ ?_)
      ·intro u hu;simp at hu;subst hu;rfl
      ·unfold maxLen;omega
      ·omega
      ·have:=hbw1.size;simp;omega
      ·intro v1 w2 hown2 hg2 hat2
       have b2:=(b1.alloc (.cells #[.int .u8 1] 5)).grown hg2 (fun e=>by have:=hlt1 _ e;omega);have hbw2:=below_app hbw1 hg2 hge1;have z0:=b2.cell 0 _ rfl;have z1:=b2.cell 1 _ rfl;have z2:=b2.cell 2 _ rfl
       go_wp2_with (at_builtin;refine wpList_app rfl (.tmp 34) (.tmp 38) 142 rfl w.heap.size 5 1 1 Tryz.underlying142 byteI v1 (n+1) _ rfl (hown2.alloc _) _ 1 [.int .u8 0] rfl (Sl.block (Blk.new w2 5 #[.int .u8 0]) 1 1 (Nat.le_refl _) (by decide)) rfl ?_ ?_ ?_ ?_ ?_)
       ·intro u hu;simp at hu;subst hu;rfl
       ·unfold maxLen;omega
       ·omega
       ·have:=hbw2.size;simp;omega
       ·intro v2 w3 hown3 hg3 hat3
        have hbw3:=below_app hbw2 hg3 (own_ge hown2);have R:=key_step (m:=2) HT.out HNL.out HL.out hnk hown3 (by rw[HKC.out];rfl) (by rw[HKC.out];rfl);go_wp2;go_roundw
        case rel=>exact⟨k+1,_,_,rfl,by omega,by go_num,R.1,zeros_step H.out HG.out HQ.out,R.2.1,R.2.2,hbw3⟩
        case measure=>simp[intOf];omega
     ·have HKC:=Lib.hid hkc
      clear hkc
      go_wp2_with (at_builtin;refine wpList_app rfl (.tmp 24) (.tmp 28) 142 rfl w.heap.size 5 1 1 Tryz.underlying142 byteI v n _ rfl (hown1.alloc _) _ 1 [.int .u8 1] rfl (Sl.block (Blk.new w1 5 #[.int .u8 1]) 1 1 (Nat.le_refl _) (by decide)) rfl ?_ ?_ ?_ ?_ ?_)
      ·intro u hu;simp at hu;subst hu;rfl
      ·unfold maxLen;omega
      ·omega
      ·have:=hbw1.size;simp;omega
      ·intro v1 w2 hown2 hg2 hat2
       have b2:=(b1.alloc (.cells #[.int .u8 1] 5)).grown hg2 (fun e=>by have:=hlt1 _ e;omega);have hbw2:=below_app hbw1 hg2 hge1;have z0:=b2.cell 0 _ rfl;have z1:=b2.cell 1 _ rfl;have z2:=b2.cell 2 _ rfl
       go_wp2_with (at_builtin;refine wpList_app rfl (.tmp 34) (.tmp 38) 142 rfl w.heap.size 5 1 1 Tryz.underlying142 byteI v1 (n+1) _ rfl (hown2.alloc _) _ 1 [.int .u8 1] rfl (Sl.block (Blk.new w2 5 #[.int .u8 1]) 1 1 (Nat.le_refl _) (by decide)) rfl ?_ ?_ ?_ ?_ ?_)
       ·intro u hu;simp at hu;subst hu;rfl
       ·unfold maxLen;omega
       ·omega
       ·have:=hbw2.size;simp;omega
       ·intro v2 w3 hown3 hg3 hat3
        have hbw3:=below_app hbw2 hg3 (own_ge hown2);have R:=key_step (m:=2) HT.out HNL.out HL.out hnk hown3 (by rw[HKC.out];rfl) (by rw[HKC.out];rfl);go_wp2;go_roundw
        case rel=>exact⟨k+1,_,_,rfl,by omega,by go_num,R.1,zeros_step H.out HG.out HQ.out,R.2.1,R.2.2,hbw3⟩
        case measure=>simp[intOf];omega
     ·have HKC:=Lib.hid hkc
      clear hkc
      go_wp2_with (at_builtin;refine wpList_app rfl (.tmp 24) (.tmp 28) 142 rfl w.heap.size 5 1 1 Tryz.underlying142 byteI v n _ rfl (hown1.alloc _) _ 1 [.int .u8 2] rfl (Sl.block (Blk.new w1 5 #[.int .u8 2]) 1 1 (Nat.le_refl _) (by decide)) rfl ?_ ?_ ?_ ?_ ?_)
      ·intro u hu;simp at hu;subst hu;rfl
      ·unfold maxLen;omega
      ·omega
      ·have:=hbw1.size;simp;omega
      ·intro v1 w2 hown2 hg2 hat2
       have b2:=(b1.alloc (.cells #[.int .u8 2] 5)).grown hg2 (fun e=>by have:=hlt1 _ e;omega);have hbw2:=below_app hbw1 hg2 hge1;have z0:=b2.cell 0 _ rfl;have z1:=b2.cell 1 _ rfl;have z2:=b2.cell 2 _ rfl;have hub:=u64_bias x.n hxn.1 hxn.2;have HUB:=Lib.hid hub;generalize bias x.n=bm at hub HUB HKC
       go_wp2_with fail
       obtain⟨wo,hwo⟩: ∃wo:World,wo=w2:=⟨_,rfl⟩;subst hwo;clear y1 z0 z1 z2 hub
       go_loopw[4,9] (fun b i wr2=> ∃(j:Nat) (vb:Value),vb=b∧j≤8∧i= .int .i64 (7-(j:Int))∧wr2.ownsRow w.heap.size 5 1 vb (n+1+j) (bytesV (keyRow (l.take k))++(.int .u8 2::bytesV ((be8 bm).take j)))∧Below w.heap.size w wr2)
        (fun _ i _=>(intOf i+1).toNat)
       case atStart=>exact⟨0,_,rfl,by omega,rfl,by simpa[bytesV]using hown2,hbw2⟩
       case round=>
        obtain⟨j,vb,rfl,hj,rfl,hownj,hbwj⟩:=hrel;by_cases hj8:j<8
        ·have hbj:=byteAt_shift bm j hj8
         have HBT:=Lib.hid (be8_take bm j hj8)
         go_wp2_with (at_builtin;refine wpList_app rfl (.tmp 50) (.tmp 56) 142 rfl w.heap.size 5 1 1 Tryz.underlying142 byteI vb (n+1+j) _ rfl (hownj.alloc _) _ 1 [.int .u8 ((byteAt bm j).toNat:Int)] rfl (Sl.block (Blk.new _ 5 #[.int .u8 ((byteAt bm j).toNat:Int)]) 1 1 (Nat.le_refl _) (by decide)) rfl ?_ ?_ ?_ ?_ ?_)
         ·intro u hu;simp at hu;subst hu;rfl
         ·unfold maxLen;omega
         ·omega
         ·have:=hbwj.size;simp;omega
         ·intro v2 w3 hown3 hg3 hat3
          have hbw3:=below_app hbwj hg3 (own_ge hownj)
          have hown3':w3.ownsRow w.heap.size 5 1 v2 (n+1+(j+1)) (bytesV (keyRow (l.take k))++(.int .u8 2::bytesV ((be8 bm).take (j+1)))):=by
           rw[HBT.out,bytesV_append];simpa[bytesV,byteV,Nat.add_assoc]using hown3
          clear hbj;go_wp2;go_roundw
          case rel=>exact⟨j+1,_,rfl,by omega,by congr 1;omega,hown3',hbw3⟩
          case measure=>simp[intOf];omega
        ·obtain rfl:j=8:=by omega
         have hfull:(be8 bm).take 8=be8 bm:=List.take_of_length_le (by rw[be8_len];omega);rw[hfull]at hownj;have R:=key_step (m:=9) HT.out HNL.out HL.out hnk hownj (by rw[HKC.out];rfl) (by rw[HKC.out,List.length_cons,be8_len]);clear hfull;go_wp2;go_roundw
         case rel=>exact⟨k+1,_,_,rfl,by omega,by go_num,R.1,zeros_step H.out HG.out HQ.out,R.2.1,R.2.2,hbwj⟩
         case measure=>simp[intOf];omega
     ·have HKC:=Lib.hid hkc
      clear hkc
      go_wp2_with (at_builtin;refine wpList_app rfl (.tmp 24) (.tmp 28) 142 rfl w.heap.size 5 1 1 Tryz.underlying142 byteI v n _ rfl (hown1.alloc _) _ 1 [.int .u8 3] rfl (Sl.block (Blk.new w1 5 #[.int .u8 3]) 1 1 (Nat.le_refl _) (by decide)) rfl ?_ ?_ ?_ ?_ ?_)
      ·intro u hu;simp at hu;subst hu;rfl
      ·unfold maxLen;omega
      ·omega
      ·have:=hbw1.size;simp;omega
      ·intro v1 w2 hown2 hg2 hat2
       have b2:=(b1.alloc (.cells #[.int .u8 3] 5)).grown hg2 (fun e=>by have:=hlt1 _ e;omega);have hbw2:=below_app hbw1 hg2 hge1;have z0:=b2.cell 0 _ rfl;have z1:=b2.cell 1 _ rfl;have z2:=b2.cell 2 _ rfl
       go_wp2_with fail
       have hmx:Mx w2:=HM.out.below hbw2;refine(replaceAll_any x.s _ hs64 hmx).mono ?_;rintro e w3 ⟨rfl,hb3⟩;have hown3:=own_below hown2 hb3;have hbw3:=below_trans hbw2 hb3;have hel:=esc_len x.s.toList;rw[toList_len]at hel;have hsz3:=str_size (esc x.s.toList);have HSZ:=Lib.hid hsz3;have hsc:Lib.strCells (str (esc x.s.toList))=bytesV (esc x.s.toList):=by simp[Lib.strCells,bytesV,byteV,str]
       have HSC:=Lib.hid hsc;have hm128:(str (esc x.s.toList)).size≤128:=by rw[hsz3];omega
       clear hsz3 hsc y1 z0 z1 z2;obtain⟨bi,hbi,hbi1,hbi2,hbi3⟩:=byteInfo
       go_wp2_with (at_builtin;refine Lib.wpList_append_own_string _ rfl (.tmp 60) (.tmp 63) 142 9 rfl w.heap.size 5 bi Tryz.underlying142 Tryz.underlying9 hbi hbi1 hbi2 hbi3 v1 (n+1) _ rfl hown3 (str (esc x.s.toList)) rfl ?_ ?_ hbw3.size ?_)
       ·unfold maxLen;omega
       ·omega
       intro v2 w4 hown4 hg4 hat4;have hbw4:=below_grown hbw3 hg4 (own_ge hown3)
       go_wp2_with (at_builtin;refine wpList_app rfl (.tmp 65) (.tmp 66) 142 rfl w.heap.size 5 1 1 Tryz.underlying142 byteI v2 (n+1+(str (esc x.s.toList)).size) _ rfl (hown4.alloc _) _ 2 [.int .u8 0,.int .u8 1] rfl (Sl.block (Blk.new w4 5 #[.int .u8 0,.int .u8 1]) 2 2 (Nat.le_refl _) (by decide)) rfl ?_ ?_ ?_ ?_ ?_)
       ·intro u hu;simp at hu;rcases hu with rfl|rfl<;>rfl
       ·unfold maxLen;omega
       ·omega
       ·have:=hbw4.size;simp;omega
       intro v3 w5 hown5 hg5 hat5;have hbw5:=below_app hbw4 hg5 (own_ge hown4)
       have hown6:w5.ownsRow w.heap.size 5 1 v3 (n+(1+(str (esc x.s.toList)).size+2)) (bytesV (keyRow (l.take k))++(.int .u8 3::(bytesV (esc x.s.toList)++[.int .u8 0,.int .u8 1]))):=by
        rw[HSC.out]at hown5;simpa[Nat.add_assoc]using hown5
       have R:=key_step HT.out HNL.out HL.out hnk hown6 (by rw[HKC.out];simp[bytesV,byteV]) (by rw[HKC.out,HSZ.out];simp;omega);go_wp2;go_roundw
       case rel=>exact⟨k+1,_,_,rfl,by omega,by go_num,R.1,zeros_step H.out HG.out HQ.out,R.2.1,R.2.2,hbw5⟩
       case measure=>simp[intOf];omega
    ·have e1:=Lib.hid (show keyR l=(⟨#[]⟩,checkV x)from by
      have h0:keyErr l=checkV x:=by rw[HN.out,firstNZ_hit H.out HG.out hq]
      unfold keyR;rw[h0,if_pos hq])
     have hq':=beqF hq;clear hq
     go_wp2_with fail
     refine(check_val x _ hxs).mono ?_;rintro e w1 ⟨rfl,hb1⟩;go_wp2
     go_ret2
     exact⟨by rw[e1.out];rfl,below_trans (below_trans hbw (below_alloc _ _)) hb1⟩
   ·obtain rfl:k=l.length:=by omega
    have e1:=Lib.hid (show keyR l=(str (keyRow l),0)from by
     have h0:keyErr l=0:=by rw[HN.out];exact firstNZ_none (by have:=H.out;rwa[List.take_of_length_le (by simp)]at this)
     unfold keyR;rw[h0];rfl)
    have hsl:=Sl.of_own hown;obtain⟨A',c',rfl,hnc,-,hA0,hcell⟩:=hsl
    have hcv:(convert 142 9 (.slice A' n c')).run Tryz.prog wr= .ok (.string (str (keyRow (l.take l.length)))) wr:=by
     cases hks:keyRow (l.take l.length)with
     |nil=>
      have hn0:n=0:=by rw[HNL.out,hks];rfl
      subst hn0;cases A' with
      |none=>
       rw[run_convert_bytes_nil wr 142 5 Tryz.underlying142 Tryz.underlying5 0 c' 9 Tryz.underlying9];rfl
      |some a=>
       have:=run_convert_bytes_back wr 142 9 5 a c' [] Tryz.underlying142 Tryz.underlying5 Tryz.underlying9 (by simp);exact this
     |cons q r=>
      obtain⟨gb,go,rfl,hcc⟩:=hcell (by rw[hks];simp[bytesV]);have hn1:n=(q::r).length:=by rw[HNL.out,hks]
      subst hn1;rw[hks]at hcc;exact run_str wr gb go c' (q::r) hcc
    clear hcell hA0;go_wp2
    go_ret2
    refine⟨?_,hbw⟩;rw[e1.out];rfl
end Go.Proofs.YtjhbeecmdgglgaaGreatDoor
namespace Go.Proofs.YtjhbeecmdgglgaaGreatDoor
open Go.RowKit Go.Maps
set_option maxHeartbeats 400000 in
set_option maxRecDepth 10000 in
theorem num_any (n:Int)(w:World):Calls Tryz.prog 44 #[.int .i64 n] w fun e w'=>e= .returned (.agg #[.int .i64 2,.int .i64 n,.string ⟨#[]⟩])∧Below w.heap.size w w':=by
 go_enter Tryz.func44,Tryz.ntmps44
 go_wp2;exact bodyPost_ret (v:= .agg #[.int .i64 2,.int .i64 n,.string ⟨#[]⟩]) (by simp[results,Tryz.results44,go_sem]) rfl ⟨rfl,below_alloc _ _⟩
def numV (n:Int):Val:=⟨2,n,⟨#[]⟩⟩
theorem nums_fine (a b:Int)(ha: -9223372036854775808≤a∧a≤9223372036854775807)(hb: -9223372036854775808≤b∧b≤9223372036854775807):Fine [numV a,numV b]:=by
 refine⟨fun x hx=> ?_,fun x hx=> ?_⟩
 ·simp only[List.mem_cons,List.mem_nil_iff,or_false]at hx
  have:(⟨#[]⟩:ByteArray).size=0:=rfl;rcases hx with rfl|rfl<;>simp[numV,this]
 ·simp only[List.mem_cons,List.mem_nil_iff,or_false]at hx
  rcases hx with rfl|rfl
  ·exact ha
  ·exact hb
end Go.Proofs.YtjhbeecmdgglgaaGreatDoor
namespace Go.Proofs.YtjhbeecmdgglgaaGreatDoor.tm
open Go.RowKit
def fitsB (t:Int):Bool:=decide (-1099511627776≤t∧t≤1099511627776)
theorem fits_yes {t:Int}(h1: -1099511627776≤t)(h2:t≤1099511627776):fitsB t=true:=by simp[fitsB,h1,h2]
theorem fits_lo {t:Int}(h:t< -1099511627776):fitsB t=false:=by simp[fitsB];omega
theorem fits_hi {t:Int}(h:1099511627776<t):fitsB t=false:=by simp[fitsB];omega
theorem fits_of {t:Int}(h:fitsB t=true): -1099511627776≤t∧t≤1099511627776:=by simpa[fitsB]using h
set_option maxHeartbeats 400000 in
theorem fits_any (t:Int)(w:World):
 Calls Tryz.prog 84 #[.int .i64 t] w fun e w'=>e= .returned (.bool (fitsB t))∧w=w':=by
 by_cases h1: -1099511627776≤t
 ·by_cases h2:t≤1099511627776
  ·go_enter Tryz.func84,Tryz.ntmps84
   go_wp2;go_ret;exact⟨ret_bool (fits_yes h1 h2).symm,rfl⟩
  ·go_enter Tryz.func84,Tryz.ntmps84
   go_wp2;go_ret;exact⟨ret_bool (fits_hi (by omega)).symm,rfl⟩
 ·go_enter Tryz.func84,Tryz.ntmps84
  go_wp2;go_ret;exact⟨ret_bool (fits_lo (by omega)).symm,rfl⟩
set_option maxHeartbeats 400000 in
theorem rfits_any (t:Int)(w:World):
 Calls Tryz.prog 39 #[.int .i64 t] w fun e w'=>e= .returned (.bool (fitsB t))∧w=w':=by
 by_cases h1: -1099511627776≤t
 ·by_cases h2:t≤1099511627776
  ·go_enter Tryz.func39,Tryz.ntmps39
   go_wp2;go_ret;exact⟨ret_bool (fits_yes h1 h2).symm,rfl⟩
  ·go_enter Tryz.func39,Tryz.ntmps39
   go_wp2;go_ret;exact⟨ret_bool (fits_hi (by omega)).symm,rfl⟩
 ·go_enter Tryz.func39,Tryz.ntmps39
  go_wp2;go_ret;exact⟨ret_bool (fits_lo (by omega)).symm,rfl⟩
def winF (t size:Int):Int:=t-t%size
theorem tmod_facts (t size:Int)(hs:1≤size): -size<t.tmod size∧t.tmod size<size:=by
 have h1:=Int.tmod_lt_of_pos t (show 0<size by omega);have h2:=Int.lt_tmod_of_pos t (show 0<size by omega);omega
theorem mod_facts (t size:Int)(hs:1≤size):0≤t%size∧t%size<size:=
 ⟨Int.emod_nonneg _ (by omega),Int.emod_lt_of_pos _ (by omega)⟩
theorem tmod_mod (t size:Int)(hs:1≤size):t.tmod size%size=t%size:=by
 rw[Int.tmod_eq_emod];split
 ·simp
 ·have:(size.natAbs:Int)=size:=by omega
  rw[this,Int.sub_emod];simp
set_option maxHeartbeats 400000 in
theorem window_any (t size:Int)(w:World)(ht: -1099511627776≤t)(ht':t≤1099511627776)(hs:1≤size)(hs':size≤1099511627776):
 Calls Tryz.prog 123 #[.int .i64 t,.int .i64 size] w fun e w'=>e= .returned (.tuple #[.int .i64 (winF t size),.int .i64 (winF t size+size),.int .i64 0])∧w=w':=by
 have h1:=tmod_facts t size hs;have h2:=mod_facts (t.tmod size) size hs;have h3:=Lib.hid (tmod_mod t size hs);obtain⟨h1a,h1b⟩:=h1;obtain⟨h2a,h2b⟩:=h2;have hf:=fits_yes ht ht';go_enter Tryz.func123,Tryz.ntmps123
 go_wp2_with (go_at_call 84;refine(fits_any _ _).mono ?_;rintro e w' ⟨rfl,rfl⟩)
 go_ret3
 exact⟨by rw[h3.out];rfl,rfl⟩
theorem start_facts (t size:Int)(ht: -1099511627776≤t)(ht':t≤1099511627776)(hs:1≤size)(hs':size≤1099511627776):
 -1099511627776≤t.tdiv size∧t.tdiv size≤1099511627776∧ -2199023255552≤t.tdiv size*size∧t.tdiv size*size≤2199023255552∧
 (if t<t.tdiv size*size then t.tdiv size*size-size else t.tdiv size*size)=winF t size:=by
 have h1:=tmod_facts t size hs;have h2:=mod_facts t size hs;have e:=Int.tmod_add_mul_tdiv t size;have e2:=Int.emod_add_mul_ediv t size;have hc:size*t.tdiv size=t.tdiv size*size:=Int.mul_comm _ _
 have hb: -1099511627776≤t.tdiv size∧t.tdiv size≤1099511627776:=by
  have h:=Int.natAbs_tdiv_le_natAbs t size;omega
 refine⟨hb.1,hb.2,by omega,by omega,?_⟩;unfold winF;have ht:=Int.tmod_eq_emod (a:=t) (b:=size);split
 ·rw[←hc]
  split at ht<;>omega
 ·rw[←hc]
  split at ht<;>omega
set_option maxHeartbeats 400000 in
theorem start_any (t size:Int)(w:World)(ht: -1099511627776≤t)(ht':t≤1099511627776)(hs:1≤size)(hs':size≤1099511627776):
 Calls Tryz.prog 126 #[.int .i64 t,.int .i64 size] w fun e w'=>e= .returned (.int .i64 (winF t size))∧w=w':=by
 obtain⟨h1,h2,h3,h4,h5⟩:=start_facts t size ht ht' hs hs';by_cases hc:t<t.tdiv size*size
 ·rw[if_pos hc]at h5
  have H5:=Lib.hid h5;clear h5;go_enter Tryz.func126,Tryz.ntmps126
  go_wp2;go_ret;exact⟨ret_int H5.out,rfl⟩
 ·rw[if_neg hc]at h5
  have H5:=Lib.hid h5;clear h5;go_enter Tryz.func126,Tryz.ntmps126
  go_wp2;go_ret;exact⟨ret_int H5.out,rfl⟩
end Go.Proofs.YtjhbeecmdgglgaaGreatDoor.tm
namespace Go.Proofs.YtjhbeecmdgglgaaGreatDoor.tm
open Go.RowKit
def meetsF (l r low high:Int):Bool×Int:=
 if fitsB l&&fitsB r&&fitsB low&&fitsB high then(if high<low then(false,1)else(decide (l+low≤r)&&decide (r≤l+high),0))else(false,3)
theorem meets_l {l r low high:Int}(h:fitsB l=false):meetsF l r low high=(false,3):=by simp[meetsF,h]
theorem meets_r {l r low high:Int}(h:fitsB r=false):meetsF l r low high=(false,3):=by simp[meetsF,h]
theorem meets_low {l r low high:Int}(h:fitsB low=false):meetsF l r low high=(false,3):=by simp[meetsF,h]
theorem meets_high {l r low high:Int}(h:fitsB high=false):meetsF l r low high=(false,3):=by simp[meetsF,h]
theorem meets_form {l r low high:Int}(h1:fitsB l=true)(h2:fitsB r=true)(h3:fitsB low=true)(h4:fitsB high=true)(h:high<low):meetsF l r low high=(false,1):=by simp[meetsF,h1,h2,h3,h4,h]
theorem meets_ok {l r low high:Int}(h1:fitsB l=true)(h2:fitsB r=true)(h3:fitsB low=true)(h4:fitsB high=true)(h:low≤high):meetsF l r low high=(decide (l+low≤r)&&decide (r≤l+high),0):=by
 simp[meetsF,h1,h2,h3,h4];omega
set_option maxHeartbeats 1000000 in
set_option maxRecDepth 100000 in
theorem meets_any (l r low high:Int)(w:World):
 Calls Tryz.prog 122 #[.int .i64 l,.int .i64 r,.int .i64 low,.int .i64 high] w fun e w'=>e= .returned (.tuple #[.bool (meetsF l r low high).1,.int .i64 (meetsF l r low high).2])∧w=w':=by
 have i0: ∀w:World,(Instr.index 199 (.agg #[.int .i64 l,.int .i64 r,.int .i64 low,.int .i64 high]) (.int .i64 0)).run Tryz.prog w= .ok (.int .i64 l) w:=fun _=>by kernel_rfl
 have i1: ∀w:World,(Instr.index 199 (.agg #[.int .i64 l,.int .i64 r,.int .i64 low,.int .i64 high]) (.int .i64 1)).run Tryz.prog w= .ok (.int .i64 r) w:=fun _=>by kernel_rfl
 have i2: ∀w:World,(Instr.index 199 (.agg #[.int .i64 l,.int .i64 r,.int .i64 low,.int .i64 high]) (.int .i64 2)).run Tryz.prog w= .ok (.int .i64 low) w:=fun _=>by kernel_rfl
 have i3: ∀w:World,(Instr.index 199 (.agg #[.int .i64 l,.int .i64 r,.int .i64 low,.int .i64 high]) (.int .i64 3)).run Tryz.prog w= .ok (.int .i64 high) w:=fun _=>by kernel_rfl
 go_enter Tryz.func122,Tryz.ntmps122
 go_wp2
 go_loop [11,17] (fun _ i=> ∃k:Nat,k≤4∧i= .int .i64 k∧Hid ((0<k→fitsB l=true)∧(1<k→fitsB r=true)∧(2<k→fitsB low=true)∧(3<k→fitsB high=true))) (fun _ i=>4-(intOf i).toNat)
 case atStart=>exact⟨0,by omega,rfl,⟨fun h=>absurd h (by omega),fun h=>absurd h (by omega),fun h=>absurd h (by omega),fun h=>absurd h (by omega)⟩⟩
 case round=>
  obtain⟨k,hk,rfl,H⟩:=hrel;have hk5:k=0∨k=1∨k=2∨k=3∨k=4:=by omega
  rcases hk5 with rfl|rfl|rfl|rfl|rfl
  ·cases hf:fitsB l
   ·go_wp2_with (go_at_call 84;refine(fits_any _ _).mono ?_;rintro e w' ⟨rfl,rfl⟩)
    go_ret2
    exact⟨by rw[meets_l hf];rfl,rfl⟩
   ·go_wp2_with (go_at_call 84;refine(fits_any _ _).mono ?_;rintro e w' ⟨rfl,rfl⟩)
    go_round
    case rel=>exact⟨1,by omega,rfl,⟨fun _=>(by first|exact hf|trivial),fun h=>absurd h (by omega),fun h=>absurd h (by omega),fun h=>absurd h (by omega)⟩⟩
    case measure=>simp[intOf]
  ·cases hf:fitsB r
   ·go_wp2_with (go_at_call 84;refine(fits_any _ _).mono ?_;rintro e w' ⟨rfl,rfl⟩)
    go_ret2
    exact⟨by rw[meets_r hf];rfl,rfl⟩
   ·go_wp2_with (go_at_call 84;refine(fits_any _ _).mono ?_;rintro e w' ⟨rfl,rfl⟩)
    go_round
    case rel=>exact⟨2,by omega,rfl,⟨fun _=>H.out.1 (by omega),fun _=>(by first|exact hf|trivial),fun h=>absurd h (by omega),fun h=>absurd h (by omega)⟩⟩
    case measure=>simp[intOf]
  ·cases hf:fitsB low
   ·go_wp2_with (go_at_call 84;refine(fits_any _ _).mono ?_;rintro e w' ⟨rfl,rfl⟩)
    go_ret2
    exact⟨by rw[meets_low hf];rfl,rfl⟩
   ·go_wp2_with (go_at_call 84;refine(fits_any _ _).mono ?_;rintro e w' ⟨rfl,rfl⟩)
    go_round
    case rel=>exact⟨3,by omega,rfl,⟨fun _=>H.out.1 (by omega),fun _=>H.out.2.1 (by omega),fun _=>(by first|exact hf|trivial),fun h=>absurd h (by omega)⟩⟩
    case measure=>simp[intOf]
  ·cases hf:fitsB high
   ·go_wp2_with (go_at_call 84;refine(fits_any _ _).mono ?_;rintro e w' ⟨rfl,rfl⟩)
    go_ret2
    exact⟨by rw[meets_high hf];rfl,rfl⟩
   ·go_wp2_with (go_at_call 84;refine(fits_any _ _).mono ?_;rintro e w' ⟨rfl,rfl⟩)
    go_round
    case rel=>exact⟨4,by omega,rfl,⟨fun _=>H.out.1 (by omega),fun _=>H.out.2.1 (by omega),fun _=>H.out.2.2.1 (by omega),fun _=>(by first|exact hf|trivial)⟩⟩
    case measure=>simp[intOf]
  ·have f1:=H.out.1 (by omega)
   have f2:=H.out.2.1 (by omega);have f3:=H.out.2.2.1 (by omega);have f4:=H.out.2.2.2 (by omega);have b1:=fits_of f1;have b2:=fits_of f2;have b3:=fits_of f3;have b4:=fits_of f4;have F1:=Lib.hid f1;have F2:=Lib.hid f2;have F3:=Lib.hid f3;have F4:=Lib.hid f4;clear f1 f2 f3 f4 H i0 i1 i2 i3;by_cases hc:high<low
   ·go_wp2
    go_ret2
    exact⟨by rw[meets_form F1.out F2.out F3.out F4.out hc];rfl,rfl⟩
   ·by_cases hd:l+low≤r
    ·go_wp2
     go_ret2
     exact⟨by rw[meets_ok F1.out F2.out F3.out F4.out (by omega)];simp[hd],rfl⟩
    ·go_wp2
     go_ret2
     exact⟨by rw[meets_ok F1.out F2.out F3.out F4.out (by omega)];simp;omega,rfl⟩
def untilF (mark span:Int):Int:=if mark=1099511627776 then 1099511627776 else mark-span
end Go.Proofs.YtjhbeecmdgglgaaGreatDoor.tm
