/-The walk of value.Key. What buffers need of rows: copies, and rows of one's own. -/
import Derived.Test.YtjhbeecmdgglgaaGreatDoorGrpW6
import Derived.Lib.AppendStr
import Derived.Lib.Walk
import Derived.Lib.SliceRun
set_option linter.unusedSimpArgs false
set_option linter.unusedVariables false
namespace Go.Proofs.YtjhbeecmdgglgaaGreatDoor
open Go.RowKit
def keyR (l:List Val):ByteArray×Int:=if keyErr l≠0 then(⟨#[]⟩,keyErr l)else(str (keyRow l),0)
theorem byteI:EInfo Tryz.prog 5 1 1:=by
 have h:(Tryz.prog.info? 5).map (fun i=>(i.zero,i.size,i.bytes))=some (some (.int .u8 0),1,1):=by kernel_rfl
 obtain⟨i,hi,h1,h2,h3⟩:=info_parts h;exact⟨i,_,hi,h1,h2,h3,rfl,by omega⟩
theorem byteInfo: ∃i,Tryz.prog.info? 5=some i∧i.zero=some (.int .u8 0)∧i.size=1∧i.bytes=1:=by
 have h:(Tryz.prog.info? 5).map (fun i=>(i.zero,i.size,i.bytes))=some (some (.int .u8 0),1,1):=by kernel_rfl
 obtain⟨i,hi,h1,h2,h3⟩:=info_parts h;exact⟨i,hi,h1,h2,h3⟩
theorem own_below {w w':World}{base:Nat}{e:TypeId}{size:Nat}{v:Value}{n:Nat}{xs:List Value}(h:w.ownsRow base e size v n xs)(hb:Below w.heap.size w w'):w'.ownsRow base e size v n xs:=by
 refine⟨h.1,?_⟩;rcases h.2 with hn|⟨g,cap,cur,hv,hg,hh,r⟩
 ·exact .inl hn
 ·exact .inr ⟨g,cap,cur,hv,hg,(hb.block g (Array.getElem?_eq_some_iff.1 hh).1).trans hh,r⟩
theorem own_lt {w:World}{base:Nat}{e:TypeId}{size:Nat}{v:Value}{n:Nat}{xs:List Value}(h:w.ownsRow base e size v n xs): ∀k,v.ownBlock=some k→k<w.heap.size:=fun k hk=>(h.lt k hk).2
theorem u64_bias (n:Int)(h1: -9223372036854775808≤n)(h2:n≤9223372036854775807):IntKind.u64.wrap (IntKind.u64.wrap n+9223372036854775808)=(bias n:Int):=by
 rw[IntKind.wrap_u64,IntKind.wrap_u64];unfold bias;omega
theorem byteAt_shift (m j:Nat)(hj:j<8):((m:Int)/ 2 ^(8*(7-j))%256)=((byteAt m j).toNat:Int):=by
 rw[←byteAt_eq,show 8*(7-j)=56-8*j from by omega]
theorem below_app {a w w':World}{o:Obj}{row:Option Nat}(h:Below a.heap.size a w)(hg:(w.alloc o).grownBy w' row)(hr: ∀k,row=some k→a.heap.size≤k):Below a.heap.size a w':=
 below_grown (h.alloc h.size o) hg hr
theorem bytesV_append (a b:List UInt8):bytesV (a++b)=bytesV a++bytesV b:=List.map_append
theorem key_step {l:List Val}{k n m base:Nat}{x:Val}{v1:Value}{w2:World}{K:List Value}(HT:keyRow (l.take (k+1))=keyRow (l.take k)++keyCell x)(HNL:n=(keyRow (l.take k)).length)(hlen:(keyCell x).length≤131)
 (hnk:n≤131*k) (hown:w2.ownsRow base 5 1 v1 (n+m) (bytesV (keyRow (l.take k))++K)) (hK:K=bytesV (keyCell x)) (hm:m=(keyCell x).length):
 n+m≤131*(k+1)∧Hid (n+m=(keyRow (l.take (k+1))).length)∧w2.ownsRow base 5 1 v1 (n+m) (bytesV (keyRow (l.take (k+1)))):=by
 refine⟨by omega,?_,?_⟩
 ·show _=_
  rw[HT,List.length_append];omega
 ·rw[HT,bytesV_append,←hK];exact hown
theorem zeros_step {l:List Val}{k:Nat}{x:Val}(H: ∀x∈(l.map checkV).take k,x=0)(HG:(l.map checkV)[k]?=some (checkV x))(HQ:checkV x=0):Hid (∀x∈(l.map checkV).take (k+1),x=0):=by
 show ∀y∈(l.map checkV).take (k+1),y=0;rw[List.take_add_one,HG];intro y hy;rcases List.mem_append.1 hy with hy|hy
 ·exact H y hy
 ·simp at hy;rw[hy];exact HQ
set_option maxHeartbeats 4000000 in
set_option maxRecDepth 10000 in
theorem key_any (v:Value)(l:List Val)(w:World)(h:Sl w v l.length (rowCells l))(hf:Fine l)(hm:Mx w):
 Calls Tryz.prog 55 #[v] w fun e w'=>e= .returned (.tuple #[.string (keyR l).1,.int .i64 (keyR l).2])∧Below w.heap.size w w':=by
 have HH:=Lib.hid h;have HF:=Lib.hid hf;have HM:=Lib.hid hm;obtain⟨A,c,rfl,h1,h2,-⟩:=h;clear hf hm;unfold maxLen at h2;by_cases hn:8<l.length
 ·have e1:=Lib.hid (show keyR l=(⟨#[]⟩,2)from by
   have h0:keyErr l=2:=if_pos hn;unfold keyR;rw[h0];rfl)
  go_enter Tryz.func55,Tryz.ntmps55
  go_wp2
  go_ret2
  exact⟨by rw[e1.out];rfl,Below.refl _ _⟩
 ·have HN:=Lib.hid (show keyErr l=firstNZ (l.map checkV)from if_neg hn)
  go_enter Tryz.func55,Tryz.ntmps55
  go_wp2
  go_loopw[4,15] (fun b i wr=> ∃(k n:Nat) (v:Value),v=b∧k≤l.length∧i= .int .i64 k∧n≤131*k∧Hid (∀x∈(l.map checkV).take k,x=0)∧Hid (n=(keyRow (l.take k)).length)∧wr.ownsRow w.heap.size 5 1 v n (bytesV (keyRow (l.take k)))∧Below w.heap.size w wr)
   (fun _ i _=>l.length-(intOf i).toNat)
  case atStart=>exact⟨0,0,_,rfl,by omega,rfl,by omega,by simp[Hid],rfl,World.ownsRow_nil _ _ _ _,Below.refl _ _⟩
  case round=>
   obtain⟨k,n,v,rfl,hk,rfl,hnk,H,HNL,hown,hbw⟩:=hrel;by_cases hlt:k<l.length
   ·have hx:=List.getElem?_eq_getElem (l:=l) hlt
    generalize l[k]=x at hx;obtain⟨g,off,rfl,-,hc⟩:=val_at HH.out rfl hx;obtain⟨c1,c2,c3⟩:=hc _ hbw;have hmem:=List.mem_of_getElem? hx;have hxs:=HF.out.small x hmem;have hxn:=HF.out.nums x hmem;have HT:=Lib.hid (keyRow_take l k x hx);have HG:=Lib.hid (show(l.map checkV)[k]?=some (checkV x)from by rw[List.getElem?_map,hx];rfl);clear hx hc hmem;by_cases hq:checkV x=0
    ·have HGC:=Lib.hid (good_cases x hq)
     have HQ:=Lib.hid hq;have hlen:=keyCell_len x (good_size hq);have HL:=Lib.hid hlen
     go_wp2_with fail
     refine(check_val x _ hxs).mono ?_;rw[hq];rintro e w1 ⟨rfl,hb1⟩;clear hq;have b1:=(Blk.new wr 68 #[.int .i64 x.k,.int .i64 x.n,.string x.s]).below hb1;have hown1:=own_below hown (below_trans (below_alloc wr (.cells #[.int .i64 x.k,.int .i64 x.n,.string x.s] 68)) hb1);have hlt1:=own_lt hown;have hge1:=own_ge hown;have hbw1:=below_trans (below_trans hbw (below_alloc wr (.cells #[.int .i64 x.k,.int .i64 x.n,.string x.s] 68))) hb1;have hsz1:=b1.lt;have x1:=b1.cell 0 _ rfl;have y1:=fun o=>(b1.alloc o).cell 0 _ rfl;rcases HGC.out with⟨hk0,hkc⟩|⟨hk0,hn0,hkc⟩|⟨hk0,hn0,hkc⟩|⟨hk0,hkc⟩|⟨hk0,hs64,hkc⟩
     ·have HKC:=Lib.hid hkc
      clear hkc
      go_wp2_with (at_builtin;refine wpList_app rfl (.tmp 24) (.tmp 28) 142 rfl w.heap.size 5 1 1 Tryz.underlying142 byteI v n _ rfl (hown1.alloc _) _ 1 [.int .u8 0] rfl (Sl.block (Blk.new w1 5 #[.int .u8 0]) 1 1 (Nat.le_refl _) (by decide)) rfl ?_ ?_ ?_ ?_ ?_)
      ·intro u hu;simp at hu;subst hu;rfl
      ·unfold maxLen;omega
      ·omega
      ·have:=hbw1.size;simp;omega
      ·intro v1 w2 hown2 hg2 hat2
       have b2:=(b1.alloc (.cells #[.int .u8 0] 5)).grown hg2 (fun e=>by have:=hlt1 _ e;omega);have hbw2:=below_app hbw1 hg2 hge1;have z0:=b2.cell 0 _ rfl;have z1:=b2.cell 1 _ rfl;have z2:=b2.cell 2 _ rfl;have R:=key_step HT.out HNL.out HL.out hnk hown2 (by rw[HKC.out];rfl) (by rw[HKC.out];rfl);go_wp2;go_roundw
       case rel=>exact⟨k+1,_,_,rfl,by omega,by go_num,R.1,zeros_step H.out HG.out HQ.out,R.2.1,R.2.2,hbw2⟩
       case measure=>simp[intOf];omega
     ·have HKC:=Lib.hid hkc
      clear hkc
      go_wp2_with (at_builtin;refine wpList_app rfl (.tmp 24) (.tmp 28) 142 rfl w.heap.size 5 1 1 Tryz.underlying142 byteI v n _ rfl (hown1.alloc _) _ 1 [.int .u8 1] rfl (Sl.block (Blk.new w1 5 #[.int .u8 1]) 1 1 (Nat.le_refl _) (by decide)) rfl ?_ ?_ ?_ ?_ ?_)
      ·intro u hu;simp at hu;subst hu;rfl
      ·unfold maxLen;omega
      ·omega
      ·have:=hbw1.size;simp;omega
      ·intro v1 w2 hown2 hg2 hat2
       have b2:=(b1.alloc (.cells #[.int .u8 1] 5)).grown hg2 (fun e=>by have:=hlt1 _ e;omega);have hbw2:=below_app hbw1 hg2 hge1;have z0:=b2.cell 0 _ rfl;have z1:=b2.cell 1 _ rfl;have z2:=b2.cell 2 _ rfl
       go_wp2_with (at_builtin;refine wpList_app rfl (.tmp 34) (.tmp 38) 142 rfl w.heap.size 5 1 1 Tryz.underlying142 byteI v1 (n+1) _ rfl (hown2.alloc _) _ 1 [.int .u8 0] rfl (Sl.block (Blk.new w2 5 #[.int .u8 0]) 1 1 (Nat.le_refl _) (by decide)) rfl ?_ ?_ ?_ ?_ ?_)
       ·intro u hu;simp at hu;subst hu;rfl
       ·unfold maxLen;omega
       ·omega
       ·have:=hbw2.size;simp;omega
       ·intro v2 w3 hown3 hg3 hat3
        have hbw3:=below_app hbw2 hg3 (own_ge hown2);have R:=key_step (m:=2) HT.out HNL.out HL.out hnk hown3 (by rw[HKC.out];rfl) (by rw[HKC.out];rfl);go_wp2;go_roundw
        case rel=>exact⟨k+1,_,_,rfl,by omega,by go_num,R.1,zeros_step H.out HG.out HQ.out,R.2.1,R.2.2,hbw3⟩
        case measure=>simp[intOf];omega
     ·have HKC:=Lib.hid hkc
      clear hkc
      go_wp2_with (at_builtin;refine wpList_app rfl (.tmp 24) (.tmp 28) 142 rfl w.heap.size 5 1 1 Tryz.underlying142 byteI v n _ rfl (hown1.alloc _) _ 1 [.int .u8 1] rfl (Sl.block (Blk.new w1 5 #[.int .u8 1]) 1 1 (Nat.le_refl _) (by decide)) rfl ?_ ?_ ?_ ?_ ?_)
      ·intro u hu;simp at hu;subst hu;rfl
      ·unfold maxLen;omega
      ·omega
      ·have:=hbw1.size;simp;omega
      ·intro v1 w2 hown2 hg2 hat2
       have b2:=(b1.alloc (.cells #[.int .u8 1] 5)).grown hg2 (fun e=>by have:=hlt1 _ e;omega);have hbw2:=below_app hbw1 hg2 hge1;have z0:=b2.cell 0 _ rfl;have z1:=b2.cell 1 _ rfl;have z2:=b2.cell 2 _ rfl
       go_wp2_with (at_builtin;refine wpList_app rfl (.tmp 34) (.tmp 38) 142 rfl w.heap.size 5 1 1 Tryz.underlying142 byteI v1 (n+1) _ rfl (hown2.alloc _) _ 1 [.int .u8 1] rfl (Sl.block (Blk.new w2 5 #[.int .u8 1]) 1 1 (Nat.le_refl _) (by decide)) rfl ?_ ?_ ?_ ?_ ?_)
       ·intro u hu;simp at hu;subst hu;rfl
       ·unfold maxLen;omega
       ·omega
       ·have:=hbw2.size;simp;omega
       ·intro v2 w3 hown3 hg3 hat3
        have hbw3:=below_app hbw2 hg3 (own_ge hown2);have R:=key_step (m:=2) HT.out HNL.out HL.out hnk hown3 (by rw[HKC.out];rfl) (by rw[HKC.out];rfl);go_wp2;go_roundw
        case rel=>exact⟨k+1,_,_,rfl,by omega,by go_num,R.1,zeros_step H.out HG.out HQ.out,R.2.1,R.2.2,hbw3⟩
        case measure=>simp[intOf];omega
     ·have HKC:=Lib.hid hkc
      clear hkc
      go_wp2_with (at_builtin;refine wpList_app rfl (.tmp 24) (.tmp 28) 142 rfl w.heap.size 5 1 1 Tryz.underlying142 byteI v n _ rfl (hown1.alloc _) _ 1 [.int .u8 2] rfl (Sl.block (Blk.new w1 5 #[.int .u8 2]) 1 1 (Nat.le_refl _) (by decide)) rfl ?_ ?_ ?_ ?_ ?_)
      ·intro u hu;simp at hu;subst hu;rfl
      ·unfold maxLen;omega
      ·omega
      ·have:=hbw1.size;simp;omega
      ·intro v1 w2 hown2 hg2 hat2
       have b2:=(b1.alloc (.cells #[.int .u8 2] 5)).grown hg2 (fun e=>by have:=hlt1 _ e;omega);have hbw2:=below_app hbw1 hg2 hge1;have z0:=b2.cell 0 _ rfl;have z1:=b2.cell 1 _ rfl;have z2:=b2.cell 2 _ rfl;have hub:=u64_bias x.n hxn.1 hxn.2;have HUB:=Lib.hid hub;generalize bias x.n=bm at hub HUB HKC
       go_wp2_with fail
       obtain⟨wo,hwo⟩: ∃wo:World,wo=w2:=⟨_,rfl⟩;subst hwo;clear y1 z0 z1 z2 hub
       go_loopw[4,9] (fun b i wr2=> ∃(j:Nat) (vb:Value),vb=b∧j≤8∧i= .int .i64 (7-(j:Int))∧wr2.ownsRow w.heap.size 5 1 vb (n+1+j) (bytesV (keyRow (l.take k))++(.int .u8 2::bytesV ((be8 bm).take j)))∧Below w.heap.size w wr2)
        (fun _ i _=>(intOf i+1).toNat)
       case atStart=>exact⟨0,_,rfl,by omega,rfl,by simpa[bytesV]using hown2,hbw2⟩
       case round=>
        obtain⟨j,vb,rfl,hj,rfl,hownj,hbwj⟩:=hrel;by_cases hj8:j<8
        ·have hbj:=byteAt_shift bm j hj8
         have HBT:=Lib.hid (be8_take bm j hj8)
         go_wp2_with (at_builtin;refine wpList_app rfl (.tmp 50) (.tmp 56) 142 rfl w.heap.size 5 1 1 Tryz.underlying142 byteI vb (n+1+j) _ rfl (hownj.alloc _) _ 1 [.int .u8 ((byteAt bm j).toNat:Int)] rfl (Sl.block (Blk.new _ 5 #[.int .u8 ((byteAt bm j).toNat:Int)]) 1 1 (Nat.le_refl _) (by decide)) rfl ?_ ?_ ?_ ?_ ?_)
         ·intro u hu;simp at hu;subst hu;rfl
         ·unfold maxLen;omega
         ·omega
         ·have:=hbwj.size;simp;omega
         ·intro v2 w3 hown3 hg3 hat3
          have hbw3:=below_app hbwj hg3 (own_ge hownj)
          have hown3':w3.ownsRow w.heap.size 5 1 v2 (n+1+(j+1)) (bytesV (keyRow (l.take k))++(.int .u8 2::bytesV ((be8 bm).take (j+1)))):=by
           rw[HBT.out,bytesV_append];simpa[bytesV,byteV,Nat.add_assoc]using hown3
          clear hbj;go_wp2;go_roundw
          case rel=>exact⟨j+1,_,rfl,by omega,by congr 1;omega,hown3',hbw3⟩
          case measure=>simp[intOf];omega
        ·obtain rfl:j=8:=by omega
         have hfull:(be8 bm).take 8=be8 bm:=List.take_of_length_le (by rw[be8_len];omega);rw[hfull]at hownj;have R:=key_step (m:=9) HT.out HNL.out HL.out hnk hownj (by rw[HKC.out];rfl) (by rw[HKC.out,List.length_cons,be8_len]);clear hfull;go_wp2;go_roundw
         case rel=>exact⟨k+1,_,_,rfl,by omega,by go_num,R.1,zeros_step H.out HG.out HQ.out,R.2.1,R.2.2,hbwj⟩
         case measure=>simp[intOf];omega
     ·have HKC:=Lib.hid hkc
      clear hkc
      go_wp2_with (at_builtin;refine wpList_app rfl (.tmp 24) (.tmp 28) 142 rfl w.heap.size 5 1 1 Tryz.underlying142 byteI v n _ rfl (hown1.alloc _) _ 1 [.int .u8 3] rfl (Sl.block (Blk.new w1 5 #[.int .u8 3]) 1 1 (Nat.le_refl _) (by decide)) rfl ?_ ?_ ?_ ?_ ?_)
      ·intro u hu;simp at hu;subst hu;rfl
      ·unfold maxLen;omega
      ·omega
      ·have:=hbw1.size;simp;omega
      ·intro v1 w2 hown2 hg2 hat2
       have b2:=(b1.alloc (.cells #[.int .u8 3] 5)).grown hg2 (fun e=>by have:=hlt1 _ e;omega);have hbw2:=below_app hbw1 hg2 hge1;have z0:=b2.cell 0 _ rfl;have z1:=b2.cell 1 _ rfl;have z2:=b2.cell 2 _ rfl
       go_wp2_with fail
       have hmx:Mx w2:=HM.out.below hbw2;refine(replaceAll_any x.s _ hs64 hmx).mono ?_;rintro e w3 ⟨rfl,hb3⟩;have hown3:=own_below hown2 hb3;have hbw3:=below_trans hbw2 hb3;have hel:=esc_len x.s.toList;rw[toList_len]at hel;have hsz3:=str_size (esc x.s.toList);have HSZ:=Lib.hid hsz3;have hsc:Lib.strCells (str (esc x.s.toList))=bytesV (esc x.s.toList):=by simp[Lib.strCells,bytesV,byteV,str]
       have HSC:=Lib.hid hsc;have hm128:(str (esc x.s.toList)).size≤128:=by rw[hsz3];omega
       clear hsz3 hsc y1 z0 z1 z2;obtain⟨bi,hbi,hbi1,hbi2,hbi3⟩:=byteInfo
       go_wp2_with (at_builtin;refine Lib.wpList_append_own_string _ rfl (.tmp 60) (.tmp 63) 142 9 rfl w.heap.size 5 bi Tryz.underlying142 Tryz.underlying9 hbi hbi1 hbi2 hbi3 v1 (n+1) _ rfl hown3 (str (esc x.s.toList)) rfl ?_ ?_ hbw3.size ?_)
       ·unfold maxLen;omega
       ·omega
       intro v2 w4 hown4 hg4 hat4;have hbw4:=below_grown hbw3 hg4 (own_ge hown3)
       go_wp2_with (at_builtin;refine wpList_app rfl (.tmp 65) (.tmp 66) 142 rfl w.heap.size 5 1 1 Tryz.underlying142 byteI v2 (n+1+(str (esc x.s.toList)).size) _ rfl (hown4.alloc _) _ 2 [.int .u8 0,.int .u8 1] rfl (Sl.block (Blk.new w4 5 #[.int .u8 0,.int .u8 1]) 2 2 (Nat.le_refl _) (by decide)) rfl ?_ ?_ ?_ ?_ ?_)
       ·intro u hu;simp at hu;rcases hu with rfl|rfl<;>rfl
       ·unfold maxLen;omega
       ·omega
       ·have:=hbw4.size;simp;omega
       intro v3 w5 hown5 hg5 hat5;have hbw5:=below_app hbw4 hg5 (own_ge hown4)
       have hown6:w5.ownsRow w.heap.size 5 1 v3 (n+(1+(str (esc x.s.toList)).size+2)) (bytesV (keyRow (l.take k))++(.int .u8 3::(bytesV (esc x.s.toList)++[.int .u8 0,.int .u8 1]))):=by
        rw[HSC.out]at hown5;simpa[Nat.add_assoc]using hown5
       have R:=key_step HT.out HNL.out HL.out hnk hown6 (by rw[HKC.out];simp[bytesV,byteV]) (by rw[HKC.out,HSZ.out];simp;omega);go_wp2;go_roundw
       case rel=>exact⟨k+1,_,_,rfl,by omega,by go_num,R.1,zeros_step H.out HG.out HQ.out,R.2.1,R.2.2,hbw5⟩
       case measure=>simp[intOf];omega
    ·have e1:=Lib.hid (show keyR l=(⟨#[]⟩,checkV x)from by
      have h0:keyErr l=checkV x:=by rw[HN.out,firstNZ_hit H.out HG.out hq]
      unfold keyR;rw[h0,if_pos hq])
     have hq':=beqF hq;clear hq
     go_wp2_with fail
     refine(check_val x _ hxs).mono ?_;rintro e w1 ⟨rfl,hb1⟩;go_wp2
     go_ret2
     exact⟨by rw[e1.out];rfl,below_trans (below_trans hbw (below_alloc _ _)) hb1⟩
   ·obtain rfl:k=l.length:=by omega
    have e1:=Lib.hid (show keyR l=(str (keyRow l),0)from by
     have h0:keyErr l=0:=by rw[HN.out];exact firstNZ_none (by have:=H.out;rwa[List.take_of_length_le (by simp)]at this)
     unfold keyR;rw[h0];rfl)
    have hsl:=Sl.of_own hown;obtain⟨A',c',rfl,hnc,-,hA0,hcell⟩:=hsl
    have hcv:(convert 142 9 (.slice A' n c')).run Tryz.prog wr= .ok (.string (str (keyRow (l.take l.length)))) wr:=by
     cases hks:keyRow (l.take l.length)with
     |nil=>
      have hn0:n=0:=by rw[HNL.out,hks];rfl
      subst hn0;cases A' with
      |none=>
       rw[run_convert_bytes_nil wr 142 5 Tryz.underlying142 Tryz.underlying5 0 c' 9 Tryz.underlying9];rfl
      |some a=>
       have:=run_convert_bytes_back wr 142 9 5 a c' [] Tryz.underlying142 Tryz.underlying5 Tryz.underlying9 (by simp);exact this
     |cons q r=>
      obtain⟨gb,go,rfl,hcc⟩:=hcell (by rw[hks];simp[bytesV]);have hn1:n=(q::r).length:=by rw[HNL.out,hks]
      subst hn1;rw[hks]at hcc;exact run_str wr gb go c' (q::r) hcc
    clear hcell hA0;go_wp2
    go_ret2
    refine⟨?_,hbw⟩;rw[e1.out];rfl
end Go.Proofs.YtjhbeecmdgglgaaGreatDoor
namespace Go.Proofs.YtjhbeecmdgglgaaGreatDoor
open Go.RowKit
theorem valJ:EInfo Tryz.prog 68 3 32:=by
 have h:(Tryz.prog.info? 68).map (fun i=>(i.zero,i.size,i.bytes))=some (some (.agg #[.int .i64 0,.int .i64 0,.string ⟨#[]⟩]),3,32):=by kernel_rfl
 obtain⟨i,hi,h1,h2,h3⟩:=info_parts h;exact⟨i,_,hi,h1,h2,h3,rfl,by omega⟩
theorem val_cell (x:Val): ∀u∈x.cells,u.oneCell'=true:=by
 intro u hu;simp[Val.cells]at hu;rcases hu with rfl|rfl|rfl<;>rfl
theorem rowCells_len (l:List Val):(rowCells l).length=l.length*3:=flat_len Val.cells_len l
theorem rowCells_one (l:List Val): ∀u∈rowCells l,u.oneCell'=true:=by
 intro u hu;obtain⟨x,-,hx⟩:=List.mem_flatMap.1 hu;exact val_cell x u hx
theorem own_emptyT (W:World)(base:Nat)(t:TypeId)(size:Nat)(h:base≤W.heap.size):(W.alloc (.cells #[] t)).ownsRow base t size (.slice (some ⟨W.heap.size,0,none⟩) 0 0) 0 []:=
 ⟨by simp,.inr ⟨_,0,#[],rfl,h,heap_alloc_new W _,Nat.le_refl _,by decide,by simp,by simp⟩⟩
theorem sl_grown {w w':World}{v:Value}{n:Nat}{cs:List Value}{row:Option Nat}(h:Sl w v n cs)(hg:w.grownBy w' row)(hr: ∀k,v.ownBlock=some k→row≠some k):Sl w' v n cs:=by
 obtain⟨A,c,rfl,h1,h2,h0,h3⟩:=h;refine⟨A,c,rfl,h1,h2,h0,fun hne=> ?_⟩;obtain⟨b,off,rfl,hc⟩:=h3 hne;refine⟨b,off,rfl,fun j u hj=> ?_⟩;have hcc:=hc j u hj;have hlt:=World.block_lt_of_cell? w _ hcc;rw[World.cell?_of_block (hg.block b hlt (fun e=>hr b rfl e.symm))];exact hcc
theorem own_prefix {w:World}{base:Nat}{e:TypeId}{size g n cap k:Nat}{xs:List Value}(h:w.ownsRow base e size (.slice (some ⟨g,0,none⟩) n cap) n xs)(hk:k≤n):w.ownsRow base e size (.slice (some ⟨g,0,none⟩) k cap) k (xs.take (k*size)):=by
 have hx:=h.1;have hks:k*size≤n*size:=Nat.mul_le_mul_right _ hk;refine⟨by rw[List.length_take,hx];omega,?_⟩;rcases h.2 with⟨h',-⟩|⟨g',cap',cur,h',hb,hg,hn,hc,hsz,ht⟩
 ·cases h'
 ·injection h' with e1 e2 e3
  injection e1 with e1;injection e1 with e1;subst e1 e3;refine .inr ⟨g,cap,cur,rfl,hb,hg,by omega,hc,hsz,?_⟩;rw[←ht,List.take_take,Nat.min_eq_left hks]
theorem run_copy_wide {P:Program}(w:World)(dT sT ty elem:TypeId)(g o dLen dCap:Nat)(a:Addr)(sLen sCap size:Nat)(cur:Array Value)(t:TypeId)(cs:List Value)
 (hu:P.underlying dT=some (.slice elem)) (hs:(P.info? elem).map (·.size)=some size)
 (hg:w.heap[g]?=some (.cells cur t (0,0))) (hn:cs.length=Nat.min sLen dLen*size)
 (hsrc: ∀j v,cs[j]?=some v→w.cell? (a.add j)=some v) (hfit:o+cs.length≤cur.size) (h1: ∀v∈cs,v.oneCell'=true):
 (Builtin.copy_ #[dT,sT] ty #[.slice (some ⟨g,o,none⟩) dLen dCap,.slice (some a) sLen sCap]).run P w=
  .ok (goInt (Nat.min sLen dLen)) (w.setRow g (cur.toList.take o++cs++cur.toList.drop (o+cs.length)).toArray):=by
 have hl:=run_loadCells_list (P:=P) w a cs hsrc;have hst:=run_storeCells_at P g o t cs 0 cur w hg (by simpa using hfit) h1;cases hq:P.info? elem with
 |none=>simp[hq]at hs
 |some i=>
  have hi:i.size=size:=by simpa[hq]using hs
  simp[Builtin.copy_,run_underlying hu,Builtin.lenOf,Builtin.firstCells,sizeOf,typeInfo,hq,hi,←hn,hl,hst]
theorem flat_take {α:Type}{f:α→List Value}{size:Nat}(hf: ∀a,(f a).length=size)(l:List α)(k:Nat):(l.flatMap f).take (k*size)=(l.take k).flatMap f:=by
 induction l generalizing k with
 |nil=>simp
 |cons a l ih=>
  cases k with
  |zero=>simp
  |succ k=>rw[List.flatMap_cons,List.take_succ_cons,List.flatMap_cons,List.take_append,hf a,List.take_of_length_le (by rw[hf a,Nat.add_mul];omega),←ih k];congr 2;rw[Nat.add_mul];omega
theorem flat_drop {α:Type}{f:α→List Value}{size:Nat}(hf: ∀a,(f a).length=size)(l:List α)(k:Nat):(l.flatMap f).drop (k*size)=(l.drop k).flatMap f:=by
 induction l generalizing k with
 |nil=>simp
 |cons a l ih=>
  cases k with
  |zero=>simp
  |succ k=>rw[List.flatMap_cons,List.drop_succ_cons,List.drop_append,hf a,List.drop_of_length_le (by rw[hf a,Nat.add_mul];omega),List.nil_append,←ih k];congr 1;rw[Nat.add_mul];omega
theorem grown_of_below {w w':World}(h:Below w.heap.size w w')(row:Option Nat):w.grownBy w' row:=⟨h.os,h.tape,h.output,h.size,fun k hk _=>h.block k hk⟩
theorem grown_trans {a b c:World}{row:Option Nat}(h:a.grownBy b row)(k:b.grownBy c row):a.grownBy c row:=⟨k.os.trans h.os,k.tape.trans h.tape,k.output.trans h.output,Nat.le_trans h.size k.size,fun j hj hn=>(k.block j (Nat.lt_of_lt_of_le hj h.size) hn).trans (h.block j hj hn)⟩
theorem grown_new {a b c:World}{row row':Option Nat}(h:a.grownBy b row)(k:b.grownBy c row')(hr: ∀j,row'=some j→row=some j∨a.heap.size≤j):a.grownBy c row:=⟨k.os.trans h.os,k.tape.trans h.tape,k.output.trans h.output,Nat.le_trans h.size k.size,fun j hj hn=>(k.block j (Nat.lt_of_lt_of_le hj h.size) (fun e=>by
 rcases hr j e.symm with h1|h1
 ·exact hn h1.symm
 ·omega)).trans (h.block j hj hn)⟩
theorem drew_grown {w w':World}{row:Option Nat}(h:w.drew.grownBy w' row):w.grownBy w' row:=⟨h.os,h.tape,h.output,h.size,h.block⟩
theorem grown_drew {w w':World}{row:Option Nat}(h:w.grownBy w' row):w.grownBy w'.drew row:=⟨h.os,h.tape,h.output,h.size,h.block⟩
theorem run_copy_zero {P:Program}(w:World)(dT sT ty elem:TypeId)(d s:Option Addr)(dLen dCap sLen sCap:Nat)
 (hu:P.underlying dT=some (.slice elem)) (hs:((P.info? elem).map (·.size)).isSome=true) (hn:Nat.min sLen dLen=0):
 (Builtin.copy_ #[dT,sT] ty #[.slice d dLen dCap,.slice s sLen sCap]).run P w= .ok (goInt 0) w:=by
 cases hq:P.info? elem with
 |none=>simp[hq]at hs
 |some i=>cases d<;>cases s<;>simp[Builtin.copy_,run_underlying hu,Builtin.lenOf,Builtin.firstCells,sizeOf,typeInfo,hq,hn,storeCells,loadCells,loadCellsFrom]
theorem step_copy_run {P:Program}{ops:Array Oper}{o:Oper}{a:Act}{w w':World}{K:Act→World→Prop}{Q:Exit→Act→World→Prop}{E:Prop}{r:Value}(hgd:o.guard=none)(d s:Operand)(dT sT:TypeId)
 (ho:o.op= .call {callee:= .builtin .copy,args:= #[d,s],argTypes:= #[dT,sT]}) (dv sv:Value) (hd:a.eval d=dv) (hs:a.eval s=sv) (hrun:(Builtin.copy_ #[dT,sT] o.type #[dv,sv]).run P w= .ok r w')
 (h:K (a.put o.dst r) w'):if Region.wanted o (yielded ops a.tmps)=true then Oper.wp P o a w K Q else E:=by
 rw[if_pos (by simp[Region.wanted,hgd])];unfold Oper.wp;simp[execOp,ho,resolve,invoke,builtin,hd,hs,hrun,Result.andThen];exact h
theorem sl_grown2 {w w':World}{v:Value}{n:Nat}{cs:List Value}{row:Option Nat}(h:Sl w v n cs)(hg:w.grownBy w' row)(hr:cs≠[]→ ∀k,v.ownBlock=some k→row≠some k):Sl w' v n cs:=by
 by_cases hne:cs=[]
 ·obtain⟨A,c,rfl,h1,h2,h0,h3⟩:=h
  exact⟨A,c,rfl,h1,h2,h0,fun h=>absurd hne h⟩
 ·exact sl_grown h hg (hr hne)
theorem sl_set {w:World}{v:Value}{n:Nat}{cs:List Value}(h:Sl w v n cs){p:Addr}(hp:cs≠[]→ ∀k,v.ownBlock=some k→k≠p.block)(u:Value):Sl (w.setCell p u) v n cs:=by
 obtain⟨A,c,rfl,h1,h2,h0,h3⟩:=h;refine⟨A,c,rfl,h1,h2,h0,fun hne=> ?_⟩;obtain⟨b,off,rfl,hc⟩:=h3 hne;refine⟨b,off,rfl,fun j x hj=> ?_⟩;have hcc:=hc j x hj;rw[World.cell?_of_block (Below.heap_setCell w p u b (hp hne b rfl))];exact hcc
end Go.Proofs.YtjhbeecmdgglgaaGreatDoor
