/-A text in a key: what value.text reads. A key read back: the plain law. Eight bytes put together: shift and or. The reference's front and Back: the pl -/
import Derived.Test.YtjhbeecmdgglgaaGreatDoorGrpW7
import Derived.Maps.Views
import Derived.Maps.OwnSet
import Derived.Test.YtjhbeecmdgglgaaGreatDoorGrpW9
set_option linter.unusedSimpArgs false
set_option linter.unusedVariables false
namespace Go.Proofs.YtjhbeecmdgglgaaGreatDoor
open Go.RowKit
def txtF:List UInt8→Nat→Option (List UInt8×Nat)
 |[],_=>none
 |_::_,0=>none
 |c::r,m+1=>
  if c≠0 then(txtF r m).map fun p=>(c::p.1,p.2+1)
  else match r with
   |[]=>none
   |d::r'=>if d=1 then some ([],2)else if d=255 then(txtF r' m).map fun p=>(0::p.1,p.2+2)else none
theorem txt_plain {c:UInt8}(r:List UInt8)(m:Nat)(hc:c≠0):txtF (c::r) (m+1)=(txtF r m).map fun p=>(c::p.1,p.2+1):=by
 rw[txtF.eq_def];simp[hc]
theorem txt_end (m:Nat):txtF [0] (m+1)=none:=by rw[txtF.eq_def];rfl
theorem txt_stop (r:List UInt8)(m:Nat):txtF (0::1::r) (m+1)=some ([],2):=by rw[txtF.eq_def];rfl
theorem txt_zero (r:List UInt8)(m:Nat):txtF (0::255::r) (m+1)=(txtF r m).map fun p=>(0::p.1,p.2+2):=by rw[txtF.eq_def];rfl
theorem txt_bad {d:UInt8}(r:List UInt8)(m:Nat)(h1:d≠1)(h2:d≠255):txtF (0::d::r) (m+1)=none:=by rw[txtF.eq_def];simp[h1,h2]
theorem txt_full (l:List UInt8):txtF l 0=none:=by cases l<;>rfl
theorem txt_nil (m:Nat):txtF [] m=none:=by cases m<;>rfl
def TxtRel (l:List UInt8) (i:Nat) (b:List UInt8):Prop:=txtF l 65=(txtF (l.drop i) (65-b.length)).map fun p=>(b++p.1,i+p.2)
theorem rel_start (l:List UInt8):TxtRel l 0 []:=by
 unfold TxtRel;simp
theorem rel_plain {l:List UInt8}{i:Nat}{b:List UInt8}{c:UInt8}(h:TxtRel l i b)(hd:l[i]?=some c)(hc:c≠0)(hb:b.length≤64):TxtRel l (i+1) (b++[c]):=by
 unfold TxtRel at*;obtain⟨hlt,rfl⟩:=List.getElem?_eq_some_iff.1 hd;rw[h,List.drop_eq_getElem_cons hlt,show 65-b.length=(64-b.length)+1 from by omega,txt_plain _ _ hc,Option.map_map];rw[show 65-(b++[l[i]]).length=64-b.length from by simp]
 congr 1
 funext p
 simp[Nat.add_assoc,Nat.add_comm 1]
theorem rel_zero {l:List UInt8}{i:Nat}{b:List UInt8}(h:TxtRel l i b)(hd:l[i]?=some 0)(hd2:l[i+1]?=some 255)(hb:b.length≤64):TxtRel l (i+2) (b++[0]):=by
 unfold TxtRel at*;obtain⟨hlt,e1⟩:=List.getElem?_eq_some_iff.1 hd;obtain⟨hlt2,e2⟩:=List.getElem?_eq_some_iff.1 hd2;rw[h,List.drop_eq_getElem_cons hlt,List.drop_eq_getElem_cons hlt2,e1,e2,show 65-b.length=(64-b.length)+1 from by omega,txt_zero,Option.map_map];rw[show 65-(b++[(0:UInt8)]).length=64-b.length from by simp]
 congr 1
 funext p
 simp[Nat.add_assoc,Nat.add_comm 2]
theorem rel_end1 {l:List UInt8}{i:Nat}{b:List UInt8}(h:TxtRel l i b)(hi:l.length≤i):txtF l 65=none:=by
 rw[h,List.drop_eq_nil_of_le hi,txt_nil];rfl
theorem rel_end2 {l:List UInt8}{i:Nat}{b:List UInt8}(h:TxtRel l i b)(hb:64<b.length):txtF l 65=none:=by
 rw[h,show 65-b.length=0 from by omega,txt_full];rfl
theorem rel_end3 {l:List UInt8}{i:Nat}{b:List UInt8}(h:TxtRel l i b)(hd:l[i]?=some 0)(hi:l.length=i+1)(hb:b.length≤64):txtF l 65=none:=by
 obtain⟨hlt,e1⟩:=List.getElem?_eq_some_iff.1 hd;rw[h,List.drop_eq_getElem_cons hlt,e1,List.drop_eq_nil_of_le (by omega),show 65-b.length=(64-b.length)+1 from by omega,txt_end];rfl
theorem rel_end4 {l:List UInt8}{i:Nat}{b:List UInt8}{d:UInt8}(h:TxtRel l i b)(hd:l[i]?=some 0)(hd2:l[i+1]?=some d)(h1:d≠1)(h2:d≠255)(hb:b.length≤64):txtF l 65=none:=by
 obtain⟨hlt,e1⟩:=List.getElem?_eq_some_iff.1 hd;obtain⟨hlt2,e2⟩:=List.getElem?_eq_some_iff.1 hd2;rw[h,List.drop_eq_getElem_cons hlt,List.drop_eq_getElem_cons hlt2,e1,e2,show 65-b.length=(64-b.length)+1 from by omega,txt_bad _ _ h1 h2];rfl
theorem rel_stop {l:List UInt8}{i:Nat}{b:List UInt8}(h:TxtRel l i b)(hd:l[i]?=some 0)(hd2:l[i+1]?=some 1)(hb:b.length≤64):txtF l 65=some (b,i+2):=by
 obtain⟨hlt,e1⟩:=List.getElem?_eq_some_iff.1 hd;obtain⟨hlt2,e2⟩:=List.getElem?_eq_some_iff.1 hd2;rw[h,List.drop_eq_getElem_cons hlt,List.drop_eq_getElem_cons hlt2,e1,e2,show 65-b.length=(64-b.length)+1 from by omega,txt_stop];simp
def textR (l:List UInt8):ByteArray×Int×Bool:=match txtF l 65 with
 |some p=>(str p.1,(p.2:Int),true)
 |none=>(⟨#[]⟩,0,false)
theorem textR_no {l:List UInt8}(h:txtF l 65=none):textR l=(⟨#[]⟩,0,false):=by unfold textR;rw[h]
theorem textR_yes {l b:List UInt8}{n:Nat}(h:txtF l 65=some (b,n)):textR l=(str b,(n:Int),true):=by unfold textR;rw[h]
set_option maxRecDepth 10000 in
theorem run_str_own {wr:World}{base n:Nat}{A:Option Addr}{c:Nat}{l:List UInt8}(h:wr.ownsRow base 5 1 (.slice A n c) n (bytesV l))(hn:n=l.length):
 (convert 142 9 (.slice A n c)).run Tryz.prog wr= .ok (.string (str l)) wr:=by
 obtain⟨A',c',e,-,-,-,hcell⟩:=Sl.of_own h;injection e with e1 e2 e3;subst e1 e3;cases l with
 |nil=>
  have hn0:n=0:=hn;subst hn0;cases A with
  |none=>
   rw[run_convert_bytes_nil wr 142 5 Tryz.underlying142 Tryz.underlying5 0 c 9 Tryz.underlying9];rfl
  |some a=>exact run_convert_bytes_back wr 142 9 5 a c [] Tryz.underlying142 Tryz.underlying5 Tryz.underlying9 (by simp)
 |cons q r=>
  obtain⟨gb,go,rfl,hcc⟩:=hcell (by simp[bytesV]);subst hn;exact run_str wr gb go c (q::r) hcc
theorem byte_ne {c:UInt8}{n:Nat}(hn:n<256)(h:c≠UInt8.ofNat n):((c.toNat:Int)==(n:Int))=false:=by
 simp only[beq_eq_false_iff_ne];intro e;apply h;apply UInt8.toNat_inj.1;rw[UInt8.toNat_ofNat',Nat.mod_eq_of_lt hn];omega
set_option maxHeartbeats 2000000 in
set_option maxRecDepth 10000 in
theorem text_any (s:ByteArray)(w:World)(hs:s.size≤4611686018427387904):
 Calls Tryz.prog 104 #[.string s] w fun e w'=>e= .returned (.tuple #[.string (textR s.toList).1,.int .i64 (textR s.toList).2.1,.bool (textR s.toList).2.2])∧Below w.heap.size w w':=by
 go_enter Tryz.func104,Tryz.ntmps104
 go_wp2
 go_loopw[5,6] (fun b i wr=> ∃(k:Nat) (v:Value) (x:List UInt8),v=b∧k≤s.size∧i= .int .i64 k∧x.length≤65∧Hid (TxtRel s.toList k x)∧wr.ownsRow w.heap.size 5 1 v x.length (bytesV x)∧Below w.heap.size w wr)
  (fun _ i _=>s.size-(intOf i).toNat)
 case atStart=>exact⟨0,_,[],rfl,by omega,rfl,by simp,rel_start _,World.ownsRow_nil _ _ _ _,Below.refl _ _⟩
 case round=>
  obtain⟨k,v,x,rfl,hk,rfl,hx,HR,hown,hbw⟩:=hrel;obtain⟨A,c,rfl,hxc,-⟩:=Sl.of_own hown;by_cases hlt:k<s.size
  ·by_cases hx64:x.length≤64
   ·have hat:=toList_at s k hlt
    have HA:=Lib.hid hat;clear hat;by_cases hc0:s[k]=0
    ·have HA0:=Lib.hid (show s.toList[k]?=some 0 from by rw[HA.out,hc0])
     by_cases hk1:k+1<s.size
     ·have HD:=Lib.hid (toList_at s (k+1) hk1)
      by_cases hd1:s[k+1]=1
      ·have HD1:=Lib.hid (show s.toList[k+1]?=some 1 from by rw[HD.out,hd1])
       have e1:=Lib.hid (textR_yes (rel_stop HR.out HA0.out HD1.out hx64));have hcv:=run_str_own hown rfl;go_wp2
       go_ret3
       exact⟨by rw[e1.out];rfl,hbw⟩
      ·by_cases hd2:s[k+1]=255
       ·have HD1:=Lib.hid (show s.toList[k+1]?=some 255 from by rw[HD.out,hd2])
        clear hd1
        go_wp2_with (at_builtin;refine wpList_app rfl (.tmp 54) (.tmp 55) 142 rfl w.heap.size 5 1 1 Tryz.underlying142 byteI _ x.length _ rfl (hown.alloc _) _ 1 [.int .u8 0] rfl (Sl.block (Blk.new wr 5 #[.int .u8 0]) 1 1 (Nat.le_refl _) (by decide)) rfl ?_ ?_ ?_ ?_ ?_)
        ·intro u hu;simp at hu;subst hu;rfl
        ·unfold maxLen;omega
        ·omega
        ·have:=hbw.size;simp;omega
        ·intro v2 w3 hown3 hg3 hat3
         have hbw3:=below_app hbw hg3 (own_ge hown);have R:=rel_zero HR.out HA0.out HD1.out hx64;have HRR:=Lib.hid R;clear R;go_wp2;go_roundw
         case rel=>exact⟨k+2,_,x++[0],rfl,by omega,by go_num,by simp;omega,HRR.out,by simpa[bytesV,byteV]using hown3,hbw3⟩
         case measure=>simp[intOf];omega
       ·have hb1:=(show((s[k+1].toNat:Int)==1)=false from byte_ne (n:=1) (by omega) hd1)
        have hb2:=(show((s[k+1].toNat:Int)==255)=false from byte_ne (n:=255) (by omega) hd2);have e1:=Lib.hid (textR_no (rel_end4 HR.out HA0.out HD.out hd1 hd2 hx64));have hb3:((s[k+1].toNat:Int) != 1)=true:=by simp only[bne,hb1];rfl
        have hb4:((s[k+1].toNat:Int) != 255)=true:=by simp only[bne,hb2];rfl
        have hb5:(((k:Int)+1)==(s.size:Int))=false:=by simp;omega
        clear hd1 hd2;go_wp2
        go_ret3
        exact⟨by rw[e1.out];rfl,hbw⟩
     ·have hke:k+1=s.size:=by omega
      have e1:=Lib.hid (textR_no (rel_end3 HR.out HA0.out (by rw[toList_len];omega) hx64));have hb0:(((k:Int)+1)==(s.size:Int))=true:=by simp;omega
      clear hke;go_wp2
      go_ret3
      exact⟨by rw[e1.out];rfl,hbw⟩
    ·have hb:=byte_ne (n:=0) (by omega) hc0
     have HC:=Lib.hid hc0;clear hc0
     go_wp2_with (at_builtin;refine wpList_app rfl (.tmp 22) (.tmp 26) 142 rfl w.heap.size 5 1 1 Tryz.underlying142 byteI _ x.length _ rfl (hown.alloc _) _ 1 [.int .u8 (s[k].toNat:Int)] rfl (Sl.block (Blk.new wr 5 #[.int .u8 (s[k].toNat:Int)]) 1 1 (Nat.le_refl _) (by decide)) rfl ?_ ?_ ?_ ?_ ?_)
     ·intro u hu;simp at hu;subst hu;rfl
     ·unfold maxLen;omega
     ·omega
     ·have:=hbw.size;simp;omega
     ·intro v2 w3 hown3 hg3 hat3
      have hbw3:=below_app hbw hg3 (own_ge hown);have R:=rel_plain HR.out HA.out HC.out hx64;have HRR:=Lib.hid R;clear R hb;go_wp2;go_roundw
      case rel=>exact⟨k+1,_,x++[s[k]],rfl,by omega,by go_num,by simp;omega,HRR.out,by simpa[bytesV,byteV]using hown3,hbw3⟩
      case measure=>simp[intOf];omega
   ·have e1:=Lib.hid (textR_no (rel_end2 HR.out (by omega)))
    go_wp2
    go_ret3
    exact⟨by rw[e1.out];rfl,hbw⟩
  ·have e1:=Lib.hid (textR_no (rel_end1 HR.out (by rw[toList_len];omega)))
   go_wp2
   go_ret3
   exact⟨by rw[e1.out];rfl,hbw⟩
end Go.Proofs.YtjhbeecmdgglgaaGreatDoor
namespace Go.Proofs.YtjhbeecmdgglgaaGreatDoor
open Go.RowKit
theorem txt_make (b:List UInt8): ∀(m:Nat) (r:List UInt8),b.length<m→txtF (esc b++(0::1::r)) m=some (b,(esc b).length+2):=by
 induction b with
 |nil=>
  intro m r h;obtain⟨m,rfl⟩: ∃q,m=q+1:=⟨m-1,by simp at h;omega⟩;exact txt_stop r m
 |cons c b ih=>
  intro m r h;obtain⟨m,rfl⟩: ∃q,m=q+1:=⟨m-1,by simp at h;omega⟩;have hm:b.length<m:=by simp at h;omega
  rw[esc_cons];by_cases hc:c=0
  ·subst hc
   rw[if_pos rfl,List.append_assoc];show txtF (0::255::(esc b++(0::1::r))) (m+1)=_;rw[txt_zero,ih m r hm];simp
  ·rw[if_neg hc,List.append_assoc]
   show txtF (c::(esc b++(0::1::r))) (m+1)=_;rw[txt_plain _ _ hc,ih m r hm];simp
theorem txt_back: ∀(k:Nat) (l:List UInt8) (m:Nat) (b:List UInt8) (n:Nat),l.length≤k→txtF l m=some (b,n)→l=esc b++(0::1::l.drop n)∧n=(esc b).length+2∧b.length<m:=by
 intro k
 induction k with
 |zero=>
  intro l m b n hl h;obtain rfl:l=[]:=List.length_eq_zero_iff.1 (by omega);rw[txt_nil]at h;simp at h
 |succ k ih=>
  intro l m b n hl h;cases l with
  |nil=>rw[txt_nil]at h;simp at h
  |cons c r=>
   cases m with
   |zero=>rw[txt_full]at h;simp at h
   |succ m=>
    by_cases hc:c=0
    ·subst hc
     cases r with
     |nil=>rw[txt_end]at h;simp at h
     |cons d r=>
      by_cases h1:d=1
      ·subst h1
       rw[txt_stop]at h;simp only[Option.some.injEq,Prod.mk.injEq]at h;obtain⟨rfl,rfl⟩:=h;exact⟨rfl,rfl,by simp⟩
      ·by_cases h2:d=255
       ·subst h2
        rw[txt_zero]at h;rw[Option.map_eq_some_iff]at h;obtain⟨⟨b',n'⟩,hb,he⟩:=h;simp only[Prod.mk.injEq]at he;obtain⟨rfl,rfl⟩:=he;obtain⟨e1,e2,e3⟩:=ih r m b' n' (by simp at hl;omega) hb;refine⟨?_,?_,by simp;omega⟩
        ·rw[esc_cons,if_pos rfl]
         show 0::255::r=0::255::(esc b'++(0::1::r.drop n'));rw[←e1]
        ·rw[esc_cons,if_pos rfl];simp;omega
       ·rw[txt_bad _ _ h1 h2]at h;simp at h
    ·rw[txt_plain _ _ hc]at h
     rw[Option.map_eq_some_iff]at h;obtain⟨⟨b',n'⟩,hb,he⟩:=h;simp only[Prod.mk.injEq]at he;obtain⟨rfl,rfl⟩:=he;obtain⟨e1,e2,e3⟩:=ih r m b' n' (by simp at hl;omega) hb;refine⟨?_,?_,by simp;omega⟩
     ·rw[esc_cons,if_neg hc]
      show c::r=c::(esc b'++(0::1::r.drop n'));rw[←e1]
     ·rw[esc_cons,if_neg hc];simp;omega
def be8N (l:List UInt8):Nat:=l.foldl (fun m b=>m*256+b.toNat) 0
theorem be8N_snoc (l:List UInt8)(b:UInt8):be8N (l++[b])=be8N l*256+b.toNat:=by simp[be8N]
theorem be8_make (m:Nat)(h:m<18446744073709551616):be8N (be8 m)=m:=by
 have e:be8 m=[byteAt m 0,byteAt m 1,byteAt m 2,byteAt m 3,byteAt m 4,byteAt m 5,byteAt m 6,byteAt m 7]:=rfl;rw[e];simp only[be8N,List.foldl,byteAt,UInt8.toNat_ofNat'];simp only[Nat.reducePow,Nat.reduceMul,Nat.reduceSub];omega
theorem be8_back (l:List UInt8)(h:l.length=8):be8 (be8N l)=l∧be8N l<18446744073709551616:=by
 match l,h with
 |[b0,b1,b2,b3,b4,b5,b6,b7],_=>
  have h0:=b0.toNat_lt;have h1:=b1.toNat_lt;have h2:=b2.toNat_lt;have h3:=b3.toNat_lt;have h4:=b4.toNat_lt;have h5:=b5.toNat_lt;have h6:=b6.toNat_lt;have h7:=b7.toNat_lt;simp only[be8N,List.foldl]
  have hb: ∀(m k:Nat) (b:UInt8),m/ 2 ^(56-8*k)%256=b.toNat→byteAt m k=b:=fun m k b hh=>by
   apply UInt8.toNat_inj.1;rw[byteAt,UInt8.toNat_ofNat'];exact hh
  refine⟨?_,by omega⟩;show[byteAt _ 0,byteAt _ 1,byteAt _ 2,byteAt _ 3,byteAt _ 4,byteAt _ 5,byteAt _ 6,byteAt _ 7]=_;rw[hb _ 0 b0,hb _ 1 b1,hb _ 2 b2,hb _ 3 b3,hb _ 4 b4,hb _ 5 b5,hb _ 6 b6,hb _ 7 b7]
  all_goals
   simp only[Nat.reducePow,Nat.reduceMul,Nat.reduceSub];omega
def cellF:List UInt8→Option (Val×Nat)
 |[]=>none
 |c::r=>
  if c=0 then some (⟨0,0,⟨#[]⟩⟩,1)
  else if c=1 then match r with
   |[]=>none
   |b::_=>if b.toNat≤1 then some (⟨1,(b.toNat:Int),⟨#[]⟩⟩,2)else none
  else if c=2 then if 8≤r.length then some (⟨2,(be8N (r.take 8):Int)-9223372036854775808,⟨#[]⟩⟩,9)else none
  else if c=3 then(txtF r 65).map fun p=>(⟨3,0,str p.1⟩,1+p.2)
  else none
def decG:Nat→List UInt8→Option (List Val)
 |_,[]=>some []
 |0,_::_=>none
 |m+1,c::r=>match cellF (c::r)with
  |none=>none
  |some p=>(decG m ((c::r).drop p.2)).map (p.1:: ·)
theorem empty_bytes {s:ByteArray}(h:s.toList.isEmpty=true):s=⟨#[]⟩:=by
 rw[←str_of s,List.isEmpty_iff.1 h];rfl
theorem good_cells (v:Val)(h:checkV v=0):
 v=⟨0,0,⟨#[]⟩⟩∨v=⟨1,0,⟨#[]⟩⟩∨v=⟨1,1,⟨#[]⟩⟩∨v=⟨2,v.n,⟨#[]⟩⟩∨(v=⟨3,0,v.s⟩∧v.s.size≤64):=by
 rcases val_cases v with⟨h1,-,hc⟩|⟨h1,-,-,hc⟩|⟨h1,h2,h3,hc⟩|⟨h1,-,-,hc⟩|⟨h1,-,-,hc⟩|⟨h1,h2,h3,hc⟩|⟨h1,-,-,hc⟩|⟨h1,h2,h3,hc⟩|⟨h1,-,hc⟩|⟨h1,h3,hc⟩|⟨h1,-,hc⟩|⟨h1,-,-,hc⟩|⟨h1,h4,h2,hc⟩|⟨h1,hc⟩|⟨h1,hc⟩
 all_goals
  first|(rw[h]at hc;exact absurd hc (by decide))|skip
 all_goals obtain⟨k,n,s⟩:=v
 all_goals simp only at h1
 all_goals try simp only at h2
 all_goals try simp only at h3
 all_goals try simp only at h4
 ·rw[h1,h2,empty_bytes h3];exact .inl rfl
 ·rw[h1,h2,empty_bytes h3];exact .inr (.inl rfl)
 ·rw[h1,h2,empty_bytes h3];exact .inr (.inr (.inl rfl))
 ·rw[h1,empty_bytes h3];exact .inr (.inr (.inr (.inl rfl)))
 ·rw[h1,h4];exact .inr (.inr (.inr (.inr ⟨rfl,h2⟩)))
theorem cell_make (v:Val)(r:List UInt8)(h:checkV v=0)(h1: -9223372036854775808≤v.n)(h2:v.n≤9223372036854775807):cellF (keyCell v++r)=some (v,(keyCell v).length):=by
 rcases good_cells v h with e|e|e|e|⟨e,hs⟩
 ·rw[e];rfl
 ·rw[e];rfl
 ·rw[e];rfl
 ·rw[e]
  have hk:keyCell ⟨2,v.n,⟨#[]⟩⟩=2::be8 (bias v.n):=rfl;rw[hk];have hb:bias v.n<18446744073709551616:=by unfold bias;omega
  have hl:((be8 (bias v.n))++r).take 8=be8 (bias v.n):=by rw[List.take_append_of_le_length (by rw[be8_len];omega),List.take_of_length_le (by rw[be8_len];omega)]
  show(if 8≤(be8 (bias v.n)++r).length then some ((⟨2,(be8N ((be8 (bias v.n)++r).take 8):Int)-9223372036854775808,⟨#[]⟩⟩:Val),9)else none)=_;rw[if_pos (by rw[List.length_append,be8_len];omega),hl,be8_make _ hb,List.length_cons,be8_len];have:((bias v.n:Nat):Int)-9223372036854775808=v.n:=by unfold bias;omega
  rw[this]
 ·rw[e]
  have hk:keyCell ⟨3,0,v.s⟩=3::(esc v.s.toList++[0,1]):=rfl;rw[hk];show(txtF ((esc v.s.toList++[0,1])++r) 65).map (fun p=>((⟨3,0,str p.1⟩:Val),1+p.2))=_;rw[List.append_assoc];show(txtF (esc v.s.toList++(0::1::r)) 65).map (fun p=>((⟨3,0,str p.1⟩:Val),1+p.2))=_;rw[txt_make _ _ _ (by rw[toList_len];omega)];simp[str_of,Nat.add_comm]
theorem dec_make: ∀(l:List Val) (m:Nat),l.length≤m→(∀x∈l,checkV x=0∧ -9223372036854775808≤x.n∧x.n≤9223372036854775807)→decG m (keyRow l)=some l
 |[],m,_,_=>by cases m<;>rfl
 |x::l,0,h,_=>by simp at h
 |x::l,m+1,h,hh=>by
  obtain⟨h0,h1,h2⟩:=hh x (by simp);have ih:=dec_make l m (by simp at h;omega) (fun y hy=>hh y (by simp[hy]));have hc:=cell_make x (keyRow l) h0 h1 h2;have e:keyRow (x::l)=keyCell x++keyRow l:=List.flatMap_cons;rw[e];obtain⟨c,q,hq⟩: ∃c q,keyCell x=c::q:=⟨_,_,rfl⟩;rw[hq]at hc⊢;show(match cellF (c::q++keyRow l)with|none=>none|some p=>(decG m ((c::q++keyRow l).drop p.2)).map (p.1:: ·))=_;rw[hc];simp only[List.drop_left];rw[ih];rfl
end Go.Proofs.YtjhbeecmdgglgaaGreatDoor
namespace Go.Proofs.YtjhbeecmdgglgaaGreatDoor
open Go.RowKit
theorem or_byte (m:Nat)(b:UInt8):bits .or .i64 (IntKind.i64.wrap ((m:Int)*256)) (b.toNat:Int)=IntKind.i64.wrap ((m*256+b.toNat:Nat):Int):=by
 show IntKind.i64.wrap ((BitVec.ofInt 64 (IntKind.i64.wrap ((m:Int)*256))||| BitVec.ofInt 64 (b.toNat:Int)).toNat:Int)=_;have hb:=b.toNat_lt
 have e1:(BitVec.ofInt 64 (IntKind.i64.wrap ((m:Int)*256))).toNat=2 ^ 8*(m%2 ^ 56):=by
  rw[BitVec.toNat_ofInt,IntKind.wrap_i64];simp only[Nat.reducePow];omega
 have e2:(BitVec.ofInt 64 (b.toNat:Int)).toNat=b.toNat:=by
  rw[BitVec.toNat_ofInt];simp only[Nat.reducePow];omega
 rw[BitVec.toNat_or,e1,e2,←Nat.two_pow_add_eq_or_of_lt hb,IntKind.wrap_i64,IntKind.wrap_i64];simp only[Nat.reducePow];omega
end Go.Proofs.YtjhbeecmdgglgaaGreatDoor
namespace Go.Proofs.YtjhbeecmdgglgaaGreatDoor
open Go.RowKit
theorem cell2 (r:List UInt8):cellF (2::r)=if 8≤r.length then some (⟨2,(be8N (r.take 8):Int)-9223372036854775808,⟨#[]⟩⟩,9)else none:=rfl
end Go.Proofs.YtjhbeecmdgglgaaGreatDoor
namespace Go.Proofs.YtjhbeecmdgglgaaGreatDoor
open Go.RowKit
open Go.Lib (compareBytes)
theorem u8_lt {a b:UInt8}:a<b↔a.toNat<b.toNat:=UInt8.lt_iff_toNat_lt
theorem u8_lt_irr (a:UInt8): ¬a<a:=by rw[u8_lt];omega
theorem cb_lt {x y:UInt8}(a b:List UInt8)(h:x<y):compareBytes (x::a) (y::b)= -1:=by rw[compareBytes,if_pos h]
theorem cb_gt {x y:UInt8}(a b:List UInt8)(h:y<x):compareBytes (x::a) (y::b)=1:=by
 rw[compareBytes,if_neg,if_pos h];rw[u8_lt]at*;omega
theorem cb_same (x:UInt8)(a b:List UInt8):compareBytes (x::a) (x::b)=compareBytes a b:=by
 rw[compareBytes,if_neg (u8_lt_irr x),if_neg (u8_lt_irr x)]
theorem cb_prefix (p a b:List UInt8):compareBytes (p++a) (p++b)=compareBytes a b:=by
 induction p with
 |nil=>rfl
 |cons x p ih=>rw[List.cons_append,List.cons_append,cb_same,ih]
theorem cb_self (a:List UInt8):compareBytes a a=0:=by
 have:=cb_prefix a [] [];simpa[compareBytes]using this
theorem cb_zero {a b:List UInt8}(h:compareBytes a b=0):a=b:=by
 induction a generalizing b with
 |nil=>cases b with
  |nil=>rfl
  |cons y b=>simp[compareBytes]at h
 |cons x a ih=>
  cases b with
  |nil=>simp[compareBytes]at h
  |cons y b=>
   rcases Nat.lt_trichotomy x.toNat y.toNat with hl|he|hg
   ·rw[cb_lt _ _ (u8_lt.2 hl)]at h;simp at h
   ·obtain rfl:=UInt8.toNat_inj.1 he
    rw[cb_same]at h;rw[ih h]
   ·rw[cb_gt _ _ (u8_lt.2 hg)]at h;simp at h
theorem be8N_cons (x:UInt8)(a:List UInt8):be8N (x::a)=x.toNat*256 ^ a.length+be8N a:=by
 unfold be8N
 have h: ∀(l:List UInt8) (m:Nat),l.foldl (fun m b=>m*256+b.toNat) m=m*256 ^ l.length+l.foldl (fun m b=>m*256+b.toNat) 0:=by
  intro l
  induction l with
  |nil=>intro m;simp
  |cons y l ih=>
   intro m;rw[List.foldl_cons,List.foldl_cons,ih,ih (0*256+y.toNat),List.length_cons,Nat.pow_succ,Nat.zero_mul,Nat.zero_add,Nat.add_mul];rw[←Nat.add_assoc,Nat.mul_assoc,Nat.mul_comm 256]
 rw[List.foldl_cons,h];simp
theorem be8N_lt (l:List UInt8):be8N l<256 ^ l.length:=by
 induction l with
 |nil=>decide
 |cons x l ih=>
  rw[be8N_cons,List.length_cons,Nat.pow_succ];have:=x.toNat_lt;have h2:x.toNat*256 ^ l.length≤255*256 ^ l.length:=Nat.mul_le_mul_right _ (by omega);omega
theorem cb_num (a b r t:List UInt8)(h:a.length=b.length):compareBytes (a++r) (b++t)=if be8N a<be8N b then-1 else if be8N b<be8N a then 1 else compareBytes r t:=by
 induction a generalizing b with
 |nil=>
  obtain rfl:b=[]:=List.length_eq_zero_iff.1 (by simpa using h.symm);simp[be8N]
 |cons x a ih=>
  cases b with
  |nil=>simp at h
  |cons y b=>
   have hl:a.length=b.length:=by simpa using h
   have ha:=be8N_lt a;have hb:=be8N_lt b;rw[be8N_cons,be8N_cons,hl,List.cons_append,List.cons_append];rw[hl]at ha;rcases Nat.lt_trichotomy x.toNat y.toNat with h1|h1|h1
   ·rw[cb_lt _ _ (u8_lt.2 h1),if_pos]
    have:(x.toNat+1)*256 ^ b.length≤y.toNat*256 ^ b.length:=Nat.mul_le_mul_right _ h1;rw[Nat.add_mul]at this;omega
   ·obtain rfl:=UInt8.toNat_inj.1 h1
    rw[cb_same,ih b hl];by_cases hq:be8N a<be8N b
    ·rw[if_pos hq,if_pos (by omega)]
    ·by_cases hq2:be8N b<be8N a
     ·rw[if_neg hq,if_pos hq2,if_neg (by omega),if_pos (by omega)]
     ·rw[if_neg hq,if_neg hq2,if_neg (by omega),if_neg (by omega)]
   ·rw[cb_gt _ _ (u8_lt.2 h1)]
    have:(y.toNat+1)*256 ^ b.length≤x.toNat*256 ^ b.length:=Nat.mul_le_mul_right _ h1;rw[Nat.add_mul]at this;rw[if_neg (by omega),if_pos (by omega)]
theorem cb_esc (s t r q:List UInt8):compareBytes (esc s++(0::1::r)) (esc t++(0::1::q))=if s=t then compareBytes r q else compareBytes s t:=by
 have pos: ∀c:UInt8,c≠0→(0:UInt8)<c:=by
  intro c hc;rw[u8_lt];have:c.toNat≠0:=fun h=>hc (UInt8.toNat_inj.1 h);show 0<c.toNat;omega
 induction s generalizing t with
 |nil=>
  cases t with
  |nil=>rw[if_pos rfl,cb_prefix];rw[cb_same,cb_same]
  |cons d t=>
   rw[if_neg (by simp),esc_cons];show compareBytes (0::1::r) _= -1;by_cases hd:d=0
   ·subst hd
    rw[if_pos rfl];show compareBytes (0::1::r) (0::255::_)= -1;rw[cb_same,cb_lt _ _ (by decide)]
   ·rw[if_neg hd]
    exact cb_lt _ _ (pos d hd)
 |cons c s ih=>
  cases t with
  |nil=>
   rw[if_neg (by simp),esc_cons];show compareBytes _ (0::1::q)=1;by_cases hd:c=0
   ·subst hd
    rw[if_pos rfl];show compareBytes (0::255::_) (0::1::q)=1;rw[cb_same,cb_gt _ _ (by decide)]
   ·rw[if_neg hd]
    exact cb_gt _ _ (pos c hd)
  |cons d t=>
   by_cases hcd:c=d
   ·subst hcd
    rw[esc_cons,esc_cons,List.append_assoc,List.append_assoc,cb_prefix,ih t,cb_same];by_cases hst:s=t
    ·rw[if_pos hst,if_pos (by rw[hst])]
    ·rw[if_neg hst,if_neg (by simpa using hst)]
   ·rw[if_neg (by simp[hcd])]
    have hne:c.toNat≠d.toNat:=fun h=>hcd (UInt8.toNat_inj.1 h);rcases Nat.lt_or_ge c.toNat d.toNat with h1|h1
    ·have hd:d≠0:=by
      rintro rfl;have:(0:UInt8).toNat=0:=rfl;omega
     rw[cb_lt _ _ (u8_lt.2 h1),esc_cons,esc_cons,if_neg hd];by_cases hc:c=0
     ·subst hc
      rw[if_pos rfl];exact cb_lt _ _ (u8_lt.2 h1)
     ·rw[if_neg hc]
      exact cb_lt _ _ (u8_lt.2 h1)
    ·have h2:d.toNat<c.toNat:=by omega
     have hc:c≠0:=by
      rintro rfl;have:(0:UInt8).toNat=0:=rfl;omega
     rw[cb_gt _ _ (u8_lt.2 h2),esc_cons,esc_cons,if_neg hc];by_cases hd:d=0
     ·subst hd
      rw[if_pos rfl];exact cb_gt _ _ (u8_lt.2 h2)
     ·rw[if_neg hd]
      exact cb_gt _ _ (u8_lt.2 h2)
theorem ordI_lt {a b:Int}(h:a<b):ordI a b= -1:=by unfold ordI;rw[if_pos h]
theorem ordI_gt {a b:Int}(h:b<a):ordI a b=1:=by unfold ordI;rw[if_neg (by omega),if_pos h]
theorem ordI_self (a:Int):ordI a a=0:=by unfold ordI;rw[if_neg (by omega),if_neg (by omega)]
theorem cmpB_self (s:ByteArray):cmpB s s=0:=by rw[←compare_eq,cb_self]
theorem cmpV_self (x:Val):cmpV x x=0:=by
 unfold cmpV;rw[ordI_self,ordI_self,cmpB_self];rfl
theorem keyCell_hd (x:Val): ∃q,keyCell x=UInt8.ofNat x.k.toNat::q:=⟨_,rfl⟩
theorem cmpV_n {x y:Val}(h:x.k=y.k)(hs:x.s=y.s):cmpV x y=ordI x.n y.n:=by
 unfold cmpV;rw[h,hs,ordI_self,cmpB_self];unfold ordI;split
 ·rfl
 ·split<;>rfl
theorem cmpV_s {x y:Val}(h:x.k=y.k)(hs:x.n=y.n):cmpV x y=cmpB x.s y.s:=by
 unfold cmpV firstNZ;rw[h,hs,ordI_self,ordI_self];by_cases h3:cmpB x.s y.s=0
 ·rw[h3];rfl
 ·simp[h3]
theorem cmpV_k {x y:Val}(h:ordI x.k y.k≠0):cmpV x y=ordI x.k y.k:=by
 unfold cmpV firstNZ;simp[h]
theorem key_cells (x y:Val)(r t:List UInt8)(hx:checkV x=0)(hy:checkV y=0)(x1: -9223372036854775808≤x.n)(y1: -9223372036854775808≤y.n)(x2:x.n≤9223372036854775807)(y2:y.n≤9223372036854775807):
 compareBytes (keyCell x++r) (keyCell y++t)=if cmpV x y≠0 then cmpV x y else compareBytes r t:=by
 have same:x=y→compareBytes (keyCell x++r) (keyCell y++t)=if cmpV x y≠0 then cmpV x y else compareBytes r t:=by
  rintro rfl;rw[cb_prefix,cmpV_self,if_neg (by simp)]
 have hkx:x.k=0∨x.k=1∨x.k=2∨x.k=3:=by
  rcases good_cells x hx with e|e|e|e|⟨e,-⟩<;>rw[e]<;>simp
 have hky:y.k=0∨y.k=1∨y.k=2∨y.k=3:=by
  rcases good_cells y hy with e|e|e|e|⟨e,-⟩<;>rw[e]<;>simp
 by_cases hk:x.k=y.k
 ·rcases good_cells x hx with e|e|e|e|⟨e,hsx⟩<;>rcases good_cells y hy with e'|e'|e'|e'|⟨e',hsy⟩
  all_goals
   first
    |(exfalso;rw[e,e']at hk;revert hk;simp only;decide)
    |(exact same (e.trans e'.symm))
    |skip
  ·have h0:cmpV x y= -1:=by rw[e,e'];rfl
   rw[h0,e,e'];show compareBytes (1::0::r) (1::1::t)=_;rw[cb_same,cb_lt _ _ (by decide)];rfl
  ·have h0:cmpV x y=1:=by rw[e,e'];rfl
   rw[h0,e,e'];show compareBytes (1::1::r) (1::0::t)=_;rw[cb_same,cb_gt _ _ (by decide)];rfl
  ·have hc:cmpV x y=ordI x.n y.n:=cmpV_n hk (by rw[e,e'])
   rw[hc];have kx:keyCell x=2::be8 (bias x.n):=by rw[e];rfl
   have ky:keyCell y=2::be8 (bias y.n):=by rw[e'];rfl
   have bx:bias x.n<18446744073709551616:=by unfold bias;omega
   have by':bias y.n<18446744073709551616:=by unfold bias;omega
   rw[kx,ky,List.cons_append,List.cons_append,cb_same,cb_num _ _ _ _ (by rw[be8_len,be8_len]),be8_make _ bx,be8_make _ by'];rcases Int.lt_trichotomy x.n y.n with h1|h1|h1
   ·rw[ordI_lt h1,if_pos (by unfold bias;omega)];rfl
   ·rw[h1,ordI_self,if_neg (by omega),if_neg (by omega),if_neg (by simp)]
   ·rw[ordI_gt h1,if_neg (by unfold bias;omega),if_pos (by unfold bias;omega)];rfl
  ·have hc:cmpV x y=cmpB x.s y.s:=cmpV_s hk (by rw[e,e'])
   rw[hc];have kx:keyCell x=3::(esc x.s.toList++[0,1]):=by rw[e];rfl
   have ky:keyCell y=3::(esc y.s.toList++[0,1]):=by rw[e'];rfl
   rw[kx,ky,List.cons_append,List.cons_append,cb_same,List.append_assoc,List.append_assoc];show compareBytes (esc x.s.toList++(0::1::r)) (esc y.s.toList++(0::1::t))=_;rw[cb_esc,←compare_eq,←ByteArray.toList_eq,←ByteArray.toList_eq];by_cases hs:x.s.toList=y.s.toList
   ·rw[if_pos hs,hs,cb_self,if_neg (by simp)]
   ·rw[if_neg hs,if_pos (fun h=>hs (cb_zero h))]
 ·obtain⟨q,hq⟩:=keyCell_hd x
  obtain⟨p,hp⟩:=keyCell_hd y;rw[hq,hp,List.cons_append,List.cons_append];have lx:(UInt8.ofNat x.k.toNat).toNat=x.k.toNat:=by rw[UInt8.toNat_ofNat',Nat.mod_eq_of_lt (by omega)]
  have ly:(UInt8.ofNat y.k.toNat).toNat=y.k.toNat:=by rw[UInt8.toNat_ofNat',Nat.mod_eq_of_lt (by omega)]
  rcases Int.lt_or_gt_of_ne hk with h1|h1
  ·have e:=ordI_lt h1
   have hc:cmpV x y= -1:=by rw[cmpV_k (by rw[e];decide),e]
   rw[hc,cb_lt _ _ (by rw[u8_lt,lx,ly];omega)];rfl
  ·have e:=ordI_gt h1
   have hc:cmpV x y=1:=by rw[cmpV_k (by rw[e];decide),e]
   rw[hc,cb_gt _ _ (by rw[u8_lt,lx,ly];omega)];rfl
def Good (l:List Val):Prop:= ∀x∈l,checkV x=0∧ -9223372036854775808≤x.n∧x.n≤9223372036854775807
theorem key_order: ∀(a b:List Val),Good a→Good b→compareBytes (keyRow a) (keyRow b)=rowsF a b
 |[],[],_,_=>rfl
 |[],y::t,_,_=>by
  obtain⟨q,hq⟩:=keyCell_hd y;show compareBytes [] (keyRow (y::t))= -1;rw[show keyRow (y::t)=keyCell y++keyRow t from List.flatMap_cons,hq];rfl
 |x::r,[],_,_=>by
  obtain⟨q,hq⟩:=keyCell_hd x;show compareBytes (keyRow (x::r)) []=1;rw[show keyRow (x::r)=keyCell x++keyRow r from List.flatMap_cons,hq];rfl
 |x::r,y::t,ha,hb=>by
  obtain⟨c1,c2,c3⟩:=ha x (by simp);obtain⟨d1,d2,d3⟩:=hb y (by simp);have ih:=key_order r t (fun z hz=>ha z (by simp[hz])) (fun z hz=>hb z (by simp[hz]));rw[show keyRow (x::r)=keyCell x++keyRow r from List.flatMap_cons,show keyRow (y::t)=keyCell y++keyRow t from List.flatMap_cons,key_cells x y _ _ c1 d1 c2 d2 c3 d3,ih];rfl
theorem key_less {a b:List Val}(ha:Good a)(hb:Good b):Op.bytesLess (keyRow a) (keyRow b)=decide (rowsF a b<0):=by
 rw[←key_order a b ha hb,cmpB_eq];cases Op.bytesLess (keyRow a) (keyRow b)
 ·cases keyRow a==keyRow b<;>rfl
 ·rfl
theorem key_same {a b:List Val}(ha:Good a)(hb:Good b):(keyRow a==keyRow b)=decide (rowsF a b=0):=by
 rw[←key_order a b ha hb,Bool.eq_iff_iff,beq_iff_eq,decide_eq_true_iff];exact⟨fun h=>by rw[h,cb_self],cb_zero⟩
theorem key_tells {a b:List Val}(ha:Good a)(hb:Good b)(la:a.length≤8)(lb:b.length≤8):(keyRow a==keyRow b)=sameR a b:=by
 rw[Bool.eq_iff_iff,beq_iff_eq,sameR_iff];refine⟨fun h=> ?_,fun h=>by rw[h]⟩;have h1:=dec_make a 8 la ha;have h2:=dec_make b 8 lb hb;rw[h,h2]at h1;exact(Option.some.inj h1).symm
end Go.Proofs.YtjhbeecmdgglgaaGreatDoor
namespace Go.Proofs.YtjhbeecmdgglgaaGreatDoor
open Go.RowKit Go.Maps
open Go.Lib (compareBytes)
abbrev AV:=List (List Val×Int)
theorem before_eq (a b:List UInt8):bytesBefore a b=decide (compareBytes a b<0):=by
 induction a generalizing b with
 |nil=>
  cases b with
  |nil=>simp[bytesBefore,compareBytes]
  |cons y b=>simp[bytesBefore,compareBytes]
 |cons x a ih=>
  cases b with
  |nil=>simp[bytesBefore,compareBytes]
  |cons y b=>
   unfold bytesBefore;by_cases h1:x<y
   ·rw[cb_lt _ _ h1];simp[h1]
   ·by_cases h2:y<x
    ·rw[cb_gt _ _ h2]
     have:x≠y:=by rintro rfl;exact h1 h2
     simp[h1,this]
    ·have:x=y:=by
      rw[u8_lt]at h1 h2;exact UInt8.toNat_inj.1 (by omega)
     subst this;rw[cb_same,ih];simp[u8_lt_irr]
structure GoodR (r:List Val):Prop where
 good:Good r
 few:r.length≤8
theorem goodR_of {r:List Val}(hf:Fine r)(h:keyErr r=0):GoodR r:=by
 obtain⟨h8,hg⟩:=keyErr_zero h;exact⟨fun x hx=>⟨hg x hx,hf.nums x hx⟩,h8⟩
theorem rowsF_zero {a b:List Val}(ha:GoodR a)(hb:GoodR b):rowsF a b=0↔a=b:=by
 have h1:=key_same ha.good hb.good;have h2:=key_tells ha.good hb.good ha.few hb.few;rw[h1]at h2;constructor
 ·intro h
  rw[decide_eq_true h]at h2;exact(sameR_iff a b).1 h2.symm
 ·rintro rfl
  rw[(sameR_iff a a).2 rfl]at h2;simpa using h2
theorem rowsF_self {a:List Val}(ha:GoodR a):rowsF a a=0:=(rowsF_zero ha ha).2 rfl
theorem cb_flip (a b:List UInt8):compareBytes b a= -compareBytes a b:=by
 induction a generalizing b with
 |nil=>cases b<;>simp[compareBytes]
 |cons x a ih=>
  cases b with
  |nil=>simp[compareBytes]
  |cons y b=>
   by_cases h1:x<y
   ·rw[cb_lt _ _ h1,cb_gt _ _ h1];rfl
   ·by_cases h2:y<x
    ·rw[cb_gt _ _ h2,cb_lt _ _ h2]
    ·have:x=y:=by
      rw[u8_lt]at h1 h2;exact UInt8.toNat_inj.1 (by omega)
     subst this;rw[cb_same,cb_same,ih]
theorem cb_trans {a b c:List UInt8}(h1:compareBytes a b<0)(h2:compareBytes b c<0):compareBytes a c<0:=by
 induction a generalizing b c with
 |nil=>
  cases b with
  |nil=>simp[compareBytes]at h1
  |cons y b=>
   cases c with
   |nil=>simp[compareBytes]at h2
   |cons z c=>simp[compareBytes]
 |cons x a ih=>
  cases b with
  |nil=>simp[compareBytes]at h1
  |cons y b=>
   cases c with
   |nil=>simp[compareBytes]at h2
   |cons z c=>
    have t1:x<y∨(x=y∧compareBytes a b<0):=by
     by_cases e1:x<y
     ·exact .inl e1
     ·by_cases e2:y<x
      ·rw[cb_gt _ _ e2]at h1;omega
      ·have:x=y:=by
        rw[u8_lt]at e1 e2;exact UInt8.toNat_inj.1 (by omega)
       subst this;rw[cb_same]at h1;exact .inr ⟨rfl,h1⟩
    have t2:y<z∨(y=z∧compareBytes b c<0):=by
     by_cases e1:y<z
     ·exact .inl e1
     ·by_cases e2:z<y
      ·rw[cb_gt _ _ e2]at h2;omega
      ·have:y=z:=by
        rw[u8_lt]at e1 e2;exact UInt8.toNat_inj.1 (by omega)
       subst this;rw[cb_same]at h2;exact .inr ⟨rfl,h2⟩
    rcases t1 with t1|⟨rfl,t1⟩
    ·rcases t2 with t2|⟨rfl,t2⟩
     ·rw[cb_lt _ _ (by rw[u8_lt]at*;omega)];omega
     ·rw[cb_lt _ _ t1];omega
    ·rcases t2 with t2|⟨rfl,t2⟩
     ·rw[cb_lt _ _ t2];omega
     ·rw[cb_same];exact ih t1 t2
theorem rowsF_flip {a b:List Val}(ha:GoodR a)(hb:GoodR b):rowsF b a= -rowsF a b:=by
 rw[←key_order a b ha.good hb.good,←key_order b a hb.good ha.good,cb_flip]
theorem rowsF_trans {a b c:List Val}(ha:GoodR a)(hb:GoodR b)(hc:GoodR c)(h1:rowsF a b<0)(h2:rowsF b c<0):rowsF a c<0:=by
 rw[←key_order a b ha.good hb.good]at h1;rw[←key_order b c hb.good hc.good]at h2;rw[←key_order a c ha.good hc.good];exact cb_trans h1 h2
def kOf (r:List Val):Lit:= .string (keyRow r)
theorem kOf_before {a b:List Val}(ha:GoodR a)(hb:GoodR b):(kOf a).before (kOf b)=decide (rowsF a b<0):=by
 show bytesBefore (keyRow a) (keyRow b)=_;rw[before_eq,key_order a b ha.good hb.good]
theorem kOf_same {a b:List Val}(ha:GoodR a)(hb:GoodR b):(kOf a).sameKey (kOf b)=decide (rowsF a b=0):=by
 show(keyRow a==keyRow b)=_;exact key_same ha.good hb.good
structure Rises (A:AV):Prop where
 good: ∀p∈A,GoodR p.1
 rise:A.Pairwise fun p q=>rowsF p.1 q.1<0
theorem Rises.nil:Rises []:=⟨nofun,.nil⟩
theorem Rises.tail {x:List Val×Int}{t:AV}(h:Rises (x::t)):Rises t:=⟨fun p hp=>h.good p (by simp[hp]),(List.pairwise_cons.1 h.rise).2⟩
def lookA:AV→List Val→Int
 |[],_=>0
 |(x,m)::t,r=>if rowsF x r=0 then m else lookA t r
def hasA:AV→List Val→Bool
 |[],_=>false
 |(x,_)::t,r=>decide (rowsF x r=0)||hasA t r
def putA:AV→List Val→Int→AV
 |[],r,n=>[(r,n)]
 |(x,m)::t,r,n=>if rowsF x r=0 then(x,n)::t else if rowsF x r<0 then(x,m)::putA t r n else(r,n)::(x,m)::t
def delA:AV→List Val→AV
 |[],_=>[]
 |(x,m)::t,r=>if rowsF x r=0 then t else(x,m)::delA t r
def ent (p:List Val×Int):Lit×DataW Unit:=(kOf p.1,.lit (.int .i64 p.2))
def mkD (A:AV):DataW Unit:= .map (A.map ent)
theorem mkD_size (A:AV):Maps.size (mkD A)=A.length:=by rw[mkD,size_eq,List.length_map]
theorem mkD_at {A:AV}{r:List Val}(h: ∀p∈A,GoodR p.1)(hr:GoodR r):(mkD A).atKey (kOf r) (.lit (.int .i64 0))= .lit (.int .i64 (lookA A r)):=by
 unfold mkD DataW.atKey
 induction A with
 |nil=>rfl
 |cons x t ih=>
  obtain⟨x,m⟩:=x;have hx:GoodR x:=h (x,m) (by simp);simp only[List.map_cons,List.find?_cons,ent,kOf_same hx hr,lookA];by_cases e:rowsF x r=0
  ·simp[e]
  ·simp only[e,decide_false,if_false]
   exact ih fun p hp=>h p (by simp[hp])
theorem mkD_has {A:AV}{r:List Val}(h: ∀p∈A,GoodR p.1)(hr:GoodR r):Maps.has (mkD A) (kOf r)=hasA A r:=by
 show(A.map ent).any (fun p=>p.1.sameKey (kOf r))=_
 induction A with
 |nil=>rfl
 |cons x t ih=>
  obtain⟨x,m⟩:=x;have hx:GoodR x:=h (x,m) (by simp);simp only[List.map_cons,List.any_cons,ent,kOf_same hx hr,hasA]
  congr 1
  exact ih fun p hp=>h p (by simp[hp])
theorem filter_keep {A:AV}{r:List Val}(h: ∀p∈A,GoodR p.1)(hr:GoodR r)(hn: ∀p∈A,rowsF p.1 r≠0):(A.map ent).filter (fun p=> !p.1.sameKey (kOf r))=A.map ent:=by
 rw[List.filter_eq_self];intro q hq;obtain⟨p,hp,rfl⟩:=List.mem_map.1 hq;simp[ent,kOf_same (h p hp) hr,hn p hp]
theorem insert_front {A:AV}{r:List Val}{n:Int}(h: ∀p∈A,GoodR p.1)(hr:GoodR r)(hn: ∀p∈A,rowsF r p.1<0):DataW.insert (ent (r,n)) (A.map ent)=(A.map ent |> fun l=>ent (r,n)::l):=by
 cases A with
 |nil=>rfl
 |cons x t=>
  simp only[List.map_cons,DataW.insert]
  have:(ent (r,n)).1.before (ent x).1=true:=by
   show(kOf r).before (kOf x.1)=true;rw[kOf_before hr (h x (by simp))];exact decide_eq_true (hn x (by simp))
  rw[if_pos this]
theorem mkD_put {A:AV}{r:List Val}{n:Int}(h:Rises A)(hr:GoodR r):(mkD A).put (kOf r) (.lit (.int .i64 n))=mkD (putA A r n):=by
 show DataW.map (DataW.insert (ent (r,n)) ((A.map ent).filter fun p=> !p.1.sameKey (kOf r)))= .map _
 congr 1
 induction A with
 |nil=>rfl
 |cons x t ih=>
  obtain⟨x,m⟩:=x;have hx:GoodR x:=h.good (x,m) (by simp);obtain⟨h1,h2⟩:=List.pairwise_cons.1 h.rise;have h1: ∀p∈t,rowsF x p.1<0:=h1;have hg: ∀p∈t,GoodR p.1:=h.tail.good;unfold putA;by_cases e:rowsF x r=0
  ·have exr:=(rowsF_zero hx hr).1 e
   subst exr;have hgt: ∀p∈t,rowsF x p.1<0:=fun p hp=>h1 p hp;have hne: ∀p∈t,rowsF p.1 x≠0:=fun p hp=>by rw[rowsF_flip hx (hg p hp)];have:=hgt p hp;omega
   rw[if_pos e];simp only[List.map_cons];rw[List.filter_cons_of_neg (by simp[ent,kOf_same hx hr,e]),filter_keep hg hr hne,insert_front hg hr hgt]
  ·rw[if_neg e]
   have hk:(!(ent (x,m)).1.sameKey (kOf r))=true:=by simp[ent,kOf_same hx hr,e]
   simp only[List.map_cons];rw[List.filter_cons_of_pos (p:=fun p:Lit×DataW Unit=> !p.1.sameKey (kOf r)) hk];by_cases l:rowsF x r<0
   ·rw[if_pos l]
    simp only[DataW.insert,List.map_cons]
    have hb:(ent (r,n)).1.before (ent (x,m)).1=false:=by
     show(kOf r).before (kOf x)=false;rw[kOf_before hr hx,rowsF_flip hx hr];exact decide_eq_false (by omega)
    rw[hb,if_neg (by decide),ih h.tail]
   ·rw[if_neg l]
    have hlt:rowsF r x<0:=by rw[rowsF_flip hx hr];omega
    have hgt: ∀p∈t,rowsF r p.1<0:=fun p hp=>rowsF_trans hr hx (hg p hp) hlt (h1 p hp);have hne: ∀p∈t,rowsF p.1 r≠0:=fun p hp=>by rw[rowsF_flip hr (hg p hp)];have:=hgt p hp;omega
    rw[filter_keep hg hr hne]
    have:=insert_front (A:=(x,m)::t) (r:=r) (n:=n) h.good hr (by
     intro p hp;rcases List.mem_cons.1 hp with rfl|hp
     ·exact hlt
     ·exact hgt p hp)
    exact this
theorem mkD_del {A:AV}{r:List Val}(h:Rises A)(hr:GoodR r):(mkD A).del (kOf r)=mkD (delA A r):=by
 show DataW.map ((A.map ent).filter fun p=> !p.1.sameKey (kOf r))= .map _
 congr 1
 induction A with
 |nil=>rfl
 |cons x t ih=>
  obtain⟨x,m⟩:=x;have hx:GoodR x:=h.good (x,m) (by simp);obtain⟨h1,h2⟩:=List.pairwise_cons.1 h.rise;have h1: ∀p∈t,rowsF x p.1<0:=h1;have hg: ∀p∈t,GoodR p.1:=h.tail.good;unfold delA;by_cases e:rowsF x r=0
  ·have exr:=(rowsF_zero hx hr).1 e
   subst exr;have hne: ∀p∈t,rowsF p.1 x≠0:=fun p hp=>by rw[rowsF_flip hx (hg p hp)];have:=h1 p hp;omega
   rw[if_pos e];simp only[List.map_cons];rw[List.filter_cons_of_neg (by simp[ent,kOf_same hx hr,e]),filter_keep hg hr hne]
  ·rw[if_neg e]
   have hk:(!(ent (x,m)).1.sameKey (kOf r))=true:=by simp[ent,kOf_same hx hr,e]
   simp only[List.map_cons];rw[List.filter_cons_of_pos (p:=fun p:Lit×DataW Unit=> !p.1.sameKey (kOf r)) hk,ih h.tail]
theorem put_mem {A:AV}{r:List Val}{n:Int}{p:List Val×Int}(h:p∈putA A r n):p∈A∨p.1=r∧p.2=n∨(p.2=n∧ ∃m,(p.1,m)∈A):=by
 induction A with
 |nil=>simp[putA]at h;subst h;exact .inr (.inl ⟨rfl,rfl⟩)
 |cons x t ih=>
  obtain⟨x,m⟩:=x;unfold putA at h;split at h
  ·rcases List.mem_cons.1 h with rfl|h
   ·exact .inr (.inr ⟨rfl,m,by simp⟩)
   ·exact .inl (by simp[h])
  ·split at h
   ·rcases List.mem_cons.1 h with rfl|h
    ·exact .inl (by simp)
    ·rcases ih h with h|h|⟨h1,m',h2⟩
     ·exact .inl (by simp[h])
     ·exact .inr (.inl h)
     ·exact .inr (.inr ⟨h1,m',by simp[h2]⟩)
   ·rcases List.mem_cons.1 h with rfl|h
    ·exact .inr (.inl ⟨rfl,rfl⟩)
    ·exact .inl h
theorem del_mem {A:AV}{r:List Val}{p:List Val×Int}(h:p∈delA A r):p∈A:=by
 induction A with
 |nil=>exact h
 |cons x t ih=>
  obtain⟨x,m⟩:=x;unfold delA at h;split at h
  ·simp[h]
  ·rcases List.mem_cons.1 h with rfl|h
   ·simp
   ·simp[ih h]
theorem rises_put {A:AV}{r:List Val}{n:Int}(h:Rises A)(hr:GoodR r):Rises (putA A r n):=by
 refine⟨fun p hp=> ?_,?_⟩
 ·rcases put_mem hp with hp|⟨e,-⟩|⟨-,m,hp⟩
  ·exact h.good p hp
  ·rw[e];exact hr
  ·exact h.good (p.1,m) hp
 ·induction A with
  |nil=>simp[putA]
  |cons x t ih=>
   obtain⟨x,m⟩:=x;have hx:GoodR x:=h.good (x,m) (by simp);obtain⟨h1,h2⟩:=List.pairwise_cons.1 h.rise;have h1: ∀p∈t,rowsF x p.1<0:=h1;have hg: ∀p∈t,GoodR p.1:=h.tail.good;unfold putA;split
   ·exact List.pairwise_cons.2 ⟨h1,h2⟩
   ·rename_i e
    split
    ·rename_i l
     refine List.pairwise_cons.2 ⟨fun p hp=> ?_,ih h.tail⟩;rcases put_mem hp with hp|⟨e',-⟩|⟨-,m',hp⟩
     ·exact h1 p hp
     ·rw[e'];exact l
     ·exact h1 (p.1,m') hp
    ·rename_i l
     have hlt:rowsF r x<0:=by rw[rowsF_flip hx hr];omega
     refine List.pairwise_cons.2 ⟨fun p hp=> ?_,h.rise⟩;rcases List.mem_cons.1 hp with rfl|hp
     ·exact hlt
     ·exact rowsF_trans hr hx (hg p hp) hlt (h1 p hp)
theorem rises_del {A:AV}{r:List Val}(h:Rises A):Rises (delA A r):=by
 refine⟨fun p hp=>h.good p (del_mem hp),?_⟩
 induction A with
 |nil=>exact h.rise
 |cons x t ih=>
  obtain⟨x,m⟩:=x;obtain⟨h1,h2⟩:=List.pairwise_cons.1 h.rise;have h1: ∀p∈t,rowsF x p.1<0:=h1;unfold delA;split
  ·exact h2
  ·exact List.pairwise_cons.2 ⟨fun p hp=>h1 p (del_mem hp),ih h.tail⟩
end Go.Proofs.YtjhbeecmdgglgaaGreatDoor
namespace Go.Proofs.YtjhbeecmdgglgaaGreatDoor
open Go.RowKit
structure Cnt where
 v:Value
 r:List Val
 n:Int
def Cnt.cells (c:Cnt):List Value:=[c.v,.int .i64 c.n]
theorem Cnt.cells_len (c:Cnt):c.cells.length=2:=rfl
def cntCells (l:List Cnt):List Value:=l.flatMap Cnt.cells
structure View (w:World) (v:Value) (l:List Cnt):Prop where
 sl:Sl w v l.length (cntCells l)
 rows: ∀c∈l,Sl w c.v c.r.length (rowCells c.r)
theorem View.below {w w':World}{v:Value}{l:List Cnt}(h:View w v l)(hb:Below w.heap.size w w'):View w' v l:=⟨h.sl.below hb,fun c hc=>(h.rows c hc).below hb⟩
theorem View.drew {w:World}{v:Value}{l:List Cnt}(h:View w v l):View w.drew v l:=⟨h.sl,h.rows⟩
structure FineV (l:List Cnt):Prop where
 rows: ∀c∈l,Fine c.r
 nums: ∀c∈l,-9223372036854775808≤c.n∧c.n≤9223372036854775807
def av (l:List Cnt):AV:=l.map fun c=>(c.r,c.n)
theorem cnt_at {w:World}{l:List Cnt}{v:Value}(h:Sl w v l.length (cntCells l)){A:Option Addr}{n c:Nat}(hv:v= .slice A n c){k:Nat}{x:Cnt}(hk:l[k]?=some x):
 ∃b off,A=some ⟨b,off,none⟩∧b<w.heap.size∧ ∀w',Below w.heap.size w w'→
  w'.cell? ⟨b,off+k*2,none⟩=some x.v∧w'.cell? ⟨b,off+k*2+1,none⟩=some (.int .i64 x.n):=by
 obtain⟨A',c',hv',h1,h2,-,h3⟩:=h;rw[hv]at hv';injection hv' with e1 e2 e3;subst e1;have a1:=flat_at Cnt.cells_len l k 0 (by omega);have a2:=flat_at Cnt.cells_len l k 1 (by omega);rw[hk]at a1 a2;simp only[Option.bind_some,Nat.add_zero]at a1 a2;obtain⟨b,off,hA,hc⟩:=h3 (by intro h0;rw[show l.flatMap Cnt.cells=cntCells l from rfl,h0]at a1;simp[Cnt.cells]at a1);have c1:=hc _ _ a1;have c2:=hc _ _ a2;exact⟨b,off,hA,World.block_lt_of_cell? w _ c1,fun w' hb=>⟨cell_below hb c1,cell_below hb c2⟩⟩
def okC (c:Cnt):Bool:=(keyErr c.r==0)&&btw c.n 1 1073741824
def okAt (l:List Cnt) (k:Nat):Bool:=
 match l[k]? with
 |none=>true
 |some c=>okC c&&(if k=0 then true else match l[k-1]? with
  |none=>true
  |some d=>decide (rowsF d.r c.r<0))
def chkV (l:List Cnt):Int:=if 4096<l.length then 2 else if allB (okAt l) (List.range l.length)then 0 else 1
theorem okAt_zero {l:List Cnt}{c:Cnt}(h:l[0]?=some c):okAt l 0=okC c:=by simp[okAt,h]
theorem okAt_succ {l:List Cnt}{k:Nat}{c d:Cnt}(h:l[k+1]?=some c)(hd:l[k]?=some d):okAt l (k+1)=(okC c&&decide (rowsF d.r c.r<0)):=by simp[okAt,h,hd]
theorem range_at {n k:Nat}(h:k<n):(List.range n)[k]?=some k:=by simp[h]
theorem chk_bad {l:List Cnt}{k:Nat}(h0: ¬4096<l.length)(hk:k<l.length)(h:okAt l k=false):chkV l=1:=by
 unfold chkV;rw[if_neg h0,all_no (range_at hk) h];rfl
theorem chk_good {l:List Cnt}(h0: ¬4096<l.length)(h: ∀j∈(List.range l.length).take l.length,okAt l j=true):chkV l=0:=by
 unfold chkV;rw[if_neg h0,all_yes (f:=okAt l) (by rwa[List.length_range])];rfl
structure GoodV (l:List Cnt):Prop where
 few:l.length≤4096
 rises:Rises (av l)
 nums: ∀p∈av l,1≤p.2∧p.2≤1073741824
theorem chk_zero {l:List Cnt}(hf:FineV l)(h:chkV l=0):GoodV l:=by
 unfold chkV at h;by_cases h0:4096<l.length
 ·rw[if_pos h0]at h;omega
 ·rw[if_neg h0]at h
  have hall:allB (okAt l) (List.range l.length)=true:=by
   cases hb:allB (okAt l) (List.range l.length)
   ·rw[hb]at h;simp at h
   ·rfl
  rw[allB,List.all_eq_true]at hall
  have hok: ∀k c,l[k]?=some c→okC c=true∧(k≠0→ ∀d,l[k-1]?=some d→rowsF d.r c.r<0):=by
   intro k c hc;have hk:=(List.getElem?_eq_some_iff.1 hc).1;have:=hall k (List.mem_range.2 hk);unfold okAt at this;rw[hc]at this;simp only[Bool.and_eq_true]at this;refine⟨this.1,fun hk0 d hd=> ?_⟩;have h2:=this.2;rw[if_neg hk0,hd]at h2;simpa using h2
  have hgood: ∀c∈l,GoodR c.r∧1≤c.n∧c.n≤1073741824:=by
   intro c hc;obtain⟨k,hk⟩:=List.getElem?_of_mem hc;have:=(hok k c hk).1;unfold okC at this;rw[Bool.and_eq_true,beq_iff_eq]at this;have hb:=btw_of this.2;exact⟨goodR_of (hf.rows c hc) this.1,hb.1,hb.2⟩
  refine⟨by omega,⟨fun p hp=> ?_,?_⟩,fun p hp=> ?_⟩
  ·obtain⟨c,hc,rfl⟩:=List.mem_map.1 hp
   exact(hgood c hc).1
  ·unfold av
   rw[List.pairwise_map,List.pairwise_iff_getElem];intro i j hi hj hij
   have step: ∀n i (hi:i<l.length) (hj:i+n+1<l.length),rowsF (l[i]).r (l[i+n+1]).r<0:=by
    intro n
    induction n with
    |zero=>
     intro i hi hj;exact(hok (i+1) _ (List.getElem?_eq_getElem hj)).2 (by omega) _ (List.getElem?_eq_getElem hi)
    |succ n ih=>
     intro i hi hj;have h1:=ih i hi (by omega);have h2:=(hok (i+(n+1)+1) _ (List.getElem?_eq_getElem hj)).2 (by omega) _ (List.getElem?_eq_getElem (show i+n+1<l.length by omega));exact rowsF_trans (hgood _ (List.getElem_mem _)).1 (hgood _ (List.getElem_mem _)).1 (hgood _ (List.getElem_mem _)).1 h1 h2
   have:=step (j-i-1) i hi (by omega);simpa[show i+(j-i-1)+1=j by omega]using this
  ·obtain⟨c,hc,rfl⟩:=List.mem_map.1 hp
   exact(hgood c hc).2
theorem str_less {a b:List Val}(ha:GoodR a)(hb:GoodR b):Op.bytesLess (str (keyRow a)).toList (str (keyRow b)).toList=decide (rowsF a b<0):=by rw[str_toList,str_toList];exact key_less ha.good hb.good
theorem str_same {a b:List Val}(ha:GoodR a)(hb:GoodR b):((str (keyRow a)).toList==(str (keyRow b)).toList)=decide (rowsF a b=0):=by rw[str_toList,str_toList];exact key_same ha.good hb.good
def lastKey (l:List Cnt) (k:Nat):ByteArray:=if k=0 then⟨#[]⟩else match l[k-1]? with|none=>⟨#[]⟩|some c=>str (keyRow c.r)
end Go.Proofs.YtjhbeecmdgglgaaGreatDoor
