/-The stable sort of numbers: stable and SortStableFunc. Batches: the comparator of times, the test of a time, a copy of numbers, sort.Search. Batches:  -/
import Derived.Test.YtjhbeecmdgglgaaGreatDoorGrpX30
import Derived.Test.YtjhbeecmdgglgaaGreatDoorGrpX28
import Derived.Test.YtjhbeecmdgglgaaGreatDoorGrpX4
import Derived.Test.YtjhbeecmdgglgaaGreatDoorGrpX12
import Derived.Test.YtjhbeecmdgglgaaGreatDoorGrpX26
set_option linter.unusedSimpArgs false
set_option linter.unusedVariables false
namespace Go.Proofs.YtjhbeecmdgglgaaGreatDoor
open Go.RowKit
structure StA (T:Int→Int) (D0:List Int) (a:Nat) (Done:List Int):Prop where
 len:Done.length=a
 le:a≤D0.length
 perm:Done.Perm (D0.take a)
 dn:Dn T 20 Done
theorem StA.start {T:Int→Int}{D0:List Int}:StA T D0 0 []:=⟨rfl,Nat.zero_le _,.refl _,Dn.nil⟩
theorem StA.fore {T:Int→Int}{D0 Done M:List Int}{a:Nat}(h:StA T D0 a Done)(hD:D0.Pairwise (· < ·))(hM: ∀x∈M,x∈D0.drop a):Fore Done M:=by
 intro x hx y hy;rw[←List.take_append_drop a D0]at hD;exact(List.pairwise_append.1 hD).2.2 x (h.perm.mem_iff.1 hx) y (hM y hy)
theorem StA.next {T:Int→Int}{D0 Done M:List Int}{a:Nat}(h:StA T D0 a Done)(hD:D0.Pairwise (· < ·))(hl:a+20≤D0.length)(hM:M.Perm ((D0.drop a).take 20))(hs:Srt T M):StA T D0 (a+20) (Done++M):=by
 have hml:M.length=20:=by rw[hM.length_eq,List.length_take,List.length_drop];omega
 refine⟨by rw[List.length_append,h.len,hml],hl,?_,h.dn.app (h.fore hD fun x hx=>List.mem_of_mem_take (hM.mem_iff.1 hx)) hml hs⟩;rw[List.take_add];exact h.perm.append hM
theorem StA.last {T:Int→Int}{D0 Done M:List Int}{a:Nat}(h:StA T D0 a Done)(hD:D0.Pairwise (· < ·))(hl:D0.length<a+20)(hM:M.Perm (D0.drop a))(hs:Srt T M):Bk T 20 (Done++M)∧(Done++M).Perm D0:=by
 have hml:M.length≤20:=by rw[hM.length_eq,List.length_drop];omega
 refine⟨h.dn M (h.fore hD fun x hx=>hM.mem_iff.1 hx) (.last M hml hs),?_⟩;have h1:=h.perm.append hM;rwa[List.take_append_drop]at h1
structure StB (T:Int→Int) (D0:List Int) (bs a:Nat) (Done Rest:List Int):Prop where
 len:Done.length=a
 perm:(Done++Rest).Perm D0
 dn:Dn T (2*bs) Done
 bk:Bk T bs Rest
 fore:Fore Done Rest
theorem StB.start {T:Int→Int}{D0 D:List Int}{bs:Nat}(hp:D.Perm D0)(h:Bk T bs D):StB T D0 bs 0 [] D:=⟨rfl,hp,Dn.nil,h,fun _ hx=>by cases hx⟩
theorem StB.step {T:Int→Int}{D0 Done Rest:List Int}{bs a:Nat}(h:StB T D0 bs a Done Rest)(hb:0<bs)(hl:a+2*bs≤D0.length):
 ∃X Y Z,Rest=X++Y++Z∧X.length=bs∧Y.length=bs∧Srt T X∧Srt T Y∧Fore X Y∧ ∀M,M.Perm (X++Y)→Srt T M→StB T D0 bs (a+2*bs) (Done++M) Z:=by
 have h1:=h.perm.length_eq;rw[List.length_append,h.len]at h1;obtain⟨X,Y,Z,rfl,hX,hY,sX,sY,fXY,fZ,bZ⟩:=h.bk.cut2 hb (by omega);refine⟨X,Y,Z,rfl,hX,hY,sX,sY,fXY,fun M hM hs=> ?_⟩;have hml:M.length=2*bs:=by rw[hM.length_eq,List.length_append];omega
 have f1:Fore Done (X++Y):=h.fore.fst;refine⟨by rw[List.length_append,h.len,hml],?_,h.dn.app (f1.perm (.refl _) hM) hml hs,bZ,h.fore.snd.app (fZ.perm hM (.refl _))⟩;refine List.Perm.trans ?_ h.perm;rw[List.append_assoc];exact List.Perm.append_left _ (hM.append_right Z)
theorem StB.endL {T:Int→Int}{D0 Done Rest:List Int}{bs a:Nat}(h:StB T D0 bs a Done Rest)(hb:0<bs)(hl:D0.length<a+2*bs)(hm:a+bs<D0.length):
 ∃X Y,Rest=X++Y∧X.length=bs∧0<Y.length∧Srt T X∧Srt T Y∧Fore X Y∧ ∀M,M.Perm (X++Y)→Srt T M→Bk T (2*bs) (Done++M)∧(Done++M).Perm D0:=by
 have h1:=h.perm.length_eq;rw[List.length_append,h.len]at h1;obtain⟨X,Y,rfl,hX,hY,sX,sY,fXY⟩:=h.bk.cut1 hb (by omega) (by omega);refine⟨X,Y,rfl,hX,hY,sX,sY,fXY,fun M hM hs=>⟨h.dn M (h.fore.perm (.refl _) hM) (.last M (by rw[hM.length_eq];omega) hs),?_⟩⟩;exact(List.Perm.append_left _ hM).trans h.perm
theorem StB.endS {T:Int→Int}{D0 Done Rest:List Int}{bs a:Nat}(h:StB T D0 bs a Done Rest)(hb:0<bs)(hm:D0.length≤a+bs):Bk T (2*bs) (Done++Rest):=by
 have h1:=h.perm.length_eq;rw[List.length_append,h.len]at h1;exact h.dn Rest h.fore (.last Rest (by omega) (h.bk.srt (by omega) hb))
set_option maxHeartbeats 4000000 in
set_option maxRecDepth 10000 in
theorem stable_any (T:Int→Int)(V:Int→Prop)(g cap c N:Nat)(D0:List Int)(sp:List Value)(w:World)(h:IRow w g D0 sp)(hN:D0.length=N)(hl:N≤1073741824)(hc:N≤cap∧cap≤maxLen)
 (hD:D0.Pairwise (· < ·)) (hV: ∀x∈D0,V x) (hcmp:CmpI T V g c w):
 Calls Tryz.prog 121 #[.slice (some ⟨g,0,none⟩) N cap,.int .i64 N,.func (.func 89) #[] #[.pointer (some ⟨c,0,none⟩)]] w fun e w'=>e= .returned (.tuple #[])∧(∃M,M.Perm D0∧Srt T M∧IRow w' g M sp)∧Turned (fun k=>k=g) w w':=by
 have HC:=Lib.hid hcmp;have HV:=Lib.hid hV;have HI:=Lib.hid h;have HD:=Lib.hid hD;have HHC:=Lib.hid hc;have HN:=Lib.hid hN;obtain⟨hc1,hc2⟩:=hc;unfold maxLen at hc2;clear h hV hcmp hD hN;go_enter Tryz.func121,Tryz.ntmps121
 go_wp2_with fail
 go_loopw[7,8] (fun av bv wr=> ∃(a:Nat) (Done:List Int),av= .int .i64 a∧bv= .int .i64 ((a+20:Nat):Int)∧a≤N∧Hid (StA T D0 a Done)∧Hid (IRow wr g (Done++D0.drop a) sp)∧Hid (Turned (fun k=>k=g) w wr)) (fun av _ _=>N-(intOf av).toNat)
 case atStart=>exact⟨0,[],rfl,rfl,Nat.zero_le _,Lib.hid StA.start,HI,Lib.hid (Turned.refl _ _)⟩
 case round=>
  rename World=>wr
  obtain⟨a,Done,rfl,rfl,haN,HST,HR,HT⟩:=hrel;obtain⟨b,hb⟩: ∃b,a+20=b:=⟨_,rfl⟩;rw[hb];have HB:=Lib.hid hb;by_cases hlt:b≤N
  ·have hn:=HN.out
   have hst:=HST.out;obtain⟨X,hX⟩: ∃X,(D0.drop a).take 20=X:=⟨_,rfl⟩;obtain⟨S,hS⟩: ∃S,D0.drop b=S:=⟨_,rfl⟩;have hXl:X.length=20:=by rw[←hX,List.length_take,List.length_drop];omega
   have hXS:D0.drop a=X++S:=by
    have e:D0.drop b=(D0.drop a).drop 20:=by rw[List.drop_drop,hb]
    rw[←hX,←hS,e,List.take_append_drop]
   have h1:=HR.out;rw[hXS,←List.append_assoc]at h1;have hSl:S.length+b=N:=by rw[←hS,List.length_drop];omega
   have hXD: ∀x∈X,x∈D0:=fun x hx=>List.mem_of_mem_drop (List.mem_of_mem_take (hX▸hx));have hr:=insertion_any T V g cap c N Done X S sp wr h1 (by rw[List.length_append,List.length_append,hst.len,hXl];omega) hl HHC.out (hX▸(HD.out.sublist ((List.take_sublist _ _).trans (List.drop_sublist _ _)))) (fun x hx=>HV.out x (hXD x hx)) (cmpI_turned HC.out HT.out);rw[List.length_append,hst.len,hXl,hb]at hr;have HRO:=Lib.hid hr;have HNX:=Lib.hid (show ∀M,M.Perm X→Srt T M→StA T D0 b (Done++M)from fun M hM hs=>hb▸hst.next HD.out (by omega) (hX▸hM) hs);have hw:IntKind.i64.wrap ((b:Int)+20)=((b+20:Nat):Int):=by rw[IntKind.wrap_i64];omega
   have HSE:=Lib.hid hS;clear hn hst hX hS hXl hXS h1 hSl hXD hr hb
   go_wp2_with fail
   refine Calls.mono (by with_reducible exact HRO.out) ?_;rintro e w2 ⟨rfl,⟨M,hm1,hs1,hi1⟩,ht2⟩;have HS2:=Lib.hid (HNX.out M hm1 hs1);have HI2:=Lib.hid hi1;have HT2:=Lib.hid (HT.out.trans ht2);clear hm1 hs1 hi1 ht2;go_wp2;go_roundw
   case rel=>exact⟨b,Done++M,rfl,by go_num,hlt,HS2,by rw[HSE.out];exact HI2,HT2⟩
   case measure=>have:=HB.out;simp[intOf];omega
  ·have hn:=HN.out
   have hst:=HST.out;obtain⟨X,hX⟩: ∃X,D0.drop a=X:=⟨_,rfl⟩;have hXl:X.length+a=N:=by rw[←hX,List.length_drop];omega
   have h1:=HR.out;rw[hX,←List.append_nil (Done++X)]at h1;have hr:=insertion_any T V g cap c N Done X [] sp wr h1 (by rw[List.append_nil,List.length_append,hst.len];omega) hl HHC.out (hX▸HD.out.sublist (List.drop_sublist _ _)) (fun x hx=>HV.out x (List.mem_of_mem_drop (hX▸hx))) (cmpI_turned HC.out HT.out);rw[List.length_append,hst.len,show a+X.length=N by omega]at hr;have HRO:=Lib.hid hr;have HNX:=Lib.hid (show ∀M,M.Perm X→Srt T M→Bk T 20 (Done++M)∧(Done++M).Perm D0 from fun M hM hs=>hst.last HD.out (by omega) (hX▸hM) hs);clear hn hst hX hXl h1 hr hb
   go_wp2_with fail
   refine Calls.mono (by with_reducible exact HRO.out) ?_;rintro e w2 ⟨rfl,⟨M,hm1,hs1,hi1⟩,ht2⟩;obtain⟨hb1,hp1⟩:=HNX.out M hm1 hs1;obtain⟨D,hDD⟩: ∃D,Done++M=D:=⟨_,rfl⟩;rw[List.append_nil,hDD]at hi1;rw[hDD]at hb1 hp1;have HBK:=Lib.hid hb1;have HP:=Lib.hid hp1;have HI2:=Lib.hid hi1;have HT2:=Lib.hid (HT.out.trans ht2);clear hm1 hs1 hi1 ht2 hb1 hp1 hDD HNX HRO HR HST HT HB hlt
   go_wp2_with fail
   go_loopw[6,7,8,9] (fun sv _ _ _ wr=> ∃(bs:Nat) (D:List Int),sv= .int .i64 bs∧0<bs∧bs≤4294967296∧Hid (D.Perm D0)∧Hid (Bk T bs D)∧Hid (IRow wr g D sp)∧Hid (Turned (fun k=>k=g) w wr)) (fun sv _ _ _ _=>N-(intOf sv).toNat)
   case atStart=>exact⟨20,D,rfl,by omega,by omega,HP,HBK,HI2,HT2⟩
   case round=>
    clear HP HBK HI2 HT2;rename World=>wr1
    obtain⟨bs,D1,rfl,hbs,hbs2,HP,HBK,HR,HT⟩:=hrel;by_cases hlb:bs<N
    ·obtain⟨b2,hb2⟩: ∃b2,2*bs=b2:=⟨_,rfl⟩
     have hw2:IntKind.i64.wrap (2*(bs:Int))=(b2:Int):=by rw[IntKind.wrap_i64];omega
     have hw3:IntKind.i64.wrap ((bs:Int)*2)=(b2:Int):=by rw[IntKind.wrap_i64];omega
     have HB2:=Lib.hid hb2;have hb2N:b2≤2147483648:=by omega
     have HSB:=Lib.hid (StB.start (D0:=D0) HP.out HBK.out);clear hb2
     go_wp2_with fail
     go_loopw[7,8] (fun av bv wr=> ∃(a:Nat) (Done Rest:List Int),av= .int .i64 a∧bv= .int .i64 ((a+b2:Nat):Int)∧a≤N∧Hid (StB T D0 bs a Done Rest)∧Hid (IRow wr g (Done++Rest) sp)∧Hid (Turned (fun k=>k=g) w wr)) (fun av _ _=>N-(intOf av).toNat)
     case atStart=>exact⟨0,[],D1,rfl,by rw[Nat.zero_add],Nat.zero_le _,HSB,HR,HT⟩
     case round=>
      clear HR HT HP HBK HSB;rename World=>wr2
      obtain⟨a,Done,Rest,rfl,rfl,haN,HST,HR,HT⟩:=hrel;obtain⟨b,hb⟩: ∃b,a+b2=b:=⟨_,rfl⟩;rw[hb];have HB:=Lib.hid hb;obtain⟨m,hm⟩: ∃m,a+bs=m:=⟨_,rfl⟩;have hw4:IntKind.i64.wrap ((a:Int)+(bs:Int))=(m:Int):=by rw[IntKind.wrap_i64];omega
      have hw5:IntKind.i64.wrap ((b:Int)+(b2:Int))=((b+b2:Nat):Int):=by rw[IntKind.wrap_i64];omega
      have HM:=Lib.hid hm;have hbN:b≤4294967296:=by omega
      have hmN:m≤4294967296:=by omega
      by_cases hlt:b≤N
      ·have hn:=HN.out
       have hst:=HST.out;have hb2:=HB2.out;obtain⟨X,Y,Z,hRe,hX,hY,sX,sY,fXY,hnx⟩:=hst.step hbs (by omega);have h1:=HR.out;rw[hRe,show Done++(X++Y++Z)=Done++X++Y++Z by simp]at h1;have hpl:=hst.perm.length_eq;rw[hRe]at hpl;have hVV: ∀x∈X++Y,V x:=fun x hx=>HV.out x (hst.perm.mem_iff.1 (by rw[hRe];rcases List.mem_append.1 hx with h|h<;>simp[h]));have hr:=symMerge_any T V g cap c N sp hl HHC.out (X.length+Y.length+1) Done X Y Z wr2 (Nat.lt_succ_self _) (by omega) (by omega) h1 (by rw[show Done++X++Y++Z=Done++(X++Y++Z) by simp,hpl,hn]) sX sY fXY hVV (cmpI_turned HC.out HT.out);rw[show(Done++X++Y).length=b by rw[List.length_append,List.length_append,hst.len];omega,show(Done++X).length=m by rw[List.length_append,hst.len];omega,hst.len]at hr;have HRO:=Lib.hid hr;have HNX:=Lib.hid (show ∀M,M.Perm (X++Y)→Srt T M→StB T D0 bs b (Done++M) Z from fun M hM hs=>by rw[←hb,←hb2];exact hnx M hM hs);clear hn hst hb2 hRe hX hY sX sY fXY hnx h1 hpl hVV hr hb hm
       go_wp2_with fail
       refine Calls.mono (by with_reducible exact HRO.out) ?_;rintro e w3 ⟨rfl,⟨M,hm1,hs1,hi1⟩,ht2⟩;have HS2:=Lib.hid (HNX.out M hm1 hs1);have HI2:=Lib.hid hi1;have HT2:=Lib.hid (HT.out.trans ht2);clear hm1 hs1 hi1 ht2;go_wp2;go_roundw
       case rel=>exact⟨b,Done++M,Z,rfl,by go_num,hlt,HS2,HI2,HT2⟩
       case measure=>have:=HB.out;have:=HB2.out;simp[intOf];omega
      ·have hn:=HN.out
       have hst:=HST.out;have hb2:=HB2.out;by_cases hmn:m<N
       ·obtain⟨X,Y,hRe,hX,hY,sX,sY,fXY,hnx⟩:=hst.endL hbs (by omega) (by omega)
        have h1:=HR.out;rw[hRe,←List.append_assoc,←List.append_nil (Done++X++Y)]at h1;have hpl:=hst.perm.length_eq;rw[hRe,←List.append_assoc]at hpl;have hVV: ∀x∈X++Y,V x:=fun x hx=>HV.out x (hst.perm.mem_iff.1 (by rw[hRe];rcases List.mem_append.1 hx with h|h<;>simp[h]));have hr:=symMerge_any T V g cap c N sp hl HHC.out (X.length+Y.length+1) Done X Y [] wr2 (Nat.lt_succ_self _) (by omega) (by omega) h1 (by rw[List.append_nil,hpl,hn]) sX sY fXY hVV (cmpI_turned HC.out HT.out);rw[hpl,hn,show(Done++X).length=m by rw[List.length_append,hst.len];omega,hst.len]at hr;have HRO:=Lib.hid hr;have HNX:=Lib.hid (show ∀M,M.Perm (X++Y)→Srt T M→Bk T b2 (Done++M)∧(Done++M).Perm D0 from fun M hM hs=>by rw[←hb2];exact hnx M hM hs);clear hn hst hb2 hRe hX hY sX sY fXY hnx h1 hpl hVV hr hb hm
        go_wp2_with fail
        refine Calls.mono (by with_reducible exact HRO.out) ?_;rintro e w3 ⟨rfl,⟨M,hm1,hs1,hi1⟩,ht2⟩;rw[List.append_nil]at hi1;obtain⟨k1,k2⟩:=HNX.out M hm1 hs1;have HS2:=Lib.hid k1;have HP2:=Lib.hid k2;have HI2:=Lib.hid hi1;have HT2:=Lib.hid (HT.out.trans ht2);clear hm1 hs1 hi1 ht2 k1 k2
        go_wp2_with fail
        exact⟨⟨b2,Done++M,rfl,by have:=HB2.out;omega,by omega,HP2,HS2,HI2,HT2⟩,by have:=HB2.out;simp[intOf];omega⟩
       ·have HS2:=Lib.hid (show Bk T b2 (Done++Rest)from by rw[←hb2];exact hst.endS hbs (by omega))
        have HP2:=Lib.hid hst.perm;have hmd:decide (m<N)=false:=decide_eq_false hmn;clear hn hst hb2 hb hm
        go_wp2_with fail
        exact⟨⟨b2,Done++Rest,rfl,by have:=HB2.out;omega,by omega,HP2,HS2,HR,HT⟩,by have:=HB2.out;simp[intOf];omega⟩
    ·have HF:Hid (Srt T D1):=Lib.hid (HBK.out.srt (by rw[HP.out.length_eq,HN.out];omega) hbs)
     go_wp2
     go_end0
     exact⟨rfl,⟨D1,HP.out,HF.out,HR.out⟩,HT.out⟩
theorem sortStable_any (T:Int→Int)(V:Int→Prop)(g cap c N:Nat)(D0:List Int)(sp:List Value)(w:World)(h:IRow w g D0 sp)(hN:D0.length=N)(hl:N≤1073741824)(hc:N≤cap∧cap≤maxLen)
 (hD:D0.Pairwise (· < ·)) (hV: ∀x∈D0,V x) (hcmp:CmpI T V g c w):
 Calls Tryz.prog 88 #[.slice (some ⟨g,0,none⟩) N cap,.func (.func 89) #[] #[.pointer (some ⟨c,0,none⟩)]] w fun e w'=>e= .returned (.tuple #[])∧(∃M,M.Perm D0∧Srt T M∧IRow w' g M sp)∧Turned (fun k=>k=g) w w':=by
 have HR:=Lib.hid (stable_any T V g cap c N D0 sp w h hN hl hc hD hV hcmp);clear h hN hl hc hD hV hcmp;go_enter Tryz.func88,Tryz.ntmps88
 go_wp2_with fail
 refine Calls.mono (by with_reducible exact HR.out) ?_;rintro e w2 ⟨rfl,h2,ht2⟩;go_wp2
 go_end0
 exact⟨rfl,h2,ht2⟩
end Go.Proofs.YtjhbeecmdgglgaaGreatDoor
namespace Go.Proofs.YtjhbeecmdgglgaaGreatDoor
open Go.RowKit
open tm (fitsB fits_of)
theorem timeAt_ac {R:List Chn}{i:Nat}{x:Chn}(h:R[i]?=some x):timeAt (ac R) (i:Int)=x.k:=by
 unfold timeAt ac;rw[Int.toNat_natCast,List.getD_eq_getElem?_getD,List.getElem?_map,h];rfl
theorem rowAt_ac {R:List Chn}{i:Nat}{x:Chn}(h:R[i]?=some x):rowAt (ac R) i=x.r:=by
 unfold rowAt ac;rw[List.getD_eq_getElem?_getD,List.getElem?_map,h];rfl
set_option maxHeartbeats 2000000 in
set_option maxRecDepth 10000 in
theorem part1_any (c:Nat)(vR:Value)(R:List Chn)(i j:Nat)(wE W:World)(hR:Chs wE vR R)(hb:Below wE.heap.size wE W)(hk:Blk W c 26 #[vR])(hf: ∀x∈R,fitsB x.k=true)(hi:i<R.length)(hj:j<R.length):
 Calls Tryz.prog 89 #[.int .i64 i,.int .i64 j,.pointer (some ⟨c,0,none⟩)] W fun e W'=>e= .returned (.int .i64 (timeAt (ac R) i-timeAt (ac R) j))∧Below W.heap.size W W':=by
 obtain⟨A,cp,hv,n1,n2,-⟩:=id hR.sl;unfold maxLen at n2;have hx:=List.getElem?_eq_getElem (l:=R) hi;generalize R[i]=x at hx;have hy:=List.getElem?_eq_getElem (l:=R) hj;generalize R[j]=y at hy;rw[timeAt_ac hx,timeAt_ac hy];obtain⟨b,off,hA,-,hc⟩:=chn_at hR.sl hv hx;obtain⟨b',off',hA',-,hc'⟩:=chn_at hR.sl hv hy;rw[hA]at hA';injection hA' with hA';injection hA' with e1 e2 _;subst e1 e2;have d0:=(hc W hb).1;have d1:=(hc' W hb).1;have k0:=hk.cell 0 _ rfl;rw[hv,hA]at k0;have fx:=fits_of (hf x (List.mem_of_getElem? hx));have fy:=fits_of (hf y (List.mem_of_getElem? hy));have i0:(0:Int)≤(i:Int):=by omega
 have i1:(i:Int)<(R.length:Int):=by omega
 have j0:(0:Int)≤(j:Int):=by omega
 have j1:(j:Int)<(R.length:Int):=by omega
 have hw:IntKind.i64.wrap (x.k-y.k)=x.k-y.k:=by rw[IntKind.wrap_i64];omega
 clear hx hy hc hc' hR hf hA hv;go_enter Tryz.func89,Tryz.ntmps89
 go_wp2_with fail
 go_quiet (fail)
 go_wp2;go_ret;exact⟨rfl,⟨rfl,rfl,rfl,Nat.le_refl _,fun _ _=>rfl⟩⟩
set_option maxHeartbeats 2000000 in
set_option maxRecDepth 10000 in
theorem part2_any (c6 c7 c5 g cap k:Nat)(z:Int)(vR:Value)(R:List Chn)(M:List Int)(sp:List Value)(t:Int)(u:Value)(wE W:World)(hR:Chs wE vR R)(hb:Below wE.heap.size wE W)(hk6:Blk W c6 26 #[vR])(hk7:Blk W c7 22 #[.slice (some ⟨g,0,none⟩) M.length cap])
 (hk5:Blk W c5 53 #[.int .i64 t,u]) (hI:IRow W g M sp) (hM:M[k]?=some z) (hz:0≤z∧z<R.length) (hl:M.length≤1073741824):
 Calls Tryz.prog 91 #[.int .i64 k,.pointer (some ⟨c6,0,none⟩),.pointer (some ⟨c7,0,none⟩),.pointer (some ⟨c5,0,none⟩)] W fun e W'=>e= .returned (.bool (decide (t<timeAt (ac R) z)))∧Below W.heap.size W W':=by
 obtain⟨A,cp,hv,n1,n2,-⟩:=id hR.sl;unfold maxLen at n2;obtain⟨i,rfl⟩: ∃i:Nat,(i:Int)=z:=⟨z.toNat,by omega⟩;have hi:i<R.length:=by omega
 have hx:=List.getElem?_eq_getElem (l:=R) hi;generalize R[i]=x at hx;rw[timeAt_ac hx];obtain⟨b,off,hA,-,hc⟩:=chn_at hR.sl hv hx;have d0:=(hc W hb).1;have k6:=hk6.cell 0 _ rfl;have k7:=hk7.cell 0 _ rfl;have k5:=hk5.cell 0 _ rfl;have kM:=hI.cell hM;rw[hv,hA]at k6;have hkl:k<M.length:=(List.getElem?_eq_some_iff.1 hM).1;have i0:(0:Int)≤(i:Int):=by omega
 have i1:(i:Int)<(R.length:Int):=by omega
 have j0:(0:Int)≤(k:Int):=by omega
 have j1:(k:Int)<(M.length:Int):=by omega
 clear hx hc hR hA hv hM hI hz;go_enter Tryz.func91,Tryz.ntmps91
 go_wp2_with fail
 go_quiet (fail)
 go_wp2;go_ret;exact⟨rfl,⟨rfl,rfl,rfl,Nat.le_refl _,fun _ _=>rfl⟩⟩
set_option maxHeartbeats 2000000 in
set_option maxRecDepth 10000 in
theorem search_any (n:Nat)(cb:Array Value)(F:Nat→Bool)(w:World)(hn:n≤1073741824)
 (hF: ∀(W:World) (k:Nat),Below w.heap.size w W→k<n→Calls Tryz.prog 91 (#[.int .i64 k]++cb) W fun e W'=>e= .returned (.bool (F k))∧Below W.heap.size W W'):
 Calls Tryz.prog 90 #[.int .i64 n,.func (.func 91) #[] cb] w fun e w'=> ∃i:Nat,e= .returned (.int .i64 i)∧i≤n∧(i=0∨F (i-1)=false)∧(i=n∨F i=true)∧Below w.heap.size w w':=by
 have eg: ∀args w,(callFunc 91 args).run Tryz.prog w= .ok (.enter 91 args) w:=enters_of Tryz.func91 (by kernel_rfl) rfl;have HF:=Lib.hid hF;clear hF;go_enter Tryz.func90,Tryz.ntmps90
 go_wp2_with fail
 go_loopw[5,6,7] (fun iv jv _ wr=> ∃i j:Nat,iv= .int .i64 i∧jv= .int .i64 j∧i≤j∧j≤n∧Hid (i=0∨F (i-1)=false)∧Hid (j=n∨F j=true)∧Below w.heap.size w wr) (fun iv jv _ _=>(intOf jv).toNat-(intOf iv).toNat)
 case atStart=>exact⟨0,n,rfl,rfl,Nat.zero_le _,Nat.le_refl _,Lib.hid (.inl rfl),Lib.hid (.inl rfl),Below.refl _ _⟩
 case round=>
  rename World=>wr
  obtain⟨i,j,rfl,rfl,hij,hj,HG1,HG2,hbw⟩:=hrel;by_cases hlt:i<j
  ·obtain⟨k,hk⟩: ∃k,(i+j)/ 2=k:=⟨_,rfl⟩
   have hki:i≤k:=by omega
   have hkj:k<j:=by omega
   have hq2:((i:Int)+(j:Int))/ 2=(k:Int):=by omega
   have HC:=Lib.hid (HF.out wr k hbw (by omega));have HK:=Lib.hid hk;clear hk;cases hz:F k
   ·rw[hz]at HC
    have HG1':Hid (k+1=0∨F (k+1-1)=false):=Lib.hid (.inr (by rw[Nat.add_sub_cancel];exact hz));clear hz
    go_wp2_with fail
    refine Calls.mono (by with_reducible exact HC.out) ?_;rintro e w2 ⟨rfl,hb2⟩;have hbw2:=below_trans hbw hb2;clear hb2;go_wp2;go_roundw
    case rel=>exact⟨k+1,j,by go_num,rfl,by omega,hj,HG1',HG2,hbw2⟩
    case measure=>simp[intOf];omega
   ·rw[hz]at HC
    have HG2':Hid (k=n∨F k=true):=Lib.hid (.inr hz);clear hz
    go_wp2_with fail
    refine Calls.mono (by with_reducible exact HC.out) ?_;rintro e w2 ⟨rfl,hb2⟩;have hbw2:=below_trans hbw hb2;clear hb2;go_wp2;go_roundw
    case rel=>exact⟨i,k,rfl,rfl,hki,by omega,HG1,HG2',hbw2⟩
    case measure=>simp[intOf];omega
  ·obtain rfl:i=j:=by omega
   go_wp2;go_ret;exact⟨i,rfl,hj,HG1.out,HG2.out,hbw⟩
end Go.Proofs.YtjhbeecmdgglgaaGreatDoor
namespace Go.Proofs.YtjhbeecmdgglgaaGreatDoor
open Go.RowKit
open tm (fitsB fits_of fits_any winF window_any meetsF meets_any meets_ok start_any)
theorem start_q {t size:Int}{w:World}{n:Nat}{v:Value}(h:Calls Tryz.prog 126 #[.int .i64 t,.int .i64 size] (w.drewN n) fun e w'=>e= .returned v∧w.drewN n=w'):Calls Tryz.prog 126 #[.int .i64 t,.int .i64 size] (w.drewN n) fun e w'=>e= .returned v∧ ∃k,w'=w.drewN k:=
 h.mono fun e w' h'=>⟨h'.1,n,h'.2.symm⟩
structure MeetP (p:Pl):Prop where
 one:p.kind=1→fitsB p.low=true∧fitsB p.high=true∧p.low≤p.high
 two:p.kind≠1→p.kind≠3→1≤p.size∧p.size≤1099511627776
set_option maxHeartbeats 2000000 in
set_option maxRecDepth 10000 in
theorem bmeets_any (p:Pl)(l r:Int)(w:World)(h:p.ok w)(hp:MeetP p)(hk:p.kind≠3)(hl:fitsB l=true)(hr:fitsB r=true):
 Calls Tryz.prog 92 #[.agg #[.int .i64 p.kind,.int .i64 p.mode,.int .i64 p.low,.int .i64 p.high,.int .i64 p.size,.int .i64 p.limit,p.vl,p.vr,p.vk,p.vq,.bool p.grouped,p.vg,p.va],.int .i64 l,.int .i64 r] w fun e w'=>e= .returned (.bool (meetT p.kind p.low p.high p.size l r))∧Below w.heap.size w w':=by
 obtain⟨A0,c0,h0,n0,m0,-⟩:=id h.l;obtain⟨A1,c1,h1,n1,m1,-⟩:=id h.r;obtain⟨A2,c2,h2,n2,m2,-⟩:=id h.k;obtain⟨A3,c3,h3,n3,m3,-⟩:=id h.q;obtain⟨A4,c4,h4,n4,m4,-⟩:=id h.g;obtain⟨A5,c5,h5,n5,m5,-⟩:=id h.a;rw[h0,h1,h2,h3,h4,h5];have hb1:=below_alloc w (.cells #[.int .i64 p.kind,.int .i64 p.mode,.int .i64 p.low,.int .i64 p.high,.int .i64 p.size,.int .i64 p.limit,.slice A0 p.left.length c0,.slice A1 p.right.length c1,.slice A2 p.lkeys.length c2,.slice A3 p.rkeys.length c3,.bool p.grouped,.slice A4 p.group.length c4,.slice A5 p.aggs.length c5] 25);have HK0:=Lib.hid (Blk.new w 25 #[.int .i64 p.kind,.int .i64 p.mode,.int .i64 p.low,.int .i64 p.high,.int .i64 p.size,.int .i64 p.limit,.slice A0 p.left.length c0,.slice A1 p.right.length c1,.slice A2 p.lkeys.length c2,.slice A3 p.rkeys.length c3,.bool p.grouped,.slice A4 p.group.length c4,.slice A5 p.aggs.length c5]);obtain⟨z0,z1,z2,z3,z4,z5,z6,z7,z8,z9,z10,z11,z12⟩:=pl_cells HK0.out;clear h h0 h1 h2 h3 h4 h5 n0 n1 n2 n3 n4 n5 m0 m1 m2 m3 m4 m5;have HP:=Lib.hid hp;have fl:=fits_of hl;have fr:=fits_of hr;clear hp;by_cases hk1:p.kind=1
 ·have hb:=beqT hk1
  obtain⟨f1,f2,f3⟩:=HP.out.one hk1;have hme:=meets_ok hl hr f1 f2 f3;have HMT:=Lib.hid (fun W=>meets_any l r p.low p.high W);rw[hme]at HMT
  have HE:Hid (meetT p.kind p.low p.high p.size l r=(decide (l+p.low≤r)&&decide (r≤l+p.high))):=Lib.hid (by
   unfold meetT;rw[if_pos hk1,Bool.eq_iff_iff];simp only[Bool.and_eq_true,decide_eq_true_eq];omega)
  clear hme hk1 hk f1 f2 f3;go_enter Tryz.func92,Tryz.ntmps92
  go_wp2_with fail
  refine Calls.mono (by with_reducible exact HMT.out _) ?_;rintro e w2 ⟨rfl,rfl⟩;go_wp2;go_ret;exact⟨by rw[HE.out];rfl,hb1⟩
 ·have hb:=beqF hk1
  obtain⟨s1,s2⟩:=HP.out.two hk1 hk;have HW1:=Lib.hid (fun W=>window_any l p.size W fl.1 fl.2 s1 s2);have HW2:=Lib.hid (fun W=>window_any r p.size W fr.1 fr.2 s1 s2)
  have HE:Hid (meetT p.kind p.low p.high p.size l r=(winF l p.size==winF r p.size)):=Lib.hid (by
   unfold meetT;rw[if_neg hk1])
  clear hk1 hk;go_enter Tryz.func92,Tryz.ntmps92
  go_wp2_with fail
  refine Calls.mono (by with_reducible exact HW1.out _) ?_;rintro e w2 ⟨rfl,rfl⟩
  go_wp2_with fail
  refine Calls.mono (by with_reducible exact HW2.out _) ?_;rintro e w2 ⟨rfl,rfl⟩;go_wp2;go_ret;exact⟨by rw[HE.out];rfl,hb1⟩
set_option maxHeartbeats 2000000 in
set_option maxRecDepth 10000 in
theorem rmeet_any (p:Pl)(l r:Int)(w:World)(h:p.ok w)(hp:MeetP p)(hk:p.kind≠3)(hl:fitsB l=true)(hr:fitsB r=true):
 Calls Tryz.prog 95 #[.agg #[.int .i64 p.kind,.int .i64 p.mode,.int .i64 p.low,.int .i64 p.high,.int .i64 p.size,.int .i64 p.limit,p.vl,p.vr,p.vk,p.vq,.bool p.grouped,p.vg,p.va],.int .i64 l,.int .i64 r] w fun e w'=>e= .returned (.bool (meetT p.kind p.low p.high p.size l r))∧Below w.heap.size w w':=by
 obtain⟨A0,c0,h0,n0,m0,-⟩:=id h.l;obtain⟨A1,c1,h1,n1,m1,-⟩:=id h.r;obtain⟨A2,c2,h2,n2,m2,-⟩:=id h.k;obtain⟨A3,c3,h3,n3,m3,-⟩:=id h.q;obtain⟨A4,c4,h4,n4,m4,-⟩:=id h.g;obtain⟨A5,c5,h5,n5,m5,-⟩:=id h.a;rw[h0,h1,h2,h3,h4,h5];have hb1:=below_alloc w (.cells #[.int .i64 p.kind,.int .i64 p.mode,.int .i64 p.low,.int .i64 p.high,.int .i64 p.size,.int .i64 p.limit,.slice A0 p.left.length c0,.slice A1 p.right.length c1,.slice A2 p.lkeys.length c2,.slice A3 p.rkeys.length c3,.bool p.grouped,.slice A4 p.group.length c4,.slice A5 p.aggs.length c5] 25);have HK0:=Lib.hid (Blk.new w 25 #[.int .i64 p.kind,.int .i64 p.mode,.int .i64 p.low,.int .i64 p.high,.int .i64 p.size,.int .i64 p.limit,.slice A0 p.left.length c0,.slice A1 p.right.length c1,.slice A2 p.lkeys.length c2,.slice A3 p.rkeys.length c3,.bool p.grouped,.slice A4 p.group.length c4,.slice A5 p.aggs.length c5]);obtain⟨z0,z1,z2,z3,z4,z5,z6,z7,z8,z9,z10,z11,z12⟩:=pl_cells HK0.out;clear h h0 h1 h2 h3 h4 h5 n0 n1 n2 n3 n4 n5 m0 m1 m2 m3 m4 m5;have HP:=Lib.hid hp;have fl:=fits_of hl;have fr:=fits_of hr;clear hp;by_cases hk1:p.kind=1
 ·have hb:=beqT hk1
  have hw:IntKind.i64.wrap (r-l)=r-l:=by rw[IntKind.wrap_i64];omega
  have HE:Hid (meetT p.kind p.low p.high p.size l r=(decide (p.low≤r-l)&&decide (r-l≤p.high))):=Lib.hid (by
   unfold meetT;rw[if_pos hk1,Bool.eq_iff_iff];simp only[Bool.and_eq_true,decide_eq_true_eq])
  clear hk1 hk;by_cases g1:p.low≤r-l
  ·by_cases g2:r-l≤p.high
   ·have HE2:Hid (meetT p.kind p.low p.high p.size l r=true):=Lib.hid (by rw[HE.out,decide_eq_true g1,decide_eq_true g2];rfl)
    go_enter Tryz.func95,Tryz.ntmps95
    go_wp2;go_ret;exact⟨by rw[HE2.out];rfl,hb1⟩
   ·have HE2:Hid (meetT p.kind p.low p.high p.size l r=false):=Lib.hid (by rw[HE.out,decide_eq_false g2,Bool.and_false])
    have g3:decide (r-l≤p.high)=false:=decide_eq_false g2;go_enter Tryz.func95,Tryz.ntmps95
    go_wp2;go_ret;exact⟨by rw[HE2.out];rfl,hb1⟩
  ·have HE2:Hid (meetT p.kind p.low p.high p.size l r=false):=Lib.hid (by rw[HE.out,decide_eq_false g1];rfl)
   have g3:decide (p.low≤r-l)=false:=decide_eq_false g1;go_enter Tryz.func95,Tryz.ntmps95
   go_wp2;go_ret;exact⟨by rw[HE2.out];rfl,hb1⟩
 ·have hb:=beqF hk1
  obtain⟨s1,s2⟩:=HP.out.two hk1 hk;have HW1:=Lib.hid (fun W=>start_any l p.size W fl.1 fl.2 s1 s2);have HW2:=Lib.hid (fun W=>start_any r p.size W fr.1 fr.2 s1 s2)
  have HE:Hid (meetT p.kind p.low p.high p.size l r=(winF l p.size==winF r p.size)):=Lib.hid (by
   unfold meetT;rw[if_neg hk1])
  generalize winF l p.size=wl at HW1 HE;generalize winF r p.size=wr at HW2 HE;clear hk1 hk;go_enter Tryz.func95,Tryz.ntmps95
  go_wp2_with fail
  go_quiet ((go_at_call 126;first|with_reducible exact start_q (HW1.out _)|with_reducible exact start_q (HW2.out _)))
  go_wp2;go_ret;exact⟨by rw[HE.out];rfl,⟨hb1.os,hb1.tape,hb1.output,hb1.size,hb1.block⟩⟩
set_option maxHeartbeats 1000000 in
set_option maxRecDepth 10000 in
theorem keepsLeft_any (p:Pl)(w:World)(h:p.ok w):
 Calls Tryz.prog 49 #[.agg #[.int .i64 p.kind,.int .i64 p.mode,.int .i64 p.low,.int .i64 p.high,.int .i64 p.size,.int .i64 p.limit,p.vl,p.vr,p.vk,p.vq,.bool p.grouped,p.vg,p.va]] w fun e w'=>e= .returned (.bool (keepsB p 1))∧Below w.heap.size w w':=by
 obtain⟨A0,c0,h0,n0,m0,-⟩:=id h.l;obtain⟨A1,c1,h1,n1,m1,-⟩:=id h.r;obtain⟨A2,c2,h2,n2,m2,-⟩:=id h.k;obtain⟨A3,c3,h3,n3,m3,-⟩:=id h.q;obtain⟨A4,c4,h4,n4,m4,-⟩:=id h.g;obtain⟨A5,c5,h5,n5,m5,-⟩:=id h.a;rw[h0,h1,h2,h3,h4,h5];have hb1:=below_alloc w (.cells #[.int .i64 p.kind,.int .i64 p.mode,.int .i64 p.low,.int .i64 p.high,.int .i64 p.size,.int .i64 p.limit,.slice A0 p.left.length c0,.slice A1 p.right.length c1,.slice A2 p.lkeys.length c2,.slice A3 p.rkeys.length c3,.bool p.grouped,.slice A4 p.group.length c4,.slice A5 p.aggs.length c5] 25);clear h h0 h1 h2 h3 h4 h5 n0 n1 n2 n3 n4 n5 m0 m1 m2 m3 m4 m5;have HE:Hid (keepsB p 1=(p.mode==2||p.mode==4)):=Lib.hid rfl;cases hq:(p.mode==2)with
 |true=>
  rw[hq]at HE;go_enter Tryz.func49,Tryz.ntmps49
  go_wp2;go_ret;exact⟨by rw[HE.out];rfl,hb1⟩
 |false=>
  cases hq4:(p.mode==4)<;>rw[hq,hq4]at HE
  all_goals
   go_enter Tryz.func49,Tryz.ntmps49
   go_wp2;go_ret;exact⟨by rw[HE.out];rfl,hb1⟩
set_option maxHeartbeats 1000000 in
set_option maxRecDepth 10000 in
theorem keepsRight_any (p:Pl)(w:World)(h:p.ok w):
 Calls Tryz.prog 51 #[.agg #[.int .i64 p.kind,.int .i64 p.mode,.int .i64 p.low,.int .i64 p.high,.int .i64 p.size,.int .i64 p.limit,p.vl,p.vr,p.vk,p.vq,.bool p.grouped,p.vg,p.va]] w fun e w'=>e= .returned (.bool (keepsB p 2))∧Below w.heap.size w w':=by
 obtain⟨A0,c0,h0,n0,m0,-⟩:=id h.l;obtain⟨A1,c1,h1,n1,m1,-⟩:=id h.r;obtain⟨A2,c2,h2,n2,m2,-⟩:=id h.k;obtain⟨A3,c3,h3,n3,m3,-⟩:=id h.q;obtain⟨A4,c4,h4,n4,m4,-⟩:=id h.g;obtain⟨A5,c5,h5,n5,m5,-⟩:=id h.a;rw[h0,h1,h2,h3,h4,h5];have hb1:=below_alloc w (.cells #[.int .i64 p.kind,.int .i64 p.mode,.int .i64 p.low,.int .i64 p.high,.int .i64 p.size,.int .i64 p.limit,.slice A0 p.left.length c0,.slice A1 p.right.length c1,.slice A2 p.lkeys.length c2,.slice A3 p.rkeys.length c3,.bool p.grouped,.slice A4 p.group.length c4,.slice A5 p.aggs.length c5] 25);clear h h0 h1 h2 h3 h4 h5 n0 n1 n2 n3 n4 n5 m0 m1 m2 m3 m4 m5;have HE:Hid (keepsB p 2=(p.mode==3||p.mode==4)):=Lib.hid rfl;cases hq:(p.mode==3)with
 |true=>
  rw[hq]at HE;go_enter Tryz.func51,Tryz.ntmps51
  go_wp2;go_ret;exact⟨by rw[HE.out];rfl,hb1⟩
 |false=>
  cases hq4:(p.mode==4)<;>rw[hq,hq4]at HE
  all_goals
   go_enter Tryz.func51,Tryz.ntmps51
   go_wp2;go_ret;exact⟨by rw[HE.out];rfl,hb1⟩
end Go.Proofs.YtjhbeecmdgglgaaGreatDoor
namespace Go.Proofs.YtjhbeecmdgglgaaGreatDoor
open Go.RowKit Go.Maps
structure PrtI where
 r:List Val
 v:Value
 l:List Int
def axI (X:List PrtI):AV:=X.map fun q=>(q.r,codeV q.v)
def putXI:List PrtI→List Val→Value→Int→List PrtI
 |[],k,v,c=>[⟨k,v,[c]⟩]
 |x::t,k,v,c=>if rowsF x.r k=0 then⟨x.r,v,x.l++[c]⟩::t else if rowsF x.r k<0 then x::putXI t k v c else⟨k,v,[c]⟩::x::t
def lookI:List PrtI→List Val→Value×List Int
 |[],_=>(.slice none 0 0,[])
 |x::t,k=>if rowsF x.r k=0 then(x.v,x.l)else lookI t k
theorem axI_put (X:List PrtI)(k:List Val)(v:Value)(c:Int):axI (putXI X k v c)=putA (axI X) k (codeV v):=by
 induction X with
 |nil=>rfl
 |cons x t ih=>
  show axI (if rowsF x.r k=0 then⟨x.r,v,x.l++[c]⟩::t else if rowsF x.r k<0 then x::putXI t k v c else⟨k,v,[c]⟩::x::t)=(if rowsF x.r k=0 then(x.r,codeV v)::axI t else if rowsF x.r k<0 then(x.r,codeV x.v)::putA (axI t) k (codeV v)else(k,codeV v)::(x.r,codeV x.v)::axI t);by_cases h1:rowsF x.r k=0
  ·rw[if_pos h1,if_pos h1];rfl
  ·rw[if_neg h1,if_neg h1]
   by_cases h2:rowsF x.r k<0
   ·rw[if_pos h2,if_pos h2,←ih];rfl
   ·rw[if_neg h2,if_neg h2];rfl
theorem look_axI (X:List PrtI)(k:List Val):lookA (axI X) k=codeV (lookI X k).1:=by
 induction X with
 |nil=>rfl
 |cons x t ih=>
  show(if rowsF x.r k=0 then codeV x.v else lookA (axI t) k)=codeV (if rowsF x.r k=0 then(x.v,x.l)else lookI t k).1;by_cases h1:rowsF x.r k=0
  ·rw[if_pos h1,if_pos h1]
  ·rw[if_neg h1,if_neg h1];exact ih
theorem putXI_mem {X:List PrtI}{k:List Val}{v:Value}{c:Int}{q:PrtI}(hs:Rises (axI X))(hk:GoodR k)(h:q∈putXI X k v c):(q.v=v∧q.l=(lookI X k).2++[c]∧q.r=k)∨(q∈X∧q.r≠k):=by
 induction X with
 |nil=>
  rw[List.mem_singleton.1 h];exact .inl ⟨rfl,rfl,rfl⟩
 |cons x t ih=>
  have hx:=hs.good (x.r,codeV x.v) (List.mem_cons_self ..);have hx:GoodR x.r:=hx;have ht:Rises (axI t):=⟨fun p hp=>hs.good p (List.mem_cons_of_mem _ hp),(List.pairwise_cons.1 hs.rise).2⟩;have hlt: ∀y∈t,rowsF x.r y.r<0:=fun y hy=>(List.pairwise_cons.1 hs.rise).1 (y.r,codeV y.v) (List.mem_map.2 ⟨y,hy,rfl⟩);have hgt: ∀y∈t,GoodR y.r:=fun y hy=>ht.good (y.r,codeV y.v) (List.mem_map.2 ⟨y,hy,rfl⟩);unfold putXI at h;unfold lookI;by_cases h1:rowsF x.r k=0
  ·have e:x.r=k:=(rowsF_zero hx hk).1 h1
   rw[if_pos h1]at h⊢;rcases List.mem_cons.1 h with rfl|h
   ·exact .inl ⟨rfl,rfl,e⟩
   ·refine .inr ⟨List.mem_cons_of_mem _ h,fun e2=> ?_⟩
    have:=hlt q h;rw[e,e2,rowsF_self hk]at this;omega
  ·rw[if_neg h1]at h⊢
   by_cases h2:rowsF x.r k<0
   ·rw[if_pos h2]at h
    rcases List.mem_cons.1 h with rfl|h
    ·exact .inr ⟨List.mem_cons_self ..,fun e=>h1 (by rw[e];exact rowsF_self hk)⟩
    ·rcases ih ht h with h|h
     ·exact .inl h
     ·exact .inr ⟨List.mem_cons_of_mem _ h.1,h.2⟩
   ·rw[if_neg h2]at h
    have hnone: ∀s:List PrtI,(∀y∈s,rowsF y.r k≠0)→lookI s k=(.slice none 0 0,[]):=by
     intro s
     induction s with
     |nil=>intro _;rfl
     |cons y s ih2=>
      intro hy;unfold lookI;rw[if_neg (hy y (by simp))];exact ih2 fun z hz=>hy z (by simp[hz])
    have hne: ∀y∈t,rowsF y.r k≠0:=fun y hy e=>by
     have e:=(rowsF_zero (hgt y hy) hk).1 e;have:=hlt y hy;rw[e]at this;omega
    rcases List.mem_cons.1 h with rfl|h
    ·rw[hnone t hne]
     exact .inl ⟨rfl,rfl,rfl⟩
    ·rcases List.mem_cons.1 h with rfl|h
     ·exact .inr ⟨List.mem_cons_self ..,fun e=>h1 (by rw[e];exact rowsF_self hk)⟩
     ·exact .inr ⟨List.mem_cons_of_mem _ h,fun e=>hne q h (by rw[e];exact rowsF_self hk)⟩
theorem lookI_mem {X:List PrtI}{k:List Val}(hs:Rises (axI X))(hk:GoodR k):((lookI X k)=(.slice none 0 0,[])∧ ∀q∈X,q.r≠k)∨ ∃q∈X,q.r=k∧lookI X k=(q.v,q.l):=by
 induction X with
 |nil=>exact .inl ⟨rfl,nofun⟩
 |cons x t ih=>
  have hx:GoodR x.r:=hs.good (x.r,codeV x.v) (List.mem_cons_self ..);have ht:Rises (axI t):=⟨fun p hp=>hs.good p (List.mem_cons_of_mem _ hp),(List.pairwise_cons.1 hs.rise).2⟩;unfold lookI;by_cases h1:rowsF x.r k=0
  ·rw[if_pos h1]
   exact .inr ⟨x,by simp,(rowsF_zero hx hk).1 h1,rfl⟩
  ·rw[if_neg h1]
   rcases ih ht with⟨h2,h3⟩|⟨q,hq,h2,h3⟩
   ·refine .inl ⟨h2,fun q hq=> ?_⟩
    rcases List.mem_cons.1 hq with rfl|hq
    ·exact fun e=>h1 ((rowsF_zero hx hk).2 e)
    ·exact h3 q hq
   ·exact .inr ⟨q,by simp[hq],h2,h3⟩
structure IMap (w:World) (base M N:Nat) (X:List PrtI):Prop where
 map: ∃n,n≤N∧w.ownsMap Tryz.prog 9 slcE M n (mkD (axI X))
 mb:base≤M
 rises:Rises (axI X)
 each: ∀q∈X,w.ownsRow base 3 1 q.v q.l.length (intCells q.l)
 few: ∀q∈X,q.l.length≤N
 far: ∀q∈X,q.v.ownBlock≠some M
 apart: ∀p∈X,∀q∈X,p.r≠q.r→ ∀k,p.v.ownBlock=some k→q.v.ownBlock≠some k
def IBk (M:Nat) (X:List PrtI) (k:Nat):Prop:=k=M∨ ∃q∈X,q.v.ownBlock=some k
theorem IMap.lt {w:World}{base M N:Nat}{X:List PrtI}(h:IMap w base M N X):M<w.heap.size:=by
 obtain⟨n,-,h⟩:=h.map;exact h.lt
theorem IMap.range {w:World}{base M N:Nat}{X:List PrtI}(h:IMap w base M N X){k:Nat}(hk:IBk M X k):base≤k∧k<w.heap.size:=by
 rcases hk with rfl|⟨q,hq,hk⟩
 ·exact⟨h.mb,h.lt⟩
 ·exact(h.each q hq).lt k hk
theorem IMap.turned {F:Nat→Prop}{w w':World}{base M N:Nat}{X:List PrtI}(h:IMap w base M N X)(ht:Turned F w w')(hf: ∀k,IBk M X k→ ¬F k):IMap w' base M N X:=by
 obtain⟨n,hn,hm⟩:=h.map;exact⟨⟨n,hn,map_turned hm ht (hf M (.inl rfl))⟩,h.mb,h.rises,fun q hq=>own_turned (h.each q hq) ht fun k hk=>hf k (.inr ⟨q,hq,hk⟩),h.few,h.far,h.apart⟩
theorem IMap.below {w w':World}{base M N:Nat}{X:List PrtI}(h:IMap w base M N X)(hb:Below w.heap.size w w'):IMap w' base M N X:=h.turned (turned_below (F:=fun _=>False) hb) fun _ _ hf=>hf
theorem IMap.made (w:World)(base:Nat)(hb:base≤w.heap.size):IMap (w.alloc (.map #[] 0)) base w.heap.size 0 []:=
 ⟨⟨0,Nat.le_refl _,World.ownsMap_made w Tryz.prog 9 slcE⟩,hb,Rises.nil,nofun,nofun,nofun,nofun⟩
theorem zeroLI (w:World):(zeroValue 22).run Tryz.prog w= .ok (.slice none 0 0) w:=by kernel_rfl
theorem IMap.found {w:World}{base M N:Nat}{X:List PrtI}{k:List Val}(h:IMap w base M N X)(hk:GoodR k):w.ownsRow base 3 1 (lookI X k).1 (lookI X k).2.length (intCells (lookI X k).2)∧(lookI X k).2.length≤N∧(lookI X k).1.ownBlock≠some M:=by
 rcases lookI_mem h.rises hk with⟨e,-⟩|⟨q,hq,-,e⟩
 ·rw[e]
  exact⟨⟨rfl,.inl ⟨rfl,rfl⟩⟩,Nat.zero_le _,by simp[Value.ownBlock]⟩
 ·rw[e]
  exact⟨h.each q hq,h.few q hq,h.far q hq⟩
theorem IMap.look {w:World}{base M N:Nat}{X:List PrtI}{k:List Val}(h:IMap w base M N X)(hk:GoodR k)(hN:N≤1000000):(Instr.lookup 70 (.map (some M)) (.string (str (keyRow k))) false).run Tryz.prog w= .ok (lookI X k).1 w:=by
 obtain⟨n,-,hm⟩:=h.map;obtain⟨v,ps,hrun,hv⟩:=hm.lookup (t:=70) lawS Tryz.underlying70 (zeroLI w) (zd:= .lit (.int .i64 0)) (zp:=[]) rfl (keyS hk);rw[mkD_at h.rises.good hk,look_axI]at hv;have hf:=h.found hk;rw[hrun,slcE_inv hv (slcE_own hf.1 (by have:=hf.2.1;unfold maxLen;omega))]
theorem IMap.put {w w1 w2 w3:World}{base M N:Nat}{X:List PrtI}{k:List Val}{c:Int}{v':Value}(h:IMap w base M N X)(hk:GoodR k)(hb:Below w.heap.size w w1)
 (hown:w2.ownsRow base 3 1 v' ((lookI X k).2.length+1) (intCells ((lookI X k).2++[c]))) (hg:w1.grownBy w2 (lookI X k).1.ownBlock) (hat:v'.ownBlock=(lookI X k).1.ownBlock∨ ∀j,v'.ownBlock=some j→w1.heap.size≤j)
 (hm: ∀n,w.ownsMap Tryz.prog 9 slcE M n (mkD (axI X))→n≤N→ ∃m,m≤N+1∧w3.ownsMap Tryz.prog 9 slcE M m (mkD (putA (axI X) k (codeV v')))) (hg3:w2.grownBy w3 (some M)):
 IMap w3 base M (N+1) (putXI X k v' c)∧Turned (IBk M X) w w3∧ ∀j,j<w.heap.size→IBk M (putXI X k v' c) j→IBk M X j:=by
 have hf:=h.found hk;have hlt:=h.lt;have hsz:=hb.size;have hM: ∀ {j},some M=some j→j=M:=fun e=>by injection e with e;exact e.symm
 have hv': ∀j,v'.ownBlock=some j→(lookI X k).1.ownBlock=some j∨w.heap.size≤j:=fun j hj=>by
  rcases hat with e|e
  ·exact .inl (e▸hj)
  ·exact .inr (Nat.le_trans hsz (e j hj))
 have hvM:v'.ownBlock≠some M:=fun e=>by
  rcases hv' M e with h1|h1
  ·exact hf.2.2 h1
  ·omega
 have ho: ∀q∈X,q.r≠k→ ∀j,q.v.ownBlock=some j→(lookI X k).1.ownBlock≠some j:=fun q hq hne j hj e=>by
  rcases lookI_mem h.rises hk with⟨e1,-⟩|⟨q',hq',e2,e3⟩
  ·rw[e1]at e;cases e
  ·rw[e3]at e
   exact h.apart q hq q' hq' (fun e4=>hne (e4.trans e2)) j hj e
 have ht:Turned (IBk M X) w w3:=(((turned_below (F:=IBk M X) hb).transN (turned_grown hg) (fun i _ e=>by
  rcases lookI_mem h.rises hk with⟨e1,-⟩|⟨q',hq',e2,e3⟩
  ·rw[e1]at e;cases e
  ·rw[e3]at e
   exact .inr ⟨q',hq',e⟩))).transN (turned_grown hg3) fun i _ e=> .inl (hM e)
 refine⟨⟨?_,h.mb,?_,fun q hq=> ?_,fun q hq=> ?_,fun q hq=> ?_,fun p hp q hq hne j hj e=> ?_⟩,ht,fun j hj hpb=> ?_⟩
 ·obtain⟨n,hn,hmm⟩:=h.map
  rw[axI_put];exact hm n hmm hn
 ·rw[axI_put]
  exact rises_put h.rises hk
 ·rcases putXI_mem h.rises hk hq with⟨e1,e2,-⟩|⟨hq,hne⟩
  ·rw[e1,e2,List.length_append]
   exact own_turned hown (turned_grown hg3) fun j hj e=>hvM (by rw[hj,hM e])
  ·refine own_turned (own_turned (own_below (h.each q hq) hb) (turned_grown hg) fun j hj e=>ho q hq hne j hj e) (turned_grown hg3) fun j hj e=>h.far q hq (by rw[hj,hM e])
 ·rcases putXI_mem h.rises hk hq with⟨-,e2,-⟩|⟨hq,-⟩
  ·rw[e2,List.length_append];have:=hf.2.1;simp;omega
  ·have:=h.few q hq;omega
 ·rcases putXI_mem h.rises hk hq with⟨e1,-,-⟩|⟨hq,-⟩
  ·rw[e1];exact hvM
  ·exact h.far q hq
 ·have hold: ∀q∈X,∀j,q.v.ownBlock=some j→j<w.heap.size:=fun q hq j hj=>((h.each q hq).lt j hj).2
  rcases putXI_mem h.rises hk hp with⟨e1,-,e1'⟩|⟨hp,hpn⟩
  ·rcases putXI_mem h.rises hk hq with⟨-,-,e2'⟩|⟨hq,hqn⟩
   ·exact hne (e1'.trans e2'.symm)
   ·rw[e1]at hj
    rcases hv' j hj with h1|h1
    ·exact ho q hq hqn j e h1
    ·have:=hold q hq j e;omega
  ·rcases putXI_mem h.rises hk hq with⟨e2,-,-⟩|⟨hq,-⟩
   ·rw[e2]at e
    rcases hv' j e with h1|h1
    ·exact ho p hp hpn j hj h1
    ·have:=hold p hp j hj;omega
   ·exact h.apart p hp q hq hne j hj e
 ·rcases hpb with rfl|⟨q,hq,hj2⟩
  ·exact .inl rfl
  ·rcases putXI_mem h.rises hk hq with⟨e1,-,-⟩|⟨hq,-⟩
   ·rw[e1]at hj2
    rcases hv' j hj2 with h1|h1
    ·rcases lookI_mem h.rises hk with⟨e2,-⟩|⟨q',hq',-,e3⟩
     ·rw[e2]at h1;cases h1
     ·rw[e3]at h1
      exact .inr ⟨q',hq',h1⟩
    ·omega
   ·exact .inr ⟨q,hq,hj2⟩
end Go.Proofs.YtjhbeecmdgglgaaGreatDoor
