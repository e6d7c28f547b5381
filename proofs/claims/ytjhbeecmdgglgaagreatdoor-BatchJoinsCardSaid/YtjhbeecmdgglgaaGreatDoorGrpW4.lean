/-The stable sort of numbers: stable and SortStableFunc. Plain law: times that meet. How arguments are opened: a slice of flat elements reads as a list. -/
import Derived.Test.YtjhbeecmdgglgaaGreatDoorGrpW3
import Derived.Test.YtjhbeecmdgglgaaGreatDoorGrpW1
import Derived.ProofKit
import Derived.OpenShut
import Derived.Deep.Slices
import Derived.Deep.Strs
set_option linter.unusedSimpArgs false
set_option linter.unusedVariables false
namespace Go.Proofs.YtjhbeecmdgglgaaGreatDoor
open Go.RowKit
structure StA (T:Int→Int) (D0:List Int) (a:Nat) (Done:List Int):Prop where
 len:Done.length=a
 le:a≤D0.length
 perm:Done.Perm (D0.take a)
 dn:Dn T 20 Done
theorem StA.start {T:Int→Int}{D0:List Int}:StA T D0 0 []:=⟨rfl,Nat.zero_le _,.refl _,Dn.nil⟩
theorem StA.fore {T:Int→Int}{D0 Done M:List Int}{a:Nat}(h:StA T D0 a Done)(hD:D0.Pairwise (· < ·))(hM: ∀x∈M,x∈D0.drop a):Fore Done M:=by
 intro x hx y hy;rw[←List.take_append_drop a D0]at hD;exact(List.pairwise_append.1 hD).2.2 x (h.perm.mem_iff.1 hx) y (hM y hy)
theorem StA.next {T:Int→Int}{D0 Done M:List Int}{a:Nat}(h:StA T D0 a Done)(hD:D0.Pairwise (· < ·))(hl:a+20≤D0.length)(hM:M.Perm ((D0.drop a).take 20))(hs:Srt T M):StA T D0 (a+20) (Done++M):=by
 have hml:M.length=20:=by rw[hM.length_eq,List.length_take,List.length_drop];omega
 refine⟨by rw[List.length_append,h.len,hml],hl,?_,h.dn.app (h.fore hD fun x hx=>List.mem_of_mem_take (hM.mem_iff.1 hx)) hml hs⟩;rw[List.take_add];exact h.perm.append hM
theorem StA.last {T:Int→Int}{D0 Done M:List Int}{a:Nat}(h:StA T D0 a Done)(hD:D0.Pairwise (· < ·))(hl:D0.length<a+20)(hM:M.Perm (D0.drop a))(hs:Srt T M):Bk T 20 (Done++M)∧(Done++M).Perm D0:=by
 have hml:M.length≤20:=by rw[hM.length_eq,List.length_drop];omega
 refine⟨h.dn M (h.fore hD fun x hx=>hM.mem_iff.1 hx) (.last M hml hs),?_⟩;have h1:=h.perm.append hM;rwa[List.take_append_drop]at h1
structure StB (T:Int→Int) (D0:List Int) (bs a:Nat) (Done Rest:List Int):Prop where
 len:Done.length=a
 perm:(Done++Rest).Perm D0
 dn:Dn T (2*bs) Done
 bk:Bk T bs Rest
 fore:Fore Done Rest
theorem StB.start {T:Int→Int}{D0 D:List Int}{bs:Nat}(hp:D.Perm D0)(h:Bk T bs D):StB T D0 bs 0 [] D:=⟨rfl,hp,Dn.nil,h,fun _ hx=>by cases hx⟩
theorem StB.step {T:Int→Int}{D0 Done Rest:List Int}{bs a:Nat}(h:StB T D0 bs a Done Rest)(hb:0<bs)(hl:a+2*bs≤D0.length):
 ∃X Y Z,Rest=X++Y++Z∧X.length=bs∧Y.length=bs∧Srt T X∧Srt T Y∧Fore X Y∧ ∀M,M.Perm (X++Y)→Srt T M→StB T D0 bs (a+2*bs) (Done++M) Z:=by
 have h1:=h.perm.length_eq;rw[List.length_append,h.len]at h1;obtain⟨X,Y,Z,rfl,hX,hY,sX,sY,fXY,fZ,bZ⟩:=h.bk.cut2 hb (by omega);refine⟨X,Y,Z,rfl,hX,hY,sX,sY,fXY,fun M hM hs=> ?_⟩;have hml:M.length=2*bs:=by rw[hM.length_eq,List.length_append];omega
 have f1:Fore Done (X++Y):=h.fore.fst;refine⟨by rw[List.length_append,h.len,hml],?_,h.dn.app (f1.perm (.refl _) hM) hml hs,bZ,h.fore.snd.app (fZ.perm hM (.refl _))⟩;refine List.Perm.trans ?_ h.perm;rw[List.append_assoc];exact List.Perm.append_left _ (hM.append_right Z)
theorem StB.endL {T:Int→Int}{D0 Done Rest:List Int}{bs a:Nat}(h:StB T D0 bs a Done Rest)(hb:0<bs)(hl:D0.length<a+2*bs)(hm:a+bs<D0.length):
 ∃X Y,Rest=X++Y∧X.length=bs∧0<Y.length∧Srt T X∧Srt T Y∧Fore X Y∧ ∀M,M.Perm (X++Y)→Srt T M→Bk T (2*bs) (Done++M)∧(Done++M).Perm D0:=by
 have h1:=h.perm.length_eq;rw[List.length_append,h.len]at h1;obtain⟨X,Y,rfl,hX,hY,sX,sY,fXY⟩:=h.bk.cut1 hb (by omega) (by omega);refine⟨X,Y,rfl,hX,hY,sX,sY,fXY,fun M hM hs=>⟨h.dn M (h.fore.perm (.refl _) hM) (.last M (by rw[hM.length_eq];omega) hs),?_⟩⟩;exact(List.Perm.append_left _ hM).trans h.perm
theorem StB.endS {T:Int→Int}{D0 Done Rest:List Int}{bs a:Nat}(h:StB T D0 bs a Done Rest)(hb:0<bs)(hm:D0.length≤a+bs):Bk T (2*bs) (Done++Rest):=by
 have h1:=h.perm.length_eq;rw[List.length_append,h.len]at h1;exact h.dn Rest h.fore (.last Rest (by omega) (h.bk.srt (by omega) hb))
set_option maxHeartbeats 4000000 in
set_option maxRecDepth 10000 in
theorem stable_any (T:Int→Int)(V:Int→Prop)(g cap c N:Nat)(D0:List Int)(sp:List Value)(w:World)(h:IRow w g D0 sp)(hN:D0.length=N)(hl:N≤1073741824)(hc:N≤cap∧cap≤maxLen)
 (hD:D0.Pairwise (· < ·)) (hV: ∀x∈D0,V x) (hcmp:CmpI T V g c w):
 Calls Tryz.prog 121 #[.slice (some ⟨g,0,none⟩) N cap,.int .i64 N,.func (.func 89) #[] #[.pointer (some ⟨c,0,none⟩)]] w fun e w'=>e= .returned (.tuple #[])∧(∃M,M.Perm D0∧Srt T M∧IRow w' g M sp)∧Turned (fun k=>k=g) w w':=by
 have HC:=Lib.hid hcmp;have HV:=Lib.hid hV;have HI:=Lib.hid h;have HD:=Lib.hid hD;have HHC:=Lib.hid hc;have HN:=Lib.hid hN;obtain⟨hc1,hc2⟩:=hc;unfold maxLen at hc2;clear h hV hcmp hD hN;go_enter Tryz.func121,Tryz.ntmps121
 go_wp2_with fail
 go_loopw[7,8] (fun av bv wr=> ∃(a:Nat) (Done:List Int),av= .int .i64 a∧bv= .int .i64 ((a+20:Nat):Int)∧a≤N∧Hid (StA T D0 a Done)∧Hid (IRow wr g (Done++D0.drop a) sp)∧Hid (Turned (fun k=>k=g) w wr)) (fun av _ _=>N-(intOf av).toNat)
 case atStart=>exact⟨0,[],rfl,rfl,Nat.zero_le _,Lib.hid StA.start,HI,Lib.hid (Turned.refl _ _)⟩
 case round=>
  rename World=>wr
  obtain⟨a,Done,rfl,rfl,haN,HST,HR,HT⟩:=hrel;obtain⟨b,hb⟩: ∃b,a+20=b:=⟨_,rfl⟩;rw[hb];have HB:=Lib.hid hb;by_cases hlt:b≤N
  ·have hn:=HN.out
   have hst:=HST.out;obtain⟨X,hX⟩: ∃X,(D0.drop a).take 20=X:=⟨_,rfl⟩;obtain⟨S,hS⟩: ∃S,D0.drop b=S:=⟨_,rfl⟩;have hXl:X.length=20:=by rw[←hX,List.length_take,List.length_drop];omega
   have hXS:D0.drop a=X++S:=by
    have e:D0.drop b=(D0.drop a).drop 20:=by rw[List.drop_drop,hb]
    rw[←hX,←hS,e,List.take_append_drop]
   have h1:=HR.out;rw[hXS,←List.append_assoc]at h1;have hSl:S.length+b=N:=by rw[←hS,List.length_drop];omega
   have hXD: ∀x∈X,x∈D0:=fun x hx=>List.mem_of_mem_drop (List.mem_of_mem_take (hX▸hx));have hr:=insertion_any T V g cap c N Done X S sp wr h1 (by rw[List.length_append,List.length_append,hst.len,hXl];omega) hl HHC.out (hX▸(HD.out.sublist ((List.take_sublist _ _).trans (List.drop_sublist _ _)))) (fun x hx=>HV.out x (hXD x hx)) (cmpI_turned HC.out HT.out);rw[List.length_append,hst.len,hXl,hb]at hr;have HRO:=Lib.hid hr;have HNX:=Lib.hid (show ∀M,M.Perm X→Srt T M→StA T D0 b (Done++M)from fun M hM hs=>hb▸hst.next HD.out (by omega) (hX▸hM) hs);have hw:IntKind.i64.wrap ((b:Int)+20)=((b+20:Nat):Int):=by rw[IntKind.wrap_i64];omega
   have HSE:=Lib.hid hS;clear hn hst hX hS hXl hXS h1 hSl hXD hr hb
   go_wp2_with fail
   refine Calls.mono (by with_reducible exact HRO.out) ?_;rintro e w2 ⟨rfl,⟨M,hm1,hs1,hi1⟩,ht2⟩;have HS2:=Lib.hid (HNX.out M hm1 hs1);have HI2:=Lib.hid hi1;have HT2:=Lib.hid (HT.out.trans ht2);clear hm1 hs1 hi1 ht2;go_wp2;go_roundw
   case rel=>exact⟨b,Done++M,rfl,by go_num,hlt,HS2,by rw[HSE.out];exact HI2,HT2⟩
   case measure=>have:=HB.out;simp[intOf];omega
  ·have hn:=HN.out
   have hst:=HST.out;obtain⟨X,hX⟩: ∃X,D0.drop a=X:=⟨_,rfl⟩;have hXl:X.length+a=N:=by rw[←hX,List.length_drop];omega
   have h1:=HR.out;rw[hX,←List.append_nil (Done++X)]at h1;have hr:=insertion_any T V g cap c N Done X [] sp wr h1 (by rw[List.append_nil,List.length_append,hst.len];omega) hl HHC.out (hX▸HD.out.sublist (List.drop_sublist _ _)) (fun x hx=>HV.out x (List.mem_of_mem_drop (hX▸hx))) (cmpI_turned HC.out HT.out);rw[List.length_append,hst.len,show a+X.length=N by omega]at hr;have HRO:=Lib.hid hr;have HNX:=Lib.hid (show ∀M,M.Perm X→Srt T M→Bk T 20 (Done++M)∧(Done++M).Perm D0 from fun M hM hs=>hst.last HD.out (by omega) (hX▸hM) hs);clear hn hst hX hXl h1 hr hb
   go_wp2_with fail
   refine Calls.mono (by with_reducible exact HRO.out) ?_;rintro e w2 ⟨rfl,⟨M,hm1,hs1,hi1⟩,ht2⟩;obtain⟨hb1,hp1⟩:=HNX.out M hm1 hs1;obtain⟨D,hDD⟩: ∃D,Done++M=D:=⟨_,rfl⟩;rw[List.append_nil,hDD]at hi1;rw[hDD]at hb1 hp1;have HBK:=Lib.hid hb1;have HP:=Lib.hid hp1;have HI2:=Lib.hid hi1;have HT2:=Lib.hid (HT.out.trans ht2);clear hm1 hs1 hi1 ht2 hb1 hp1 hDD HNX HRO HR HST HT HB hlt
   go_wp2_with fail
   go_loopw[6,7,8,9] (fun sv _ _ _ wr=> ∃(bs:Nat) (D:List Int),sv= .int .i64 bs∧0<bs∧bs≤4294967296∧Hid (D.Perm D0)∧Hid (Bk T bs D)∧Hid (IRow wr g D sp)∧Hid (Turned (fun k=>k=g) w wr)) (fun sv _ _ _ _=>N-(intOf sv).toNat)
   case atStart=>exact⟨20,D,rfl,by omega,by omega,HP,HBK,HI2,HT2⟩
   case round=>
    clear HP HBK HI2 HT2;rename World=>wr1
    obtain⟨bs,D1,rfl,hbs,hbs2,HP,HBK,HR,HT⟩:=hrel;by_cases hlb:bs<N
    ·obtain⟨b2,hb2⟩: ∃b2,2*bs=b2:=⟨_,rfl⟩
     have hw2:IntKind.i64.wrap (2*(bs:Int))=(b2:Int):=by rw[IntKind.wrap_i64];omega
     have hw3:IntKind.i64.wrap ((bs:Int)*2)=(b2:Int):=by rw[IntKind.wrap_i64];omega
     have HB2:=Lib.hid hb2;have hb2N:b2≤2147483648:=by omega
     have HSB:=Lib.hid (StB.start (D0:=D0) HP.out HBK.out);clear hb2
     go_wp2_with fail
     go_loopw[7,8] (fun av bv wr=> ∃(a:Nat) (Done Rest:List Int),av= .int .i64 a∧bv= .int .i64 ((a+b2:Nat):Int)∧a≤N∧Hid (StB T D0 bs a Done Rest)∧Hid (IRow wr g (Done++Rest) sp)∧Hid (Turned (fun k=>k=g) w wr)) (fun av _ _=>N-(intOf av).toNat)
     case atStart=>exact⟨0,[],D1,rfl,by rw[Nat.zero_add],Nat.zero_le _,HSB,HR,HT⟩
     case round=>
      clear HR HT HP HBK HSB;rename World=>wr2
      obtain⟨a,Done,Rest,rfl,rfl,haN,HST,HR,HT⟩:=hrel;obtain⟨b,hb⟩: ∃b,a+b2=b:=⟨_,rfl⟩;rw[hb];have HB:=Lib.hid hb;obtain⟨m,hm⟩: ∃m,a+bs=m:=⟨_,rfl⟩;have hw4:IntKind.i64.wrap ((a:Int)+(bs:Int))=(m:Int):=by rw[IntKind.wrap_i64];omega
      have hw5:IntKind.i64.wrap ((b:Int)+(b2:Int))=((b+b2:Nat):Int):=by rw[IntKind.wrap_i64];omega
      have HM:=Lib.hid hm;have hbN:b≤4294967296:=by omega
      have hmN:m≤4294967296:=by omega
      by_cases hlt:b≤N
      ·have hn:=HN.out
       have hst:=HST.out;have hb2:=HB2.out;obtain⟨X,Y,Z,hRe,hX,hY,sX,sY,fXY,hnx⟩:=hst.step hbs (by omega);have h1:=HR.out;rw[hRe,show Done++(X++Y++Z)=Done++X++Y++Z by simp]at h1;have hpl:=hst.perm.length_eq;rw[hRe]at hpl;have hVV: ∀x∈X++Y,V x:=fun x hx=>HV.out x (hst.perm.mem_iff.1 (by rw[hRe];rcases List.mem_append.1 hx with h|h<;>simp[h]));have hr:=symMerge_any T V g cap c N sp hl HHC.out (X.length+Y.length+1) Done X Y Z wr2 (Nat.lt_succ_self _) (by omega) (by omega) h1 (by rw[show Done++X++Y++Z=Done++(X++Y++Z) by simp,hpl,hn]) sX sY fXY hVV (cmpI_turned HC.out HT.out);rw[show(Done++X++Y).length=b by rw[List.length_append,List.length_append,hst.len];omega,show(Done++X).length=m by rw[List.length_append,hst.len];omega,hst.len]at hr;have HRO:=Lib.hid hr;have HNX:=Lib.hid (show ∀M,M.Perm (X++Y)→Srt T M→StB T D0 bs b (Done++M) Z from fun M hM hs=>by rw[←hb,←hb2];exact hnx M hM hs);clear hn hst hb2 hRe hX hY sX sY fXY hnx h1 hpl hVV hr hb hm
       go_wp2_with fail
       refine Calls.mono (by with_reducible exact HRO.out) ?_;rintro e w3 ⟨rfl,⟨M,hm1,hs1,hi1⟩,ht2⟩;have HS2:=Lib.hid (HNX.out M hm1 hs1);have HI2:=Lib.hid hi1;have HT2:=Lib.hid (HT.out.trans ht2);clear hm1 hs1 hi1 ht2;go_wp2;go_roundw
       case rel=>exact⟨b,Done++M,Z,rfl,by go_num,hlt,HS2,HI2,HT2⟩
       case measure=>have:=HB.out;have:=HB2.out;simp[intOf];omega
      ·have hn:=HN.out
       have hst:=HST.out;have hb2:=HB2.out;by_cases hmn:m<N
       ·obtain⟨X,Y,hRe,hX,hY,sX,sY,fXY,hnx⟩:=hst.endL hbs (by omega) (by omega)
        have h1:=HR.out;rw[hRe,←List.append_assoc,←List.append_nil (Done++X++Y)]at h1;have hpl:=hst.perm.length_eq;rw[hRe,←List.append_assoc]at hpl;have hVV: ∀x∈X++Y,V x:=fun x hx=>HV.out x (hst.perm.mem_iff.1 (by rw[hRe];rcases List.mem_append.1 hx with h|h<;>simp[h]));have hr:=symMerge_any T V g cap c N sp hl HHC.out (X.length+Y.length+1) Done X Y [] wr2 (Nat.lt_succ_self _) (by omega) (by omega) h1 (by rw[List.append_nil,hpl,hn]) sX sY fXY hVV (cmpI_turned HC.out HT.out);rw[hpl,hn,show(Done++X).length=m by rw[List.length_append,hst.len];omega,hst.len]at hr;have HRO:=Lib.hid hr;have HNX:=Lib.hid (show ∀M,M.Perm (X++Y)→Srt T M→Bk T b2 (Done++M)∧(Done++M).Perm D0 from fun M hM hs=>by rw[←hb2];exact hnx M hM hs);clear hn hst hb2 hRe hX hY sX sY fXY hnx h1 hpl hVV hr hb hm
        go_wp2_with fail
        refine Calls.mono (by with_reducible exact HRO.out) ?_;rintro e w3 ⟨rfl,⟨M,hm1,hs1,hi1⟩,ht2⟩;rw[List.append_nil]at hi1;obtain⟨k1,k2⟩:=HNX.out M hm1 hs1;have HS2:=Lib.hid k1;have HP2:=Lib.hid k2;have HI2:=Lib.hid hi1;have HT2:=Lib.hid (HT.out.trans ht2);clear hm1 hs1 hi1 ht2 k1 k2
        go_wp2_with fail
        exact⟨⟨b2,Done++M,rfl,by have:=HB2.out;omega,by omega,HP2,HS2,HI2,HT2⟩,by have:=HB2.out;simp[intOf];omega⟩
       ·have HS2:=Lib.hid (show Bk T b2 (Done++Rest)from by rw[←hb2];exact hst.endS hbs (by omega))
        have HP2:=Lib.hid hst.perm;have hmd:decide (m<N)=false:=decide_eq_false hmn;clear hn hst hb2 hb hm
        go_wp2_with fail
        exact⟨⟨b2,Done++Rest,rfl,by have:=HB2.out;omega,by omega,HP2,HS2,HR,HT⟩,by have:=HB2.out;simp[intOf];omega⟩
    ·have HF:Hid (Srt T D1):=Lib.hid (HBK.out.srt (by rw[HP.out.length_eq,HN.out];omega) hbs)
     go_wp2
     go_end0
     exact⟨rfl,⟨D1,HP.out,HF.out,HR.out⟩,HT.out⟩
theorem sortStable_any (T:Int→Int)(V:Int→Prop)(g cap c N:Nat)(D0:List Int)(sp:List Value)(w:World)(h:IRow w g D0 sp)(hN:D0.length=N)(hl:N≤1073741824)(hc:N≤cap∧cap≤maxLen)
 (hD:D0.Pairwise (· < ·)) (hV: ∀x∈D0,V x) (hcmp:CmpI T V g c w):
 Calls Tryz.prog 88 #[.slice (some ⟨g,0,none⟩) N cap,.func (.func 89) #[] #[.pointer (some ⟨c,0,none⟩)]] w fun e w'=>e= .returned (.tuple #[])∧(∃M,M.Perm D0∧Srt T M∧IRow w' g M sp)∧Turned (fun k=>k=g) w w':=by
 have HR:=Lib.hid (stable_any T V g cap c N D0 sp w h hN hl hc hD hV hcmp);clear h hN hl hc hD hV hcmp;go_enter Tryz.func88,Tryz.ntmps88
 go_wp2_with fail
 refine Calls.mono (by with_reducible exact HR.out) ?_;rintro e w2 ⟨rfl,h2,ht2⟩;go_wp2
 go_end0
 exact⟨rfl,h2,ht2⟩
end Go.Proofs.YtjhbeecmdgglgaaGreatDoor
namespace Go.Proofs.YtjhbeecmdgglgaaGreatDoor
open tm (winF)
def meetT (kind low high size l r:Int):Bool:=if kind=1 then decide (low≤r-l∧r-l≤high)else winF l size==winF r size
end Go.Proofs.YtjhbeecmdgglgaaGreatDoor
namespace Go.Proofs.YtjhbeecmdgglgaaGreatDoor
open Go.ChangeShapes Go.WideShapes Go.RowKit Go.Deep
theorem flat_at {α:Type}{f:α→List Value}{size:Nat}(hf: ∀a,(f a).length=size)(l:List α)(i j:Nat)(hj:j<size):(l.flatMap f)[i*size+j]?=(l[i]?).bind fun a=>(f a)[j]?:=by
 induction l generalizing i with
 |nil=>simp
 |cons a l ih=>
  rw[List.flatMap_cons,List.getElem?_append,hf a];cases i with
  |zero=>simp[hj]
  |succ i=>
   have e:(i+1)*size+j-size=i*size+j:=by rw[Nat.add_mul];omega
   rw[if_neg (by rw[Nat.add_mul];omega),e,ih];simp
theorem flat_len {α:Type}{f:α→List Value}{size:Nat}(hf: ∀a,(f a).length=size)(l:List α):(l.flatMap f).length=l.length*size:=by
 induction l with
 |nil=>simp
 |cons a l ih=>rw[List.flatMap_cons,List.length_append,hf a,ih,List.length_cons,Nat.add_mul];omega
section
variable {H:Type} {enc:TypeId×Value→H} {P:Program} {w:World} {base:Nat} {spare:Nat→Bool} {held:Bool}
theorem open_flat {t e:TypeId}{fuel:Nat}{cs:List Value}{x:DataW H×List MemPlace}{α:Type}{f:α→List Value}{size:Nat}(hf: ∀a,(f a).length=size)(h0:0<size)
 (ht:P.underlying t=some (.slice e)) (hC:P.cellsOf e=size) (hel: ∀fuel cs x,DataW.trod enc P w base spare held fuel e cs=some x→ ∃a,cs=f a)
 (h:DataW.trod enc P w base spare held fuel t cs=some x): ∃(v:Value) (l:List α),cs=[v]∧Sl w v l.length (l.flatMap f):=by
 rcases open_slice ht h with⟨h0,-⟩|⟨a,len,cap,m,n,D,Pl,rfl,-,hl,hm,hmm,-,hi⟩
 ·exact⟨_,[],h0,Sl.nil_ w⟩
 ·have hlm:len≤m:=by rw[hmm];split<;>omega
  have hall: ∀i:Fin len,∃y:α,∀j,j<size→w.cell? (a.add (i.val*size+j))=(f y)[j]?:=by
   intro i;obtain⟨cs',hc,ht'⟩:=hi i.val (by omega);obtain⟨y,rfl⟩:=hel _ _ _ ht';obtain⟨-,-,hat⟩:=World.cells?_some hc;refine⟨y,fun j hj=> ?_⟩;have:=hat j (by rw[hC];exact hj);rw[hC,Go.Deep.add_add]at this;exact this
  obtain⟨g,hg⟩:=Classical.axiomOfChoice hall;refine⟨_,List.ofFn g,rfl,?_⟩;rw[List.length_ofFn];refine⟨_,_,rfl,hl,hm,(fun h=>by cases h),fun hne=> ?_⟩
  have hlen:0<len:=by
   rcases Nat.eq_zero_or_pos len with h1|h1
   ·subst h1;simp at hne
   ·exact h1
  obtain⟨b,off,spot⟩:=a;have hc0:=hg ⟨0,hlen⟩ 0 h0;rw[List.getElem?_eq_getElem (by rw[hf];exact h0)]at hc0;have hs:spot=none:=by simpa[Addr.add]using World.cell?_spot hc0
  subst hs;refine⟨b,off,rfl,fun j u hj=> ?_⟩
  have hq:j<len*size:=by
   have:=(List.getElem?_eq_some_iff.1 hj).1;rw[flat_len hf,List.length_ofFn]at this;exact this
  have hdiv:j/ size<len:=by rw[Nat.div_lt_iff_lt_mul h0];exact hq
  have hmod:j%size<size:=Nat.mod_lt _ h0;have hjj:j=j/ size*size+j%size:=by rw[Nat.mul_comm];exact(Nat.div_add_mod j size).symm
  rw[hjj,flat_at hf _ _ _ hmod,List.getElem?_ofFn,dif_pos hdiv]at hj;simp only[Option.bind_some]at hj;have:=hg ⟨j/ size,hdiv⟩ (j%size) hmod;rw[hj,←hjj]at this;unfold Addr.add at this;split at this
  ·rename_i h0;rw[h0];exact this
  ·exact this
end
end Go.Proofs.YtjhbeecmdgglgaaGreatDoor
