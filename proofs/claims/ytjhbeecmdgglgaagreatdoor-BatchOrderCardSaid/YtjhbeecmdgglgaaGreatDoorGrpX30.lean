/-The stable sort of numbers: two sorted halves are merged. -/
import Derived.Test.YtjhbeecmdgglgaaGreatDoorGrpX29
set_option linter.unusedSimpArgs false
set_option linter.unusedVariables false
namespace Go.Proofs.YtjhbeecmdgglgaaGreatDoor
open Go.RowKit
abbrev SymC (T:Int→Int) (V:Int→Prop) (g cap c N:Nat) (sp:List Value) (n:Nat):Prop:= ∀(P L R S:List Int) (W:World),L.length+R.length<n→0<L.length→0<R.length→IRow W g (P++L++R++S) sp→(P++L++R++S).length=N→Srt T L→Srt T R→Fore L R→(∀x∈L++R,V x)→CmpI T V g c W→
 Calls Tryz.prog 158 #[.slice (some ⟨g,0,none⟩) N cap,.int .i64 P.length,.int .i64 (P++L).length,.int .i64 (P++L++R).length,.func (.func 89) #[] #[.pointer (some ⟨c,0,none⟩)]] W fun e w'=>e= .returned (.tuple #[])∧(∃M,M.Perm (L++R)∧Srt T M∧IRow w' g (P++M++S) sp)∧Turned (fun k=>k=g) W w'
theorem at_left (A B C D:List Int){h:Nat}(h1:A.length≤h)(h2:h<A.length+B.length):(A++B++C++D)[h]?=B[h-A.length]?:=by
 rw[List.append_assoc (A++B)];exact at_mid A B (C++D) h1 h2
theorem srt_either {T:Int→Int}{A B:List Int}(hA:Srt T A)(hB:Srt T B)(h:A=[]∨B=[]):Srt T (A++B):=by
 rcases h with rfl|rfl
 ·exact hB
 ·rw[List.append_nil];exact hA
structure SymX (T:Int→Int) (P L R S:List Int) (a m b mid n N i e:Nat) (A B C D:List Int):Prop where
 lab:L=A++B
 rcd:R=C++D
 en:n-i=e
 nums:a≤i∧i≤m∧m≤e∧e≤b∧A.length+a=i∧B.length+i=m∧C.length+m=e∧D.length+e=b∧mid+m=i+e∧a≤mid∧mid≤b∧S.length+b=N∧A.length+C.length<L.length+R.length∧B.length+D.length<L.length+R.length∧P.length=a
 srt:Srt T A∧Srt T B∧Srt T C∧Srt T D∧Fore A C∧Fore B D
 parts: ∀M1 M2:List Int,M1.Perm (A++C)→Srt T M1→M2.Perm (B++D)→Srt T M2→(M1++M2).Perm (L++R)∧Srt T (M1++M2)
set_option maxHeartbeats 1000000 in
theorem sym_exit {T:Int→Int}{P L R S:List Int}{a m b mid n p N s0 r0 i:Nat}(hq:m=a+L.length∧b=m+R.length∧b≤N)(hP:P.length=a)(hN:(P++L++R++S).length=N)(hl2:1<L.length)(hr2:1<R.length)
 (hmid:(a+b)/ 2=mid) (hn:mid+m=n) (hp:n-1=p) (hsr:(mid<m∧s0=n-b∧r0=mid)∨(m≤mid∧s0=a∧r0=m)) (hi:s0≤i) (hj:i≤r0) (hL:Srt T L) (hR:Srt T R) (hf:Fore L R)
 (HG1:Hid (i=s0∨ ∃x y,L[i-1-a]?=some x∧R[p-(i-1)-m]?=some y∧T x≤T y)) (HG2:Hid (i=r0∨ ∃x y,L[i-a]?=some x∧R[p-i-m]?=some y∧T y<T x)): ∃e A B C D,SymX T P L R S a m b mid n N i e A B C D:=by
 have hSN:S.length+b=N:=by simp only[List.length_append]at hN;omega
 obtain⟨e,he⟩: ∃e,n-i=e:=⟨_,rfl⟩;have hem:m≤e∧e≤b∧a≤i∧i≤m∧mid+m=i+e∧mid<b∧a<mid:=by omega
 obtain⟨sl,hsl⟩: ∃sl,i-a=sl:=⟨_,rfl⟩;obtain⟨el,hel⟩: ∃el,e-m=el:=⟨_,rfl⟩;have hsl2:sl≤L.length:=by omega
 have hel2:el≤R.length:=by omega
 have w1:sl≠0→sl-1=i-1-a∧el=p-(i-1)-m:=by omega
 have w2:el≠0→el-1=p-i-m:=by omega
 have w3:i=s0→sl=0∨el=R.length:=by omega
 have w4:i=r0→el=0∨sl=L.length:=by omega
 have h1:sl=0∨el=R.length∨ ∃x y,L[sl-1]?=some x∧R[el]?=some y∧T x≤T y:=by
  rcases HG1.out with h|⟨x,y,h1,h2,h3⟩
  ·exact(w3 h).elim .inl fun h=> .inr (.inl h)
  ·by_cases hs:sl=0
   ·exact .inl hs
   ·exact .inr (.inr ⟨x,y,by rw[(w1 hs).1];exact h1,by rw[(w1 hs).2];exact h2,h3⟩)
 have h2:el=0∨sl=L.length∨ ∃x y,L[sl]?=some x∧R[el-1]?=some y∧T y<T x:=by
  rcases HG2.out with h|⟨x,y,h1,h2,h3⟩
  ·exact(w4 h).elim .inl fun h=> .inr (.inl h)
  ·by_cases hs:el=0
   ·exact .inl hs
   ·exact .inr (.inr ⟨x,y,by rw[←hsl];exact h1,by rw[w2 hs];exact h2,h3⟩)
 have hPT:=fun(M1 M2:List Int) m1 s1 m2 s2=>sym_parts (M1:=M1) (M2:=M2) hL hR hf hsl2 hel2 h1 h2 m1 s1 m2 s2;clear h1 h2 HG1 HG2 w1 w2 w3 w4;have hSS:Srt T (L.take sl)∧Srt T (L.drop sl)∧Srt T (R.take el)∧Srt T (R.drop el)∧Fore (L.take sl) (R.take el)∧Fore (L.drop sl) (R.drop el):=⟨srt_take hL _,srt_drop hL _,srt_take hR _,srt_drop hR _,hf.takes _ _,hf.drops _ _⟩;have lB:(L.drop sl).length+sl=L.length:=by rw[List.length_drop];omega
 have lD:(R.drop el).length+el=R.length:=by rw[List.length_drop];omega
 have lA:(L.take sl).length=sl:=by rw[List.length_take];omega
 have lC:(R.take el).length=el:=by rw[List.length_take];omega
 have e1:L=L.take sl++L.drop sl:=(List.take_append_drop _ _).symm;have e2:R=R.take el++R.drop el:=(List.take_append_drop _ _).symm;generalize L.take sl=A at*;generalize L.drop sl=B at*;generalize R.take el=C at*;generalize R.drop el=D at*;refine⟨e,A,B,C,D,e1,e2,he,?_,hSS,hPT⟩;clear hSS hPT e1 e2 hL hR hf hN;subst lA lC;refine⟨?_,?_,?_,?_,?_,?_,?_,?_,?_,?_,?_,?_,?_,?_,?_⟩<;>omega
theorem SymX.lens {T:Int→Int}{P L R S:List Int}{a m b mid n N i e:Nat}{A B C D:List Int}(h:SymX T P L R S a m b mid n N i e A B C D):(P++A).length=i∧(P++A++B).length=m∧(P++A++B++C).length=e∧(P++A++B++C++(D++S)).length=N∧(P++A++C).length=mid∧(P++A++C++(B++D++S)).length=N:=by
 have:=h.nums;simp only[List.length_append];omega
set_option maxHeartbeats 4000000 in
set_option maxRecDepth 10000 in
theorem symM (T:Int→Int)(V:Int→Prop)(g cap c N:Nat)(sp:List Value)(P L R S:List Int)(w:World)(hIH:SymC T V g cap c N sp (L.length+R.length))(h:IRow w g (P++L++R++S) sp)(hN:(P++L++R++S).length=N)(hl:N≤1073741824)(hc:N≤cap∧cap≤maxLen)
 (hl2:1<L.length) (hr2:1<R.length) (hL:Srt T L) (hR:Srt T R) (hf:Fore L R) (hV: ∀x∈L++R,V x) (hcmp:CmpI T V g c w):
 Calls Tryz.prog 158 #[.slice (some ⟨g,0,none⟩) N cap,.int .i64 P.length,.int .i64 (P++L).length,.int .i64 (P++L++R).length,.func (.func 89) #[] #[.pointer (some ⟨c,0,none⟩)]] w fun e w'=>e= .returned (.tuple #[])∧(∃M,M.Perm (L++R)∧Srt T M∧IRow w' g (P++M++S) sp)∧Turned (fun k=>k=g) w w':=by
 have HC:=Lib.hid hcmp;have HV:=Lib.hid hV;have HI:=Lib.hid h;have HIH:=Lib.hid hIH;have HHC:=Lib.hid hc;obtain⟨hc1,hc2⟩:=hc;unfold maxLen at hc2;obtain⟨a,ha⟩: ∃m,P.length=m:=⟨_,rfl⟩;obtain⟨m,hm⟩: ∃m,(P++L).length=m:=⟨_,rfl⟩;obtain⟨b,hb⟩: ∃m,(P++L++R).length=m:=⟨_,rfl⟩;have HMM:=Lib.hid hm;have HAE:=Lib.hid ha;have HNE:=Lib.hid hN
 have hq:m=a+L.length∧b=m+R.length∧b≤N:=by
  simp only[List.length_append]at hN hb hm;omega
 have HQ:=Lib.hid hq;rw[ha,hm,hb];obtain⟨dl,hdl⟩: ∃dl:Nat,m-a=dl:=⟨_,rfl⟩;obtain⟨dr,hdr⟩: ∃dr:Nat,b-m=dr:=⟨_,rfl⟩;obtain⟨mid,hmid⟩: ∃mid:Nat,(a+b)/ 2=mid:=⟨_,rfl⟩;obtain⟨n,hn⟩: ∃n:Nat,mid+m=n:=⟨_,rfl⟩;obtain⟨p,hp⟩: ∃p:Nat,n-1=p:=⟨_,rfl⟩;obtain⟨s1,hs1⟩: ∃s:Nat,n-b=s:=⟨_,rfl⟩;have q0:IntKind.i64.wrap ((m:Int)-(a:Int))=(dl:Int):=by rw[IntKind.wrap_i64];omega
 have q1:((dl:Int)==1)=false:=by rw[beq_eq_false_iff_ne];omega
 have q2:IntKind.i64.wrap ((b:Int)-(m:Int))=(dr:Int):=by rw[IntKind.wrap_i64];omega
 have q3:((dr:Int)==1)=false:=by rw[beq_eq_false_iff_ne];omega
 have q4:((a:Int)+(b:Int))/ 2=(mid:Int):=by omega
 have q5:IntKind.i64.wrap ((mid:Int)+(m:Int))=(n:Int):=by rw[IntKind.wrap_i64];omega
 have q6:IntKind.i64.wrap ((n:Int)-1)=(p:Int):=by rw[IntKind.wrap_i64];omega
 have haN:a<N:=by omega
 have hbN:b≤N:=by omega
 have hnN:n≤2147483648:=by omega
 obtain⟨s0,r0,hsr⟩: ∃s0 r0:Nat,(mid<m∧s0=n-b∧r0=mid)∨(m≤mid∧s0=a∧r0=m):=by
  by_cases h:mid<m
  ·exact⟨n-b,mid,.inl ⟨h,rfl,rfl⟩⟩
  ·exact⟨a,m,.inr ⟨by omega,rfl,rfl⟩⟩
 have HSR:=Lib.hid hsr;have hsa:a≤s0∧s0≤r0∧r0≤m∧r0≤mid∧n≤s0+b:=by omega
 have HSA:=Lib.hid hsa;have HEQ:=Lib.hid (And.intro hmid (And.intro hn (And.intro hp hs1)));have hs0N:s0≤N:=by omega
 have hr0N:r0≤N:=by omega
 clear h hV hcmp ha hm hb hN hq hdl hdr hmid hn hp hs1 hsr hsa hIH;go_enter Tryz.func158,Tryz.ntmps158
 go_upto_if 140 with fail
 go_cut[20,21]from 25 (fun sv rv wx=>sv= .int .i64 (s0:Nat)∧rv= .int .i64 (r0:Nat)∧wx=w)
 case first=>
  as_aux_lemma=>
   by_cases hmm:mid<m
   ·have h1:s0=s1∧r0=mid:=by have:=HSR.out;have:=HEQ.out;omega
    have h2:IntKind.i64.wrap ((n:Int)-(b:Int))=(s1:Int):=by have:=HEQ.out;have:=HSA.out;rw[IntKind.wrap_i64];omega
    have H1:=Lib.hid h1;clear h1
    go_wp2_with fail
    go_meet
    exact⟨by rw[H1.out.1],by rw[H1.out.2],rfl⟩
   ·have h1:s0=a∧r0=m:=by have:=HSR.out;omega
    have hmd:decide (mid<m)=false:=decide_eq_false hmm;have H1:=Lib.hid h1;clear h1
    go_wp2_with fail
    go_meet
    exact⟨by rw[H1.out.1],by rw[H1.out.2],rfl⟩
 case rest=>
  obtain⟨rfl,rfl,hwc⟩:=hcut;rw[hwc];clear hwc wc
  go_wp2_with fail
  go_loopw[20,21,23] (fun sv rv _ wr=> ∃i j:Nat,sv= .int .i64 i∧rv= .int .i64 j∧s0≤i∧i≤j∧j≤r0∧Hid (i=s0∨ ∃x y,L[i-1-a]?=some x∧R[p-(i-1)-m]?=some y∧T x≤T y)∧Hid (j=r0∨ ∃x y,L[j-a]?=some x∧R[p-j-m]?=some y∧T y<T x)∧Hid (IRow wr g (P++L++R++S) sp)∧Hid (Turned (fun k=>k=g) w wr)) (fun sv rv _ _=>(intOf rv).toNat-(intOf sv).toNat)
  case atStart=>exact⟨s0,r0,rfl,rfl,Nat.le_refl _,HSA.out.2.1,Nat.le_refl _,Lib.hid (.inl rfl),Lib.hid (.inl rfl),HI,Lib.hid (Turned.refl _ _)⟩
  case round=>
   rename World=>wr
   obtain⟨i,j,rfl,rfl,hi,hij,hj,HG1,HG2,HR,HT⟩:=hrel;by_cases hlt:i<j
   ·obtain⟨k,hk⟩: ∃k,(i+j)/ 2=k:=⟨_,rfl⟩
    have hki:i≤k:=by omega
    have hkj:k<j:=by omega
    have hq:=HQ.out;have hsa:=HSA.out;have heq:=HEQ.out;obtain⟨f,hfk⟩: ∃f,p-k=f:=⟨_,rfl⟩;have hfm:m≤f∧f<b:=by have:=HSR.out;omega
    have hkm:a≤k∧k<m:=by omega
    obtain⟨x,hx⟩: ∃x,L[k-a]?=some x:=⟨_,List.getElem?_eq_getElem (by omega)⟩;obtain⟨y,hy⟩: ∃y,R[f-m]?=some y:=⟨_,List.getElem?_eq_getElem (by omega)⟩;have hxV:=HV.out x (List.mem_append_left _ (List.mem_of_getElem? hx));have hyV:=HV.out y (List.mem_append_right _ (List.mem_of_getElem? hy));have e1:(P++L++R++S)[k]?=some x:=by rw[at_left P L R S (by rw[HAE.out];omega) (by rw[HAE.out];omega),HAE.out];exact hx
    have e2:(P++L++R++S)[f]?=some y:=by rw[at_mid (P++L) R S (by rw[HMM.out];omega) (by rw[HMM.out];omega),HMM.out];exact hy
    have hq2:((i:Int)+(j:Int))/ 2=(k:Int):=by omega
    have hq3:IntKind.i64.wrap ((p:Int)-(k:Int))=(f:Int):=by rw[IntKind.wrap_i64];omega
    have hiN:i≤N:=by omega
    have hjN:j≤N:=by omega
    have k0:(0:Int)≤(k:Int):=by omega
    have k1:(k:Int)<(N:Int):=by omega
    have f0:(0:Int)≤(f:Int):=by omega
    have f1:(f:Int)<(N:Int):=by omega
    have c1:wr.drew.cell? ⟨g,k,none⟩=some (.int .i64 x):=HR.out.drew.cell e1;have c2:wr.drew.cell? ⟨g,f,none⟩=some (.int .i64 y):=HR.out.drew.cell e2;have HC1:=Lib.hid (HC.out _ y x (HT.out.trans (turned_drew _ _)) hyV hxV);obtain⟨dd,hdd⟩: ∃d,T y-T x=d:=⟨_,rfl⟩;rw[hdd]at HC1;have HDD:=Lib.hid hdd;have HX:=Lib.hid hx;have HY:=Lib.hid hy;have HE1:=Lib.hid e1;have HE2:=Lib.hid e2;have HFK:=Lib.hid hfk;have cc:=And.intro c1 c2;clear hk hq hx hy e1 e2 c1 c2 hdd hsa heq hfk
    go_wp2_with fail
    go_region_held3 (fun w'=>w'.cell? ⟨g,k,none⟩=some (.int .i64 x)∧w'.cell? ⟨g,f,none⟩=some (.int .i64 y))
     (first|exact cc|exact z|go_keep)
     ((go_at_call 89;refine Calls.mono (by with_reducible exact HC1.out) ?_;rintro e w2 ⟨rfl,hb2⟩;have K2:=HR.out.drew.below hb2;have T2:=turned_trans_below (HT.out.trans (turned_drew _ _)) hb2;have z:=And.intro (K2.cell HE1.out) (K2.cell HE2.out)))
    all_goals
     clear z cc HC1 HT HR;have HT2:=Lib.hid T2;have HK2:=Lib.hid K2;clear T2 K2 hb2;by_cases hz:dd<0
     ·rw[show(!decide (dd<0))=false by simp[hz]]
      have HG2':Hid (k=r0∨ ∃x y,L[k-a]?=some x∧R[p-k-m]?=some y∧T y<T x):=Lib.hid (.inr ⟨x,y,HX.out,by rw[HFK.out];exact HY.out,by have:=HDD.out;omega⟩);go_wp2;go_roundw
      case rel=>exact⟨i,k,rfl,rfl,hi,hki,by omega,HG1,HG2',HK2,HT2⟩
      case measure=>simp[intOf];omega
     ·rw[show(!decide (dd<0))=true by simpa using hz]
      have HG1':Hid (k+1=s0∨ ∃x y,L[k+1-1-a]?=some x∧R[p-(k+1-1)-m]?=some y∧T x≤T y):=Lib.hid (.inr ⟨x,y,by rw[Nat.add_sub_cancel];exact HX.out,by rw[Nat.add_sub_cancel,HFK.out];exact HY.out,by have:=HDD.out;omega⟩);go_wp2;go_roundw
      case rel=>exact⟨k+1,j,by go_num,rfl,by omega,by omega,hj,HG1',HG2,HK2,HT2⟩
      case measure=>simp[intOf];omega
   ·obtain rfl:i=j:=by omega
    have heq:=HEQ.out;obtain⟨e,A,B,C,D,hx⟩:=sym_exit HQ.out HAE.out HNE.out hl2 hr2 heq.1 heq.2.1 heq.2.2.1 HSR.out hi hj hL hR hf HG1 HG2;have HX:=Lib.hid hx;have HV1:=Lib.hid (show(∀x∈A++C,V x)∧(∀x∈B++D,V x)from⟨fun x h0=>HV.out x (by rw[hx.lab,hx.rcd];rcases List.mem_append.1 h0 with h|h<;>simp[h]),fun x h0=>HV.out x (by rw[hx.lab,hx.rcd];rcases List.mem_append.1 h0 with h|h<;>simp[h])⟩)
    have HR1:Hid (IRow wr g (P++A++B++C++(D++S)) sp):=Lib.hid (by
     have h:=HR.out;rw[hx.lab,hx.rcd,show P++(A++B)++(C++D)++S=P++A++B++C++(D++S) by simp]at h;exact h)
    have hiN:i≤N:=by have:=hx.nums;omega
    have heN:e≤N:=by have:=hx.nums;omega
    have e3:IntKind.i64.wrap ((n:Int)-(i:Int))=(e:Int):=by have h1:=hx.nums;have h2:=hx.en;rw[IntKind.wrap_i64];omega
    clear heq hx HG1 HG2 HR q0 q1 q2 q3 q4 q5 q6 HEQ HSR HSA
    go_upto_region 39 with fail
    go_cut[185]from 25 (fun cv wx=> ∃Q1:Bool,cv= .bool Q1∧Hid (Q1=decide (i<m∧m<e))∧wx=wr)
    case first=>
     as_aux_lemma=>
      by_cases g1:i<m
      ·by_cases g2:m<e
       ·go_wp2
        go_meet
        exact⟨true,rfl,Lib.hid (by simp[g1,g2]),rfl⟩
       ·have g3:decide (m<e)=false:=decide_eq_false g2
        go_wp2
        go_meet
        exact⟨false,rfl,Lib.hid (by simp[g1,g2]),rfl⟩
      ·have g3:decide (i<m)=false:=decide_eq_false g1
       go_wp2
       go_meet
       exact⟨false,rfl,Lib.hid (by simp[g1]),rfl⟩
    case rest=>
     obtain⟨Q1,rfl,HB,hwc⟩:=hcut;rw[hwc];clear hwc wc
     go_upto_if 185 with fail
     go_cut[]from 25 (fun wx=>Hid (IRow wx g (P++A++C++(B++D++S)) sp)∧Hid (Turned (fun k=>k=g) w wx))
     case first=>
      as_aux_lemma=>
       cases Q1
       ·have h1:B=[]∨C=[]:=by
         have h:=HB.out;have hn:=HX.out.nums;by_cases g1:i<m
         ·by_cases g2:m<e
          ·simp[g1,g2]at h
          ·exact .inr (List.eq_nil_of_length_eq_zero (by omega))
         ·exact .inl (List.eq_nil_of_length_eq_zero (by omega))
        have HI2:Hid (IRow wr g (P++A++C++(B++D++S)) sp):=Lib.hid (by
         have h:=HR1.out;rcases h1 with h1|h1
         ·subst h1;simpa using h
         ·subst h1;simpa using h)
        clear h1
        go_wp2_with fail
        go_meet
        exact⟨HI2,HT⟩
       ·have hg:i<m∧m<e:=by have h:=HB.out;simpa using h
        have hn:=HX.out.nums;have hr:=rotate_any g cap (P++A) B C (D++S) sp (.func (.func 89) #[] #[.pointer (some ⟨c,0,none⟩)]) wr HR1.out (by omega) (by omega) (by rw[HX.out.lens.2.2.2.1];exact hl) (by rw[HX.out.lens.2.2.2.1];exact HHC.out);rw[HX.out.lens.2.2.2.1,HX.out.lens.1,HX.out.lens.2.1,HX.out.lens.2.2.1]at hr;have HRO:=Lib.hid hr;clear hr hn hg
        go_wp2_with fail
        refine Calls.mono (by with_reducible exact HRO.out) ?_;rintro e2 w2 ⟨rfl,h2,ht2⟩
        have HI2:Hid (IRow w2 g (P++A++C++(B++D++S)) sp):=Lib.hid (by
         rw[show P++A++C++(B++D++S)=P++A++C++B++(D++S) by simp];exact h2)
        have HT2:=Lib.hid (HT.out.trans ht2);clear h2 ht2
        go_wp2_with fail
        go_meet
        exact⟨HI2,HT2⟩
     case rest=>
      obtain⟨HI2,HT2⟩:=hcut;obtain⟨w3,hw3⟩: ∃V,V=wc:=⟨_,rfl⟩;subst hw3;clear HR1 HT HB
      go_upto_region 41 with fail
      go_cut[199]from 25 (fun cv wx=> ∃Q2:Bool,cv= .bool Q2∧Hid (Q2=decide (a<i∧i<mid))∧wx=w3)
      case first=>
       as_aux_lemma=>
        by_cases g1:a<i
        ·by_cases g2:i<mid
         ·go_wp2
          go_meet
          exact⟨true,rfl,Lib.hid (by simp[g1,g2]),rfl⟩
         ·have g3:decide (i<mid)=false:=decide_eq_false g2
          go_wp2
          go_meet
          exact⟨false,rfl,Lib.hid (by simp[g1,g2]),rfl⟩
        ·have g3:decide (a<i)=false:=decide_eq_false g1
         go_wp2
         go_meet
         exact⟨false,rfl,Lib.hid (by simp[g1]),rfl⟩
      case rest=>
       obtain⟨Q2,rfl,HB2,hwc⟩:=hcut;rw[hwc];clear hwc wc
       go_upto_if 199 with fail
       go_cut[]from 25 (fun wx=> ∃M1:List Int,Hid (M1.Perm (A++C))∧Hid (Srt T M1)∧Hid (IRow wx g (P++M1++(B++D++S)) sp)∧Hid (Turned (fun k=>k=g) w wx))
       case first=>
        as_aux_lemma=>
         cases Q2
         ·have h1:A=[]∨C=[]:=by
           have h:=HB2.out;have hn:=HX.out.nums;by_cases g1:a<i
           ·by_cases g2:i<mid
            ·simp[g1,g2]at h
            ·exact .inr (List.eq_nil_of_length_eq_zero (by omega))
           ·exact .inl (List.eq_nil_of_length_eq_zero (by omega))
          have hs:=HX.out.srt;have HS1:Hid (Srt T (A++C)):=Lib.hid (srt_either hs.1 hs.2.2.1 h1);have HI3:Hid (IRow w3 g (P++(A++C)++(B++D++S)) sp):=Lib.hid (by rw[←List.append_assoc P];exact HI2.out);clear h1 hs
          go_wp2_with fail
          go_meet
          exact⟨A++C,Lib.hid (.refl _),HS1,HI3,HT2⟩
         ·have hg:a<i∧i<mid:=by have h:=HB2.out;simpa using h
          have hn:=HX.out.nums;have hs:=HX.out.srt;have hr:=HIH.out P A C (B++D++S) w3 (by omega) (by omega) (by omega) HI2.out HX.out.lens.2.2.2.2.2 hs.1 hs.2.2.1 hs.2.2.2.2.1 HV1.out.1 (cmpI_turned HC.out HT2.out);rw[HAE.out,HX.out.lens.1,HX.out.lens.2.2.2.2.1]at hr;have HRO:=Lib.hid hr;clear hr hn hg hs
          go_wp2_with fail
          refine Calls.mono (by with_reducible exact HRO.out) ?_;rintro e2 w4 ⟨rfl,⟨M1,hm1,hs1,hi1⟩,ht2⟩;have HM1:=Lib.hid hm1;have HS1:=Lib.hid hs1;have HI3:=Lib.hid hi1;have HT3:=Lib.hid (HT2.out.trans ht2);clear hm1 hs1 hi1 ht2
          go_wp2_with fail
          go_meet
          exact⟨M1,HM1,HS1,HI3,HT3⟩
       case rest=>
        obtain⟨M1,HM1,HS1,HI3,HT3⟩:=hcut;obtain⟨w4,hw4⟩: ∃V,V=wc:=⟨_,rfl⟩;subst hw4;clear HI2 HT2 HB2;have HL3:Hid ((P++M1).length=mid):=Lib.hid (by have h:=HX.out.lens.2.2.2.2.1;rw[List.append_assoc,List.length_append]at h;rw[List.length_append,HM1.out.length_eq];exact h)
        have HFIN:Hid (∀(W:World) (M2:List Int),M2.Perm (B++D)→Srt T M2→IRow W g (P++M1++M2++S) sp→ ∃M,M.Perm (L++R)∧Srt T M∧IRow W g (P++M++S) sp):=Lib.hid (fun W M2 h1 h2 h3=>by
         have h4:=HX.out.parts M1 M2 HM1.out HS1.out h1 h2;exact⟨M1++M2,h4.1,h4.2,by rw[←List.append_assoc P];exact h3⟩)
        go_upto_region 43 with fail
        go_cut[213]from 25 (fun cv wx=> ∃Q3:Bool,cv= .bool Q3∧Hid (Q3=decide (mid<e∧e<b))∧wx=w4)
        case first=>
         as_aux_lemma=>
          by_cases g1:mid<e
          ·by_cases g2:e<b
           ·go_wp2
            go_meet
            exact⟨true,rfl,Lib.hid (by simp[g1,g2]),rfl⟩
           ·have g3:decide (e<b)=false:=decide_eq_false g2
            go_wp2
            go_meet
            exact⟨false,rfl,Lib.hid (by simp[g1,g2]),rfl⟩
          ·have g3:decide (mid<e)=false:=decide_eq_false g1
           go_wp2
           go_meet
           exact⟨false,rfl,Lib.hid (by simp[g1]),rfl⟩
        case rest=>
         obtain⟨Q3,rfl,HB3,hwc⟩:=hcut;rw[hwc];clear hwc wc;cases Q3
         ·have h1:B=[]∨D=[]:=by
           have h:=HB3.out;have hn:=HX.out.nums;by_cases g1:mid<e
           ·by_cases g2:e<b
            ·simp[g1,g2]at h
            ·exact .inr (List.eq_nil_of_length_eq_zero (by omega))
           ·exact .inl (List.eq_nil_of_length_eq_zero (by omega))
          have hs:=HX.out.srt
          have HFF:=Lib.hid (HFIN.out w4 (B++D) (.refl _) (srt_either hs.2.1 hs.2.2.2.1 h1) (by
           rw[show P++M1++(B++D)++S=P++M1++(B++D++S) by simp];exact HI3.out))
          clear h1 hs;go_wp2
          go_end0
          exact⟨rfl,HFF.out,HT3.out⟩
         ·have hg:mid<e∧e<b:=by have h:=HB3.out;simpa using h
          have hn:=HX.out.nums;have hs:=HX.out.srt;have hl3:=HL3.out;have hr:=HIH.out (P++M1) B D S w4 (by omega) (by omega) (by omega) (by rw[show P++M1++B++D++S=P++M1++(B++D++S) by simp];exact HI3.out) (by simp only[List.length_append]at hl3⊢;omega) hs.2.1 hs.2.2.2.1 hs.2.2.2.2.2 HV1.out.2 (cmpI_turned HC.out HT3.out);rw[hl3,show(P++M1++B).length=e by rw[List.length_append,hl3];omega,show(P++M1++B++D).length=b by rw[List.length_append,List.length_append,hl3];omega]at hr;have HRO:=Lib.hid hr;clear hr hn hg hs hl3
          go_wp2_with fail
          refine Calls.mono (by with_reducible exact HRO.out) ?_;rintro e2 w5 ⟨rfl,⟨M2,hm2,hs2,hi2⟩,ht2⟩;have HFF:=Lib.hid (HFIN.out w5 M2 hm2 hs2 hi2);have HT4:=Lib.hid (HT3.out.trans ht2);clear hm2 hs2 hi2 ht2;go_wp2
          go_end0
          exact⟨rfl,HFF.out,HT4.out⟩
theorem symMerge_any (T:Int→Int)(V:Int→Prop)(g cap c N:Nat)(sp:List Value)(hl:N≤1073741824)(hc:N≤cap∧cap≤maxLen): ∀n,SymC T V g cap c N sp n
 |0=>fun _ _ _ _ _ h=>absurd h (Nat.not_lt_zero _)
 |n+1=>fun P L R S w hn h1 h2 h hN hL hR hf hV hcmp=>by
  by_cases a1:L.length=1
  ·obtain⟨x,rfl⟩:=List.length_eq_one_iff.1 a1
   exact symL T V g cap c N P R S x sp w h hN hl hc hR hf (hV x (by simp)) (fun y hy=>hV y (by simp[hy])) hcmp
  ·by_cases a2:R.length=1
   ·obtain⟨x,rfl⟩:=List.length_eq_one_iff.1 a2
    exact symR T V g cap c N P L S x sp w h hN hl hc (by omega) hL hf (hV x (by simp)) (fun y hy=>hV y (by simp[hy])) hcmp
   ·refine symM T V g cap c N sp P L R S w (fun P' L' R' S' W hlt=>symMerge_any T V g cap c N sp hl hc n P' L' R' S' W (by omega)) h hN hl hc (by omega) (by omega) hL hR hf hV hcmp
end Go.Proofs.YtjhbeecmdgglgaaGreatDoor
