/-The stable sort of numbers: insertion. (Printed by gensrt3.py.) The stable sort of numbers: a half of one, put in from the left. (Printed by gensrt4.p -/
import Derived.Test.YtjhbeecmdgglgaaGreatDoorGrpX28
set_option linter.unusedSimpArgs false
set_option linter.unusedVariables false
namespace Go.Proofs.YtjhbeecmdgglgaaGreatDoor
open Go.RowKit
theorem IRow.below {w w':World}{g:Nat}{D:List Int}{sp:List Value}(h:IRow w g D sp)(hb:Below w.heap.size w w'):IRow w' g D sp:=by
 obtain⟨t,h⟩:=h;exact⟨t,h.below hb⟩
theorem turned_trans_below {F:Nat→Prop}{a b c:World}(h:Turned F a b)(k:Below b.heap.size b c):Turned F a c:=h.trans (turned_below k)
theorem take_y {M:List Int}{s:Nat}{y:Int}(h:M[s]?=some y):M.take (s+1)=M.take s++[y]:=by
 obtain⟨hl,e⟩:=List.getElem?_eq_some_iff.1 h;rw[←e];exact List.take_succ_eq_append_getElem hl
theorem drop_y {M:List Int}{s:Nat}{y:Int}(h:M[s]?=some y):M.drop s=y::M.drop (s+1):=by
 obtain⟨hl,e⟩:=List.getElem?_eq_some_iff.1 h;rw[←e];exact List.drop_eq_getElem_cons hl
theorem inn_one (P M S:List Int)(x y:Int)(s:Nat)(h:M[s]?=some y):P++(M.take (s+1)++x::M.drop (s+1))++S=(P++M.take s)++y::x::(M.drop (s+1)++S):=by
 rw[take_y h];simp
theorem inn_two (P M S:List Int)(x y:Int)(s:Nat)(h:M[s]?=some y):(P++M.take s)++x::y::(M.drop (s+1)++S)=P++(M.take s++x::M.drop s)++S:=by
 rw[drop_y h];simp
theorem inn_new (P M X S:List Int)(x:Int)(t:Nat)(hx:X[t]?=some x):P++M++X.drop t++S=P++(M.take M.length++x::M.drop M.length)++(X.drop (t+1)++S):=by
 rw[drop_y hx];simp
theorem up_at {X:List Int}(h:X.Pairwise (· < ·)){t:Nat}{x:Int}(hx:X[t]?=some x){M:List Int}(hM:M.Perm (X.take t)):Fore M [x]:=by
 intro u hu v hv;obtain rfl:v=x:=by simpa using hv
 have hu:=hM.mem_iff.1 hu;rw[←List.take_append_drop t X]at h;exact(List.pairwise_append.1 h).2.2 u hu _ (by rw[drop_y hx];simp)
theorem ins_next {X M:List Int}{x:Int}{t s:Nat}(hx:X[t]?=some x)(hM:M.Perm (X.take t)):(M.take s++x::M.drop s).Perm (X.take (t+1)):=by
 rw[take_y hx];exact ins_perm.trans ((List.Perm.cons _ hM).trans (List.perm_append_comm (l₁:=[x])))
theorem ins_last (P M X S:List Int){t:Nat}(h:X.length≤t):P++M++X.drop t++S=P++M++S:=by
 rw[List.drop_eq_nil_of_le h];simp
abbrev CmpI (T:Int→Int) (V:Int→Prop) (g c:Nat) (w:World):Prop:= ∀(W:World) (x y:Int),Turned (fun k=>k=g) w W→V x→V y→
 Calls Tryz.prog 89 #[.int .i64 x,.int .i64 y,.pointer (some ⟨c,0,none⟩)] W fun e W'=>e= .returned (.int .i64 (T x-T y))∧Below W.heap.size W W'
set_option maxHeartbeats 4000000 in
set_option maxRecDepth 10000 in
theorem insertion_any (T:Int→Int)(V:Int→Prop)(g cap c N:Nat)(P X S:List Int)(sp:List Value)(w:World)(h:IRow w g (P++X++S) sp)(hN:(P++X++S).length=N)(hl:N≤1073741824)(hc:N≤cap∧cap≤maxLen)
 (hX:X.Pairwise (· < ·)) (hV: ∀x∈X,V x) (hcmp:CmpI T V g c w):
 Calls Tryz.prog 157 #[.slice (some ⟨g,0,none⟩) N cap,.int .i64 P.length,.int .i64 (P++X).length,.func (.func 89) #[] #[.pointer (some ⟨c,0,none⟩)]] w fun e w'=>e= .returned (.tuple #[])∧(∃M,M.Perm X∧Srt T M∧IRow w' g (P++M++S) sp)∧Turned (fun k=>k=g) w w':=by
 have HC:=Lib.hid hcmp;have HV:=Lib.hid hV;have HX:=Lib.hid hX;have HI:=Lib.hid h;have HN:=Lib.hid hN;obtain⟨hc1,hc2⟩:=hc;unfold maxLen at hc2;obtain⟨a,ha⟩: ∃m,P.length=m:=⟨_,rfl⟩;obtain⟨b,hb⟩: ∃m,(P++X).length=m:=⟨_,rfl⟩;have hab:b=a+X.length:=by rw[←hb,List.length_append,ha]
 have hbN:b≤N:=by have:=hN;rw[List.length_append]at this;omega
 rw[ha,hb];have HA:=Lib.hid ha;have HAB:=Lib.hid hab;clear h hX hV hcmp hN ha hb;have wr0:IntKind.i64.wrap ((a:Int)+1)=((a+1:Nat):Int):=by rw[IntKind.wrap_i64];omega
 clear hab;go_enter Tryz.func157,Tryz.ntmps157
 go_wp2_with fail
 go_loopw[8,9] (fun iv _ wr=> ∃i:Nat,a+1≤i∧iv= .int .i64 (i:Nat)∧(i≤b∨b=a)∧Hid (∃M,M.Perm (X.take (i-a))∧Srt T M∧IRow wr g (P++M++X.drop (i-a)++S) sp)∧Hid (Turned (fun k=>k=g) w wr)) (fun iv _ _=>b-(intOf iv).toNat)
 case atStart=>
  have hab:=HAB.out;refine⟨a+1,Nat.le_refl _,rfl,by omega,Lib.hid ⟨X.take 1,?_,?_,?_⟩,Lib.hid (Turned.refl _ _)⟩
  ·rw[show a+1-a=1 by omega]
  ·cases X with
   |nil=>exact .nil
   |cons x t=>exact List.pairwise_singleton _ _
  ·rw[show a+1-a=1 by omega,List.append_assoc P,List.take_append_drop];exact HI.out
 case round=>
  rename World=>wr
  obtain⟨i,hi,rfl,hib,HM,HT⟩:=hrel;have hab:=HAB.out;by_cases hlt:i<b
  ·have i0:(i:Int)<(b:Int):=by omega
   obtain⟨M,hM,hS,hR⟩:=HM.out;obtain⟨x,hx⟩: ∃x,X[i-a]?=some x:=⟨_,List.getElem?_eq_getElem (by omega)⟩;have hml:M.length=i-a:=by rw[hM.length_eq,List.length_take];omega
   have hf:=up_at HX.out hx hM;have hMV: ∀y∈M,V y:=fun y hy=>HV.out y (List.mem_of_mem_take (hM.mem_iff.1 hy));have hxV:V x:=HV.out x (List.mem_of_getElem? hx);rw[inn_new P M X S x _ hx]at hR;obtain⟨S',hS'⟩: ∃S',X.drop (i-a+1)++S=S':=⟨_,rfl⟩;rw[hS']at hR
   have HLN:Hid (∀s,(P++(M.take s++x::M.drop s)++S').length=N):=Lib.hid (fun s=>by
    rw[←hS',←HN.out,List.length_append,List.length_append,ins_perm.length_eq];simp only[List.length_append,List.length_cons,List.length_drop];omega)
   have hi1:i+1-a=i-a+1:=by omega
   have HST:=Lib.hid (show ∀(W:World) (s:Nat),s≤M.length→IRow W g (P++(M.take s++x::M.drop s)++S') sp→(s=0∨ ∃y,M[s-1]?=some y∧T y≤T x)→(s=M.length∨ ∃y,M[s]?=some y∧T x<T y)→ ∃M,M.Perm (X.take (i+1-a))∧Srt T M∧IRow W g (P++M++X.drop (i+1-a)++S) sp from
    fun W s hs hW h1 h2=>⟨M.take s++x::M.drop s,by rw[hi1];exact ins_next hx hM,insR_idx hS hf hs h1 h2,by rw[hi1,List.append_assoc (P++_),hS'];exact hW⟩)
   have HR:=Lib.hid hR;have HMV:=Lib.hid hMV;have HML:=Lib.hid hml;clear HM hR hS hM hf hx hMV hS' hml hi1 hab
   go_wp2_with fail
   go_loopw[9] (fun jv wr=> ∃s:Nat,s≤M.length∧jv= .int .i64 ((a+s:Nat):Int)∧Hid (IRow wr g (P++(M.take s++x::M.drop s)++S') sp)∧Hid (s=M.length∨ ∃y,M[s]?=some y∧T x<T y)∧Hid (Turned (fun k=>k=g) w wr)) (fun jv _=>(intOf jv).toNat-a)
   case atStart=>have hab:=HAB.out;exact⟨M.length,Nat.le_refl _,by rw[HML.out];congr 2;omega,HR,Lib.hid (.inl rfl),HT⟩
   case round=>
    clear HT HR;rename World=>wr1
    obtain⟨s,hs,rfl,HR,HG,HT⟩:=hrel;have HML2:=HML.out;obtain⟨j,hj⟩: ∃j,a+s=j:=⟨_,rfl⟩;rw[hj];have HJ:=Lib.hid hj;have hjN:j<N:=by have:=HAB.out;omega
    by_cases hs0:0<s
    ·obtain⟨p,hp⟩: ∃p,j=p+1:=⟨j-1,by omega⟩
     obtain⟨y,hy⟩: ∃y,M[s-1]?=some y:=⟨_,List.getElem?_eq_getElem (by omega)⟩;obtain⟨r,rfl⟩: ∃r,s=r+1:=⟨s-1,by omega⟩;rw[Nat.add_sub_cancel]at hy;have hyV:=HMV.out y (List.mem_of_getElem? hy);have hpl:(P++M.take r).length=p:=by rw[List.length_append,List.length_take,HA.out];omega
     have hD:=inn_one P M S' x y r hy;have hD2:=inn_two P M S' x y r hy;have h1:=HR.out;rw[hD]at h1;have e1:((P++M.take r)++y::x::(M.drop (r+1)++S'))[p]?=some y:=by rw[←hpl];exact at_fst _ _ _ _
     have e2:((P++M.take r)++y::x::(M.drop (r+1)++S'))[j]?=some x:=by rw[hp,←hpl];exact at_snd _ _ _ _
     have eL:((P++M.take r)++y::x::(M.drop (r+1)++S')).length=N:=by rw[←hD];exact HLN.out _
     have d0:a<j:=by omega
     have q1:IntKind.i64.wrap ((j:Int)-1)=(p:Int):=by rw[IntKind.wrap_i64];omega
     have j0:(0:Int)≤(j:Int):=by omega
     have j1:(j:Int)<(N:Int):=by omega
     have p0:(0:Int)≤(p:Int):=by omega
     have p1:(p:Int)<(N:Int):=by omega
     have c1:wr1.drew.cell? ⟨g,j,none⟩=some (.int .i64 x):=h1.drew.cell e2;have c2:wr1.drew.cell? ⟨g,p,none⟩=some (.int .i64 y):=h1.drew.cell e1;have HC1:=Lib.hid (HC.out _ x y (HT.out.trans (turned_drew _ _)) hxV hyV);obtain⟨dd,hdd⟩: ∃d,T x-T y=d:=⟨_,rfl⟩;rw[hdd]at HC1;have HDD:=Lib.hid hdd;have HH:Hid (∀W,Turned (fun k=>k=g) w W→IRow W g ((P++M.take r)++y::x::(M.drop (r+1)++S')) sp→True):=Lib.hid (fun _ _ _=>trivial);have HR1:=Lib.hid h1;have HP:=Lib.hid hp;have HY:=Lib.hid hy;have HE1:=Lib.hid e1;have HE2:=Lib.hid e2;have HEL:=Lib.hid eL;have HPL:=Lib.hid hpl;have HD:=Lib.hid hD;have HD2:=Lib.hid hD2;have cc:=And.intro c1 c2;clear hdd h1 hp hj hy e1 e2 eL hpl hD hD2 c1 c2 HML2
     go_upto_region 4 with fail
     go_region_held3 (fun w'=>w'.cell? ⟨g,j,none⟩=some (.int .i64 x)∧w'.cell? ⟨g,p,none⟩=some (.int .i64 y))
      (first|exact cc|exact z|go_keep)
      ((go_at_call 89;refine Calls.mono (by with_reducible exact HC1.out) ?_;rintro e w2 ⟨rfl,hb2⟩;have K2:=HR1.out.drew.below hb2;have T2:=turned_trans_below (HT.out.trans (turned_drew _ _)) hb2;have z:=And.intro (K2.cell HE2.out) (K2.cell HE1.out)))
     all_goals
      clear z cc HC1 HT HR;have HT2:=Lib.hid T2;have HK2:=Lib.hid K2;clear T2 K2 hb2;by_cases hz:dd<0
      ·have dx:w2.drew.cell? ⟨g,j,none⟩=some (.int .i64 x):=HK2.out.drew.cell HE2.out
       have dy:w2.drew.cell? ⟨g,p,none⟩=some (.int .i64 y):=HK2.out.drew.cell HE1.out;have fx:w2.drew.frozen? ⟨g,j,none⟩=false:=HK2.out.drew.free _;have hjD:j<((P++M.take r)++y::x::(M.drop (r+1)++S')).length:=by rw[HEL.out];exact hjN
       have hpD:p<(((P++M.take r)++y::x::(M.drop (r+1)++S')).set j y).length:=by rw[List.length_set,HEL.out];have:=HP.out;omega
       have c2:=HK2.out.drew.set hjD y;have f2:(w2.drew.setCell ⟨g,j,none⟩ (.int .i64 y)).frozen? ⟨g,p,none⟩=false:=c2.free _;have fy:w2.drew.frozen? ⟨g,p,none⟩=false:=HK2.out.drew.free _;have gy:w2.frozen? ⟨g,p,none⟩=false:=HK2.out.free _;obtain⟨u,hu⟩: ∃z,(((P++M.take r)++y::x::(M.drop (r+1)++S')).set j y)[p]?=some z:=⟨_,List.getElem?_eq_getElem hpD⟩;have d2:(w2.drew.setCell ⟨g,j,none⟩ (.int .i64 y)).cell? ⟨g,p,none⟩=some (.int .i64 u):=c2.cell hu;have d3:(w2.setCell ⟨g,j,none⟩ (.int .i64 y)).cell? ⟨g,p,none⟩=some (.int .i64 u):=(HK2.out.set hjD y).cell hu
       have HC3:Hid (IRow ((w2.setCell ⟨g,j,none⟩ (.int .i64 y)).setCell ⟨g,p,none⟩ (.int .i64 x)).drew g (P++(M.take r++x::M.drop r)++S') sp):=Lib.hid (by
        have h3:=c2.set hpD x;rw[HP.out,←HPL.out,set_adj2,HD2.out]at h3;rw[HP.out,←HPL.out];exact h3)
       have HT3:Hid (Turned (fun k=>k=g) w ((w2.setCell ⟨g,j,none⟩ (.int .i64 y)).setCell ⟨g,p,none⟩ (.int .i64 x)).drew):=Lib.hid (((HT2.out.trans (turned_drew _ _)).trans (turned_set _ ⟨g,j,none⟩ _)).trans (turned_set _ ⟨g,p,none⟩ _));have HG2:Hid (r=M.length∨ ∃y,M[r]?=some y∧T x<T y):=Lib.hid (.inr ⟨y,HY.out,by have:=HDD.out;omega⟩);clear hjD hpD c2 hu
       go_upto_region 6 with fail
       refine tr (S:=(fun _=>True)) trivial (fun hHeld=> ?_);refine tk 0 ?_;refine tk 1 ?_;refine tk 2 ?_;refine tk 3 ?_;refine tk 4 ?_;refine tk 5 ?_;refine tk 6 ?_;refine tk 7 ?_;refine tk 8 ?_;refine tk 10 ?_;refine tk 11 ?_;refine tk 12 ?_;refine tc2 9 13 ?_ ?_;intro K hK;go_simp;refine hK.out _ _ trivial (fun hHeld9=> ?_);clear hK K;refine tc 13 ?_;intro K hK;go_simp;refine hK.out _ _ trivial (fun hHeld13=> ?_);clear hK K;refine tk 14 ?_;rotate_left;intro K hK;go_simp;refine hK.out _ _ trivial (fun hHeld13=> ?_);clear hK K;refine tc 9 ?_;intro K hK;go_simp;refine hK.out _ _ trivial (fun hHeld9=> ?_);clear hK K;refine tk 14 ?_
       all_goals
        refine tc 15 ?_;intro K hK;go_simp;refine hK.out _ _ trivial (fun hHeld15=> ?_);clear hK K;refine tk 16 ?_;refine tc 17 ?_;intro K hK;go_simp;refine hK.out _ _ trivial (fun hHeld17=> ?_);clear hK K;refine td ?_
       all_goals
        go_wp2_with fail
        exact⟨⟨r,by omega,by have:=HP.out;have:=HJ.out;go_num,HC3,HG2,HT3⟩,by have:=HP.out;have:=HJ.out;simp[intOf];omega⟩
      ·have HF:=Lib.hid (HST.out w2 (r+1) hs (by rw[HD.out];exact HK2.out) (.inr ⟨y,by rw[Nat.add_sub_cancel];exact HY.out,by have:=HDD.out;omega⟩) HG.out)
       have HAB2:=HAB.out
       go_wp2_with fail
       exact⟨⟨i+1,by omega,by go_num,by omega,HF,HT2⟩,by simp[intOf];omega⟩
    ·have haj:decide (a<j)=false:=decide_eq_false (by omega)
     have HF:=Lib.hid (HST.out wr1 s hs HR.out (.inl (by omega)) HG.out);have HAB2:=Lib.hid HAB.out;clear hj HML2
     go_upto_region 4 with fail
     go_quiet (fail)
     have HAB3:=HAB2.out
     go_wp2_with fail
     exact⟨⟨i+1,by omega,by go_num,by omega,HF,⟨HT.out.os,HT.out.tape,HT.out.output,HT.out.size,HT.out.same⟩⟩,by simp[intOf];omega⟩
  ·have HF:Hid (∃M,M.Perm X∧Srt T M∧IRow wr g (P++M++S) sp):=Lib.hid (by
    obtain⟨M,h1,h2,h3⟩:=HM.out;have hle:X.length≤i-a:=by omega
    rw[List.take_of_length_le hle]at h1;rw[ins_last P M X S hle]at h3;exact⟨M,h1,h2,h3⟩)
   clear hab;go_wp2
   go_end0
   exact⟨rfl,HF.out,HT.out⟩
end Go.Proofs.YtjhbeecmdgglgaaGreatDoor
namespace Go.Proofs.YtjhbeecmdgglgaaGreatDoor
open Go.RowKit
theorem at_mid (A B C:List Int){h:Nat}(h1:A.length≤h)(h2:h<A.length+B.length):(A++B++C)[h]?=B[h-A.length]?:=by
 rw[List.append_assoc,List.getElem?_append_right h1,List.getElem?_append_left (by omega)]
theorem cmpI_turned {T:Int→Int}{V:Int→Prop}{g c:Nat}{w w':World}(h:CmpI T V g c w)(ht:Turned (fun k=>k=g) w w'):CmpI T V g c w':=fun W x y h1 h2 h3=>h W x y (ht.trans h1) h2 h3
theorem symL_one (P R S:List Int)(x y:Int)(t:Nat)(h:R[t]?=some y):(P++R.take t)++x::(R.drop t++S)=(P++R.take t)++x::y::(R.drop (t+1)++S):=by
 rw[drop_y h];simp
theorem symL_two (P R S:List Int)(x y:Int)(t:Nat)(h:R[t]?=some y):(P++R.take t)++y::x::(R.drop (t+1)++S)=(P++R.take (t+1))++x::(R.drop (t+1)++S):=by
 rw[take_y h];simp
set_option maxHeartbeats 4000000 in
set_option maxRecDepth 10000 in
theorem symL (T:Int→Int)(V:Int→Prop)(g cap c N:Nat)(P R S:List Int)(x:Int)(sp:List Value)(w:World)(h:IRow w g (P++[x]++R++S) sp)(hN:(P++[x]++R++S).length=N)(hl:N≤1073741824)(hc:N≤cap∧cap≤maxLen)
 (hR:Srt T R) (hf:Fore [x] R) (hxV:V x) (hV: ∀y∈R,V y) (hcmp:CmpI T V g c w):
 Calls Tryz.prog 158 #[.slice (some ⟨g,0,none⟩) N cap,.int .i64 P.length,.int .i64 (P++[x]).length,.int .i64 (P++[x]++R).length,.func (.func 89) #[] #[.pointer (some ⟨c,0,none⟩)]] w fun e w'=>e= .returned (.tuple #[])∧(∃M,M.Perm ([x]++R)∧Srt T M∧IRow w' g (P++M++S) sp)∧Turned (fun k=>k=g) w w':=by
 have HC:=Lib.hid hcmp;have HV:=Lib.hid hV;have HI:=Lib.hid h;obtain⟨hc1,hc2⟩:=hc;unfold maxLen at hc2;obtain⟨a,ha⟩: ∃m,P.length=m:=⟨_,rfl⟩;obtain⟨m,hm⟩: ∃m,(P++[x]).length=m:=⟨_,rfl⟩;obtain⟨b,hb⟩: ∃m,(P++[x]++R).length=m:=⟨_,rfl⟩;have HMM:=Lib.hid hm;have HAE:=Lib.hid ha;have HNE:=Lib.hid hN
 have hq:m=a+1∧b=m+R.length∧b≤N:=by
  simp only[List.length_append,List.length_singleton]at hN hb hm;omega
 have HQ:=Lib.hid hq;rw[ha,hm,hb];have q0:IntKind.i64.wrap ((m:Int)-(a:Int))=1:=by rw[IntKind.wrap_i64];omega
 have hmb:m≤b:=by omega
 have haN:a<N:=by omega
 have a0:(0:Int)≤(a:Int):=by omega
 have a1:(a:Int)<(N:Int):=by omega
 have HXA:Hid ((P++[x]++R++S)[a]?=some x):=Lib.hid (by
  rw[List.append_assoc (P++[x]),at_mid P [x] (R++S) (by omega) (by rw[List.length_singleton];omega),show a-P.length=0 by omega];rfl)
 clear h hV hcmp ha hm hb hN hq;go_enter Tryz.func158,Tryz.ntmps158
 go_wp2_with fail
 go_loopw[10,11,12] (fun iv jv _ wr=> ∃i j:Nat,iv= .int .i64 i∧jv= .int .i64 j∧m≤i∧i≤j∧j≤b∧Hid (i=m∨ ∃y,R[i-1-m]?=some y∧T y<T x)∧Hid (j=b∨ ∃y,R[j-m]?=some y∧T x≤T y)∧Hid (IRow wr g (P++[x]++R++S) sp)∧Hid (Turned (fun k=>k=g) w wr)) (fun iv jv _ _=>(intOf jv).toNat-(intOf iv).toNat)
 case atStart=>exact⟨m,b,rfl,rfl,Nat.le_refl _,hmb,Nat.le_refl _,Lib.hid (.inl rfl),Lib.hid (.inl rfl),HI,Lib.hid (Turned.refl _ _)⟩
 case round=>
  rename World=>wr
  obtain⟨i,j,rfl,rfl,hi,hij,hj,HG1,HG2,HR,HT⟩:=hrel;by_cases hlt:i<j
  ·obtain⟨k,hk⟩: ∃k,(i+j)/ 2=k:=⟨_,rfl⟩
   have hki:i≤k:=by omega
   have hkj:k<j:=by omega
   have hq:=HQ.out;have hkN:k<N:=by omega
   obtain⟨y,hy⟩: ∃y,R[k-m]?=some y:=⟨_,List.getElem?_eq_getElem (by omega)⟩;have hyV:=HV.out y (List.mem_of_getElem? hy);have e1:(P++[x]++R++S)[k]?=some y:=by rw[at_mid (P++[x]) R S (by rw[HMM.out];omega) (by rw[HMM.out];omega),HMM.out];exact hy
   have hq2:((i:Int)+(j:Int))/ 2=(k:Int):=by omega
   have k0:(0:Int)≤(k:Int):=by omega
   have k1:(k:Int)<(N:Int):=by omega
   have c1:wr.drew.cell? ⟨g,k,none⟩=some (.int .i64 y):=HR.out.drew.cell e1;have c2:wr.drew.cell? ⟨g,a,none⟩=some (.int .i64 x):=HR.out.drew.cell HXA.out;have HC1:=Lib.hid (HC.out _ y x (HT.out.trans (turned_drew _ _)) hyV hxV);obtain⟨dd,hdd⟩: ∃d,T y-T x=d:=⟨_,rfl⟩;rw[hdd]at HC1;have HDD:=Lib.hid hdd;have HY:=Lib.hid hy;have HE1:=Lib.hid e1;have cc:=And.intro c1 c2;clear hk hq hy e1 c1 c2 hdd
   go_wp2_with fail
   go_region_held3 (fun w'=>w'.cell? ⟨g,k,none⟩=some (.int .i64 y)∧w'.cell? ⟨g,a,none⟩=some (.int .i64 x))
    (first|exact cc|exact z|go_keep)
    ((go_at_call 89;refine Calls.mono (by with_reducible exact HC1.out) ?_;rintro e w2 ⟨rfl,hb2⟩;have K2:=HR.out.drew.below hb2;have T2:=turned_trans_below (HT.out.trans (turned_drew _ _)) hb2;have z:=And.intro (K2.cell HE1.out) (K2.cell HXA.out)))
   all_goals
    clear z cc HC1 HT HR;have HT2:=Lib.hid T2;have HK2:=Lib.hid K2;clear T2 K2 hb2;by_cases hz:dd<0
    ·have HG1':Hid (k+1=m∨ ∃y,R[k+1-1-m]?=some y∧T y<T x):=Lib.hid (.inr ⟨y,by rw[Nat.add_sub_cancel];exact HY.out,by have:=HDD.out;omega⟩)
     go_wp2;go_roundw
     case rel=>exact⟨k+1,j,by go_num,rfl,by omega,by omega,hj,HG1',HG2,HK2,HT2⟩
     case measure=>simp[intOf];omega
    ·have HG2':Hid (k=b∨ ∃y,R[k-m]?=some y∧T x≤T y):=Lib.hid (.inr ⟨y,HY.out,by have:=HDD.out;omega⟩)
     go_wp2;go_roundw
     case rel=>exact⟨i,k,rfl,rfl,hi,hki,by omega,HG1,HG2',HK2,HT2⟩
     case measure=>simp[intOf];omega
  ·obtain rfl:i=j:=by omega
   have hq:=HQ.out
   have HFIN:Hid (∀W,IRow W g ((P++R.take (i-m))++x::(R.drop (i-m)++S)) sp→ ∃M,M.Perm ([x]++R)∧Srt T M∧IRow W g (P++M++S) sp):=Lib.hid (fun W hW=>⟨R.take (i-m)++x::R.drop (i-m),ins_perm,insL_idx hR hf (by omega) (by
    rcases HG1.out with h|⟨y,h1,h2⟩
    ·exact .inl (by omega)
    ·exact .inr ⟨y,by rw[show i-m-1=i-1-m by omega];exact h1,h2⟩) (by
    rcases HG2.out with h|⟨y,h1,h2⟩
    ·exact .inl (by omega)
    ·exact .inr ⟨y,h1,h2⟩),by rw[show P++(R.take (i-m)++x::R.drop (i-m))++S=(P++R.take (i-m))++x::(R.drop (i-m)++S) by simp];exact hW⟩)
   have HR0:Hid (IRow wr g ((P++R.take (a-a))++x::(R.drop (a-a)++S)) sp):=Lib.hid (by rw[Nat.sub_self,show(P++R.take 0)++x::(R.drop 0++S)=P++[x]++R++S by simp];exact HR.out)
   have HLN:Hid (∀t,((P++R.take t)++x::(R.drop t++S)).length=N):=Lib.hid (fun t=>by
    rw[←HNE.out];have h1:(R.take t++R.drop t).length=R.length:=by rw[List.take_append_drop]
    rw[List.length_append]at h1;simp only[List.length_append,List.length_cons,List.length_nil];omega)
   have i1:IntKind.i64.wrap ((i:Int)-1)=((i-1:Nat):Int):=by rw[IntKind.wrap_i64];omega
   obtain⟨e,he⟩: ∃e,i-1=e:=⟨_,rfl⟩;rw[he]at i1;have hae:a≤e:=by omega
   have HEQ:=Lib.hid he;clear hq HG1 HG2 HR he
   go_wp2_with fail
   go_loopw[13] (fun kv wr=> ∃k:Nat,kv= .int .i64 k∧a≤k∧k≤e∧Hid (IRow wr g ((P++R.take (k-a))++x::(R.drop (k-a)++S)) sp)∧Hid (Turned (fun k=>k=g) w wr)) (fun kv _=>e-(intOf kv).toNat)
   case atStart=>exact⟨a,rfl,Nat.le_refl _,hae,HR0,HT⟩
   case round=>
    clear HR0 HT;rename World=>wr1
    obtain⟨k,rfl,hak,hke,HR,HT⟩:=hrel;by_cases hlk:k<e
    ·have hq:=HQ.out
     have heq:=HEQ.out;obtain⟨p,hp⟩: ∃p,k+1=p:=⟨_,rfl⟩;obtain⟨t,ht⟩: ∃t,k-a=t:=⟨_,rfl⟩;obtain⟨y,hy⟩: ∃y,R[t]?=some y:=⟨_,List.getElem?_eq_getElem (by omega)⟩;have hD:=symL_one P R S x y t hy;have hD2:=symL_two P R S x y t hy;have h1:=HR.out;have hLN:=HLN.out t;rw[ht,hD]at h1;rw[hD]at hLN;have hAl:(P++R.take t).length=k:=by rw[List.length_append,List.length_take,HAE.out];omega
     have e1:((P++R.take t)++x::y::(R.drop (t+1)++S))[k]?=some x:=by rw[←hAl];exact at_fst _ _ _ _
     have e2:((P++R.take t)++x::y::(R.drop (t+1)++S))[p]?=some y:=by rw[←hp,←hAl];exact at_snd _ _ _ _
     have p3:IntKind.i64.wrap ((k:Int)+1)=(p:Int):=by rw[IntKind.wrap_i64];omega
     have k0:(0:Int)≤(k:Int):=by omega
     have k1:(k:Int)<(N:Int):=by omega
     have p0:(0:Int)≤(p:Int):=by omega
     have p1:(p:Int)<(N:Int):=by omega
     have dx:wr1.drew.cell? ⟨g,k,none⟩=some (.int .i64 x):=h1.drew.cell e1;have dy:wr1.drew.cell? ⟨g,p,none⟩=some (.int .i64 y):=h1.drew.cell e2;have fx:wr1.drew.frozen? ⟨g,k,none⟩=false:=h1.drew.free _;have hkD:k<((P++R.take t)++x::y::(R.drop (t+1)++S)).length:=by rw[hLN];omega
     have hpD:p<(((P++R.take t)++x::y::(R.drop (t+1)++S)).set k y).length:=by rw[List.length_set,hLN];omega
     have c2:=h1.drew.set hkD y;have f2:(wr1.drew.setCell ⟨g,k,none⟩ (.int .i64 y)).frozen? ⟨g,p,none⟩=false:=c2.free _;have fy:wr1.drew.frozen? ⟨g,p,none⟩=false:=h1.drew.free _;have gy:wr1.frozen? ⟨g,p,none⟩=false:=h1.free _;obtain⟨u,hu⟩: ∃z,(((P++R.take t)++x::y::(R.drop (t+1)++S)).set k y)[p]?=some z:=⟨_,List.getElem?_eq_getElem hpD⟩;have d2:(wr1.drew.setCell ⟨g,k,none⟩ (.int .i64 y)).cell? ⟨g,p,none⟩=some (.int .i64 u):=c2.cell hu;have d3:(wr1.setCell ⟨g,k,none⟩ (.int .i64 y)).cell? ⟨g,p,none⟩=some (.int .i64 u):=(h1.set hkD y).cell hu
     have HC3:Hid (IRow ((wr1.setCell ⟨g,k,none⟩ (.int .i64 y)).setCell ⟨g,p,none⟩ (.int .i64 x)).drew g ((P++R.take (p-a))++x::(R.drop (p-a)++S)) sp):=Lib.hid (by
      have h3:=c2.set hpD x;rw[←hp,←hAl,set_adj,hD2]at h3;rw[show p-a=t+1 by omega,←hp,←hAl];exact h3)
     have HT3:Hid (Turned (fun k=>k=g) w ((wr1.setCell ⟨g,k,none⟩ (.int .i64 y)).setCell ⟨g,p,none⟩ (.int .i64 x)).drew):=Lib.hid (((HT.out.trans (turned_drew _ _)).trans (turned_set _ ⟨g,k,none⟩ _)).trans (turned_set _ ⟨g,p,none⟩ _));have HP:=Lib.hid hp;clear hkD hpD c2 hu hp ht hy hD hD2 h1 hLN hAl e1 e2 hq heq
     go_upto_region 11 with fail
     refine tr (S:=(fun _=>True)) trivial (fun hHeld=> ?_);refine tk 0 ?_;refine tk 1 ?_;refine tk 2 ?_;refine tk 3 ?_;refine tk 4 ?_;refine tk 5 ?_;refine tk 6 ?_;refine tk 7 ?_;refine tk 8 ?_;refine tk 10 ?_;refine tk 11 ?_;refine tk 12 ?_;refine tc2 9 13 ?_ ?_;intro K hK;go_simp;refine hK.out _ _ trivial (fun hHeld9=> ?_);clear hK K;refine tc 13 ?_;intro K hK;go_simp;refine hK.out _ _ trivial (fun hHeld13=> ?_);clear hK K;refine tk 14 ?_;rotate_left;intro K hK;go_simp;refine hK.out _ _ trivial (fun hHeld13=> ?_);clear hK K;refine tc 9 ?_;intro K hK;go_simp;refine hK.out _ _ trivial (fun hHeld9=> ?_);clear hK K;refine tk 14 ?_
     all_goals
      refine tc 15 ?_;intro K hK;go_simp;refine hK.out _ _ trivial (fun hHeld15=> ?_);clear hK K;refine tk 16 ?_;refine tc 17 ?_;intro K hK;go_simp;refine hK.out _ _ trivial (fun hHeld17=> ?_);clear hK K;refine td ?_
     all_goals
      go_wp2_with fail
      exact⟨⟨p,by rfl,by have:=HP.out;omega,by have:=HP.out;omega,HC3,HT3⟩,by have:=HP.out;simp[intOf];omega⟩
    ·obtain rfl:k=e:=by omega
     have HFF:Hid (∃M,M.Perm ([x]++R)∧Srt T M∧IRow wr1 g (P++M++S) sp):=Lib.hid (HFIN.out _ (by
      have h:=HR.out;have:=HEQ.out;have:=HQ.out;rw[show k-a=i-m by omega]at h;exact h))
     go_wp2
     ((try simp only[Exit.inBlock,Exit.then]);refine bodyPost_ret (results_none rfl _ _ _) rfl ?_)
     exact⟨rfl,HFF.out,HT.out⟩
end Go.Proofs.YtjhbeecmdgglgaaGreatDoor
namespace Go.Proofs.YtjhbeecmdgglgaaGreatDoor
open Go.RowKit
theorem symR_one (P L S:List Int)(x y:Int)(t:Nat)(h:L[t]?=some y):(P++L.take (t+1))++x::(L.drop (t+1)++S)=(P++L.take t)++y::x::(L.drop (t+1)++S):=by
 rw[take_y h];simp
theorem symR_two (P L S:List Int)(x y:Int)(t:Nat)(h:L[t]?=some y):(P++L.take t)++x::y::(L.drop (t+1)++S)=(P++L.take t)++x::(L.drop t++S):=by
 rw[drop_y h];simp
set_option maxHeartbeats 4000000 in
set_option maxRecDepth 10000 in
theorem symR (T:Int→Int)(V:Int→Prop)(g cap c N:Nat)(P L S:List Int)(x:Int)(sp:List Value)(w:World)(h:IRow w g (P++L++[x]++S) sp)(hN:(P++L++[x]++S).length=N)(hl:N≤1073741824)(hc:N≤cap∧cap≤maxLen)
 (h2:1<L.length) (hL:Srt T L) (hf:Fore L [x]) (hxV:V x) (hV: ∀y∈L,V y) (hcmp:CmpI T V g c w):
 Calls Tryz.prog 158 #[.slice (some ⟨g,0,none⟩) N cap,.int .i64 P.length,.int .i64 (P++L).length,.int .i64 (P++L++[x]).length,.func (.func 89) #[] #[.pointer (some ⟨c,0,none⟩)]] w fun e w'=>e= .returned (.tuple #[])∧(∃M,M.Perm (L++[x])∧Srt T M∧IRow w' g (P++M++S) sp)∧Turned (fun k=>k=g) w w':=by
 have HC:=Lib.hid hcmp;have HV:=Lib.hid hV;have HI:=Lib.hid h;obtain⟨hc1,hc2⟩:=hc;unfold maxLen at hc2;obtain⟨a,ha⟩: ∃m,P.length=m:=⟨_,rfl⟩;obtain⟨m,hm⟩: ∃m,(P++L).length=m:=⟨_,rfl⟩;obtain⟨b,hb⟩: ∃m,(P++L++[x]).length=m:=⟨_,rfl⟩;have HMM:=Lib.hid hm;have HAE:=Lib.hid ha;have HNE:=Lib.hid hN
 have hq:m=a+L.length∧b=m+1∧b≤N:=by
  simp only[List.length_append,List.length_singleton]at hN hb hm;omega
 have HQ:=Lib.hid hq;rw[ha,hm,hb];obtain⟨dl,hdl⟩: ∃dl:Nat,m-a=dl:=⟨_,rfl⟩;have q0:IntKind.i64.wrap ((m:Int)-(a:Int))=(dl:Int):=by rw[IntKind.wrap_i64];omega
 have q1:((dl:Int)==1)=false:=by rw[beq_eq_false_iff_ne];omega
 have q2:IntKind.i64.wrap ((b:Int)-(m:Int))=1:=by rw[IntKind.wrap_i64];omega
 have ham:a≤m:=by omega
 have hmN:m<N:=by omega
 have m0:(0:Int)≤(m:Int):=by omega
 have m1:(m:Int)<(N:Int):=by omega
 have HXA:Hid ((P++L++[x]++S)[m]?=some x):=Lib.hid (by
  rw[at_mid (P++L) [x] S (by omega) (by rw[List.length_singleton];omega),show m-(P++L).length=0 by omega];rfl)
 clear h hV hcmp ha hm hb hN hq hdl;go_enter Tryz.func158,Tryz.ntmps158
 go_wp2_with fail
 go_loopw[14,15,16] (fun iv jv _ wr=> ∃i j:Nat,iv= .int .i64 i∧jv= .int .i64 j∧a≤i∧i≤j∧j≤m∧Hid (i=a∨ ∃y,L[i-1-a]?=some y∧T y≤T x)∧Hid (j=m∨ ∃y,L[j-a]?=some y∧T x<T y)∧Hid (IRow wr g (P++L++[x]++S) sp)∧Hid (Turned (fun k=>k=g) w wr)) (fun iv jv _ _=>(intOf jv).toNat-(intOf iv).toNat)
 case atStart=>exact⟨a,m,rfl,rfl,Nat.le_refl _,ham,Nat.le_refl _,Lib.hid (.inl rfl),Lib.hid (.inl rfl),HI,Lib.hid (Turned.refl _ _)⟩
 case round=>
  rename World=>wr
  obtain⟨i,j,rfl,rfl,hi,hij,hj,HG1,HG2,HR,HT⟩:=hrel;by_cases hlt:i<j
  ·obtain⟨k,hk⟩: ∃k,(i+j)/ 2=k:=⟨_,rfl⟩
   have hki:i≤k:=by omega
   have hkj:k<j:=by omega
   have hq:=HQ.out;have hkN:k<N:=by omega
   obtain⟨y,hy⟩: ∃y,L[k-a]?=some y:=⟨_,List.getElem?_eq_getElem (by omega)⟩;have hyV:=HV.out y (List.mem_of_getElem? hy);have e1:(P++L++[x]++S)[k]?=some y:=by rw[List.append_assoc (P++L),at_mid P L ([x]++S) (by rw[HAE.out];omega) (by rw[HAE.out];omega),HAE.out];exact hy
   have hq2:((i:Int)+(j:Int))/ 2=(k:Int):=by omega
   have k0:(0:Int)≤(k:Int):=by omega
   have k1:(k:Int)<(N:Int):=by omega
   have c1:wr.drew.cell? ⟨g,k,none⟩=some (.int .i64 y):=HR.out.drew.cell e1;have c2:wr.drew.cell? ⟨g,m,none⟩=some (.int .i64 x):=HR.out.drew.cell HXA.out;have HC1:=Lib.hid (HC.out _ x y (HT.out.trans (turned_drew _ _)) hxV hyV);obtain⟨dd,hdd⟩: ∃d,T x-T y=d:=⟨_,rfl⟩;rw[hdd]at HC1;have HDD:=Lib.hid hdd;have HY:=Lib.hid hy;have HE1:=Lib.hid e1;have cc:=And.intro c1 c2;clear hk hq hy e1 c1 c2 hdd
   go_wp2_with fail
   go_region_held3 (fun w'=>w'.cell? ⟨g,k,none⟩=some (.int .i64 y)∧w'.cell? ⟨g,m,none⟩=some (.int .i64 x))
    (first|exact cc|exact z|go_keep)
    ((go_at_call 89;refine Calls.mono (by with_reducible exact HC1.out) ?_;rintro e w2 ⟨rfl,hb2⟩;have K2:=HR.out.drew.below hb2;have T2:=turned_trans_below (HT.out.trans (turned_drew _ _)) hb2;have z:=And.intro (K2.cell HE1.out) (K2.cell HXA.out)))
   all_goals
    clear z cc HC1 HT HR;have HT2:=Lib.hid T2;have HK2:=Lib.hid K2;clear T2 K2 hb2;by_cases hz:dd<0
    ·rw[show(!decide (dd<0))=false by simp[hz]]
     have HG2':Hid (k=m∨ ∃y,L[k-a]?=some y∧T x<T y):=Lib.hid (.inr ⟨y,HY.out,by have:=HDD.out;omega⟩);go_wp2;go_roundw
     case rel=>exact⟨i,k,rfl,rfl,hi,hki,by omega,HG1,HG2',HK2,HT2⟩
     case measure=>simp[intOf];omega
    ·rw[show(!decide (dd<0))=true by simpa using hz]
     have HG1':Hid (k+1=a∨ ∃y,L[k+1-1-a]?=some y∧T y≤T x):=Lib.hid (.inr ⟨y,by rw[Nat.add_sub_cancel];exact HY.out,by have:=HDD.out;omega⟩);go_wp2;go_roundw
     case rel=>exact⟨k+1,j,by go_num,rfl,by omega,by omega,hj,HG1',HG2,HK2,HT2⟩
     case measure=>simp[intOf];omega
  ·obtain rfl:i=j:=by omega
   have hq:=HQ.out
   have HFIN:Hid (∀W,IRow W g ((P++L.take (i-a))++x::(L.drop (i-a)++S)) sp→ ∃M,M.Perm (L++[x])∧Srt T M∧IRow W g (P++M++S) sp):=Lib.hid (fun W hW=>⟨L.take (i-a)++x::L.drop (i-a),ins_perm.trans (List.perm_append_comm (l₁:=[x])),insR_idx hL hf (by omega) (by
    rcases HG1.out with h|⟨y,h1,h2⟩
    ·exact .inl (by omega)
    ·exact .inr ⟨y,by rw[show i-a-1=i-1-a by omega];exact h1,h2⟩) (by
    rcases HG2.out with h|⟨y,h1,h2⟩
    ·exact .inl (by omega)
    ·exact .inr ⟨y,h1,h2⟩),by rw[show P++(L.take (i-a)++x::L.drop (i-a))++S=(P++L.take (i-a))++x::(L.drop (i-a)++S) by simp];exact hW⟩)
   have HR0:Hid (IRow wr g ((P++L.take (m-a))++x::(L.drop (m-a)++S)) sp):=Lib.hid (by rw[show m-a=L.length by omega,show(P++L.take L.length)++x::(L.drop L.length++S)=P++L++[x]++S by simp];exact HR.out)
   have HLN:Hid (∀t,((P++L.take t)++x::(L.drop t++S)).length=N):=Lib.hid (fun t=>by
    rw[←HNE.out];have h1:(L.take t++L.drop t).length=L.length:=by rw[List.take_append_drop]
    rw[List.length_append]at h1;simp only[List.length_append,List.length_cons,List.length_nil];omega)
   clear hq HG1 HG2 HR
   go_wp2_with fail
   go_loopw[17] (fun kv wr=> ∃k:Nat,kv= .int .i64 k∧i≤k∧k≤m∧Hid (IRow wr g ((P++L.take (k-a))++x::(L.drop (k-a)++S)) sp)∧Hid (Turned (fun k=>k=g) w wr)) (fun kv _=>(intOf kv).toNat)
   case atStart=>exact⟨m,rfl,hj,Nat.le_refl _,HR0,HT⟩
   case round=>
    clear HR0 HT;rename World=>wr1
    obtain⟨k,rfl,hak,hke,HR,HT⟩:=hrel;by_cases hlk:i<k
    ·have hq:=HQ.out
     obtain⟨p,hp⟩: ∃p,k=p+1:=⟨k-1,by omega⟩;obtain⟨t,ht⟩: ∃t,p-a=t:=⟨_,rfl⟩;obtain⟨y,hy⟩: ∃y,L[t]?=some y:=⟨_,List.getElem?_eq_getElem (by omega)⟩;have hD:=symR_one P L S x y t hy;have hD2:=symR_two P L S x y t hy;have h1:=HR.out;have hLN:=HLN.out (t+1);rw[show k-a=t+1 by omega,hD]at h1;rw[hD]at hLN;have hAl:(P++L.take t).length=p:=by rw[List.length_append,List.length_take,HAE.out];omega
     have e1:((P++L.take t)++y::x::(L.drop (t+1)++S))[p]?=some y:=by rw[←hAl];exact at_fst _ _ _ _
     have e2:((P++L.take t)++y::x::(L.drop (t+1)++S))[k]?=some x:=by rw[hp,←hAl];exact at_snd _ _ _ _
     have p3:IntKind.i64.wrap ((k:Int)-1)=(p:Int):=by rw[IntKind.wrap_i64];omega
     have k0:(0:Int)≤(k:Int):=by omega
     have k1:(k:Int)<(N:Int):=by omega
     have p0:(0:Int)≤(p:Int):=by omega
     have p1:(p:Int)<(N:Int):=by omega
     have dx:wr1.drew.cell? ⟨g,k,none⟩=some (.int .i64 x):=h1.drew.cell e2;have dy:wr1.drew.cell? ⟨g,p,none⟩=some (.int .i64 y):=h1.drew.cell e1;have fx:wr1.drew.frozen? ⟨g,k,none⟩=false:=h1.drew.free _;have hkD:k<((P++L.take t)++y::x::(L.drop (t+1)++S)).length:=by rw[hLN];omega
     have hpD:p<(((P++L.take t)++y::x::(L.drop (t+1)++S)).set k y).length:=by rw[List.length_set,hLN];omega
     have c2:=h1.drew.set hkD y;have f2:(wr1.drew.setCell ⟨g,k,none⟩ (.int .i64 y)).frozen? ⟨g,p,none⟩=false:=c2.free _;have fy:wr1.drew.frozen? ⟨g,p,none⟩=false:=h1.drew.free _;have gy:wr1.frozen? ⟨g,p,none⟩=false:=h1.free _;obtain⟨u,hu⟩: ∃z,(((P++L.take t)++y::x::(L.drop (t+1)++S)).set k y)[p]?=some z:=⟨_,List.getElem?_eq_getElem hpD⟩;have d2:(wr1.drew.setCell ⟨g,k,none⟩ (.int .i64 y)).cell? ⟨g,p,none⟩=some (.int .i64 u):=c2.cell hu;have d3:(wr1.setCell ⟨g,k,none⟩ (.int .i64 y)).cell? ⟨g,p,none⟩=some (.int .i64 u):=(h1.set hkD y).cell hu
     have HC3:Hid (IRow ((wr1.setCell ⟨g,k,none⟩ (.int .i64 y)).setCell ⟨g,p,none⟩ (.int .i64 x)).drew g ((P++L.take (p-a))++x::(L.drop (p-a)++S)) sp):=Lib.hid (by
      have h3:=c2.set hpD x;rw[hp,←hAl,set_adj2,hD2]at h3;rw[ht,hp,←hAl];exact h3)
     have HT3:Hid (Turned (fun k=>k=g) w ((wr1.setCell ⟨g,k,none⟩ (.int .i64 y)).setCell ⟨g,p,none⟩ (.int .i64 x)).drew):=Lib.hid (((HT.out.trans (turned_drew _ _)).trans (turned_set _ ⟨g,k,none⟩ _)).trans (turned_set _ ⟨g,p,none⟩ _));have HP:=Lib.hid hp;clear hkD hpD c2 hu hp ht hy hD hD2 h1 hLN hAl e1 e2 hq
     go_upto_region 23 with fail
     refine tr (S:=(fun _=>True)) trivial (fun hHeld=> ?_);refine tk 0 ?_;refine tk 1 ?_;refine tk 2 ?_;refine tk 3 ?_;refine tk 4 ?_;refine tk 5 ?_;refine tk 6 ?_;refine tk 7 ?_;refine tk 8 ?_;refine tk 10 ?_;refine tk 11 ?_;refine tk 12 ?_;refine tc2 9 13 ?_ ?_;intro K hK;go_simp;refine hK.out _ _ trivial (fun hHeld9=> ?_);clear hK K;refine tc 13 ?_;intro K hK;go_simp;refine hK.out _ _ trivial (fun hHeld13=> ?_);clear hK K;refine tk 14 ?_;rotate_left;intro K hK;go_simp;refine hK.out _ _ trivial (fun hHeld13=> ?_);clear hK K;refine tc 9 ?_;intro K hK;go_simp;refine hK.out _ _ trivial (fun hHeld9=> ?_);clear hK K;refine tk 14 ?_
     all_goals
      refine tc 15 ?_;intro K hK;go_simp;refine hK.out _ _ trivial (fun hHeld15=> ?_);clear hK K;refine tk 16 ?_;refine tc 17 ?_;intro K hK;go_simp;refine hK.out _ _ trivial (fun hHeld17=> ?_);clear hK K;refine td ?_
     all_goals
      go_wp2_with fail
      exact⟨⟨p,by rfl,by have:=HP.out;omega,by have:=HP.out;omega,HC3,HT3⟩,by have:=HP.out;simp[intOf];omega⟩
    ·obtain rfl:i=k:=by omega
     have HFF:Hid (∃M,M.Perm (L++[x])∧Srt T M∧IRow wr1 g (P++M++S) sp):=Lib.hid (HFIN.out _ HR.out);go_wp2
     ((try simp only[Exit.inBlock,Exit.then]);refine bodyPost_ret (results_none rfl _ _ _) rfl ?_)
     exact⟨rfl,HFF.out,HT.out⟩
end Go.Proofs.YtjhbeecmdgglgaaGreatDoor
