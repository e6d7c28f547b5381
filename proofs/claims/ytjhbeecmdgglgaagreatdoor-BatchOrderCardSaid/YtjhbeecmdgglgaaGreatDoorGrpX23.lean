/-Groups: maps to groups that turn. told. Net. Plain law of lists of rows and counts: what tells such a list; the difference of two; what is told of one -/
import Derived.Test.YtjhbeecmdgglgaaGreatDoorGrpX22
import Derived.Test.YtjhbeecmdgglgaaGreatDoorGrpX15
set_option linter.unusedSimpArgs false
set_option linter.unusedVariables false
namespace Go.Proofs.YtjhbeecmdgglgaaGreatDoor
open Go.RowKit Go.Maps
theorem mem_mid {α:Type}{p a:α}{X1 X2:List α}(h:p∈X1++a::X2):p=a∨p∈X1++X2:=by
 rcases List.mem_append.1 h with h|h
 ·exact .inr (List.mem_append.2 (.inl h))
 ·rcases List.mem_cons.1 h with h|h
  ·exact .inl h
  ·exact .inr (List.mem_append.2 (.inr h))
theorem mem_rest {α:Type}{p a:α}{X1 X2:List α}(h:p∈X1++X2):p∈X1++a::X2:=by
 rcases List.mem_append.1 h with h|h
 ·exact List.mem_append.2 (.inl h)
 ·exact List.mem_append.2 (.inr (List.mem_cons_of_mem _ h))
theorem gbk_symm {p q:Nat×Gm}(h: ∀k,GBk p.1 p.2 k→ ¬GBk q.1 q.2 k): ∀k,GBk q.1 q.2 k→ ¬GBk p.1 p.2 k:=fun k hq hp=>h k hp hq
theorem mapTurned_turned {w w':World}{b:Nat}(h:w.mapTurned w' b):Turned (fun k=>k=b) w w':=by
 exact(turned_grown h.grown).imp fun k _ e=>by injection e with e;exact e.symm
theorem look_mid {A B:AV}{r:List Val}{n:Int}(hA: ∀p∈A,rowsF p.1 r<0)(hr:rowsF r r=0):lookA (A++(r,n)::B) r=n:=by
 induction A with
 |nil=>exact if_pos hr
 |cons x A ih=>
  obtain⟨xr,m⟩:=x;have:=hA (xr,m) (by simp);show(if rowsF xr r=0 then m else lookA (A++(r,n)::B) r)=n;rw[if_neg (by simp only at this;omega)];exact ih fun p hp=>hA p (by simp[hp])
theorem look_none {A:AV}{r:List Val}(hA: ∀p∈A,rowsF p.1 r≠0):lookA A r=0:=by
 induction A with
 |nil=>rfl
 |cons x A ih=>
  obtain⟨xr,m⟩:=x;show(if rowsF xr r=0 then m else lookA A r)=0;rw[if_neg (hA (xr,m) (by simp))];exact ih fun p hp=>hA p (by simp[hp])
theorem ax_mid (X1 X2:List (Nat×Gm))(b:Nat)(x:Gm):ax (X1++(b,x)::X2)=ax X1++(x.r,(b:Int)+1)::ax X2:=by
 unfold ax;rw[List.map_append,List.map_cons]
structure Tn (w:World) (base M:Nat) (X:List (Nat×Gm)) (w':World) (N:Nat) (X':List (Nat×Gm)):Prop where
 map:GMap w' base M N X'
 turned:Turned (MBk M X) w w'
 old: ∀k,k<w.heap.size→MBk M X' k→MBk M X k
theorem Tn.start {w:World}{base M N:Nat}{X:List (Nat×Gm)}(h:GMap w base M N X):Tn w base M X w N X:=⟨h,Turned.refl _ _,fun _ _ h=>h⟩
theorem Tn.below {w w1 w2:World}{base M N:Nat}{X X':List (Nat×Gm)}(h:Tn w base M X w1 N X')(hb:Below w1.heap.size w1 w2):Tn w base M X w2 N X':=⟨h.map.below hb,h.turned.transN (turned_below (F:=fun _=>False) hb) (fun _ _ f=>f.elim),h.old⟩
theorem Tn.more {w w1:World}{base M N N':Nat}{X X':List (Nat×Gm)}(h:Tn w base M X w1 N X')(hN:N≤N'):Tn w base M X w1 N' X':=by
 obtain⟨⟨⟨n,hn,hm⟩,h1,h2,h3,h4⟩,h5,h6⟩:=h;exact⟨⟨⟨n,Nat.le_trans hn hN,hm⟩,h1,h2,h3,h4⟩,h5,h6⟩
theorem Tn.put {w w1 w2 w3:World}{base M N b:Nat}{X X1 X2:List (Nat×Gm)}{x:Gm}(h:Tn w base M X w1 N (X1++X2))(hb:Below w1.heap.size w1 w2)(ho:GpO w2 w1.heap.size b x)(hm: ∃n,n≤N+1∧w3.ownsMap Tryz.prog 9 ptrE M n (mkD (ax (X1++(b,x)::X2))))(hg:w2.grownBy w3 (some M))(hbase:base≤w1.heap.size):Tn w base M X w3 (N+1) (X1++(b,x)::X2):=by
 have ht:=turned_grown hg;have hlt:=h.map.lt;have hr: ∀k,GBk b x k→w1.heap.size≤k:=fun k hk=>(ho.range k hk).1;have hsz:=h.turned.size;have hM: ∀ {k},some M=some k→k=M:=fun e=>by injection e with e;exact e.symm
 refine⟨⟨hm,h.map.mb,fun p hp=> ?_,fun p hp=> ?_,(List.pairwise_middle (fun{p q} h=>gbk_symm h)).2 (List.pairwise_cons.2 ⟨fun p hp k hk e=> ?_,h.map.apart⟩)⟩,?_,fun k hl hm=> ?_⟩
 ·rcases mem_mid hp with rfl|hp
  ·have h1:=ho.turned ht fun k hk e=>by have:=hM e;have:=hr k hk;omega
   exact⟨h1.cell,h1.row,own_le h1.sl hbase,fun q hq=>own_le (h1.bag q hq) hbase,fun k hk=>⟨Nat.le_trans hbase (h1.range k hk).1,(h1.range k hk).2⟩,h1.bv,h1.bvb,h1.bq,h1.vvb,h1.vq,h1.vbq,h1.pair⟩
  ·exact((h.map.each p hp).below hb).turned ht fun k hk e=>h.map.far p hp (by rw[←hM e];exact hk)
 ·rcases mem_mid hp with rfl|hp
  ·exact fun hk=>by have:=hr M hk;omega
  ·exact h.map.far p hp
 ·have:=hr k hk
  have:=((h.map.each p hp).range k e).2;omega
 ·exact(h.turned.transN (turned_below (F:=fun _=>False) hb) (fun _ _ f=>f.elim)).transN ht fun i hi e=>h.old i hi (.inl (hM e))
 ·rcases hm with hm|⟨p,hp,hm⟩
  ·exact h.old k hl (.inl hm)
  ·rcases mem_mid hp with rfl|hp
   ·have:=hr k hm;omega
   ·exact h.old k hl (.inr ⟨p,hp,hm⟩)
theorem Tn.drop {w w1 w2:World}{base M N b:Nat}{X X1 X2:List (Nat×Gm)}{x:Gm}(h:Tn w base M X w1 N (X1++(b,x)::X2))(hm: ∃n,n≤N∧w2.ownsMap Tryz.prog 9 ptrE M n (mkD (ax (X1++X2))))(ht:w1.mapTurned w2 M):Tn w base M X w2 N (X1++X2):=by
 have ht:=mapTurned_turned ht;obtain⟨hp1,hp2⟩:=List.pairwise_cons.1 ((List.pairwise_middle (fun{p q} h=>gbk_symm h)).1 h.map.apart);refine⟨⟨hm,h.map.mb,fun p hp=>(h.map.each p (mem_rest hp)).turned ht fun k hk e=>h.map.far p (mem_rest hp) (e▸hk),fun p hp=>h.map.far p (mem_rest hp),hp2⟩,h.turned.transN ht (fun i hi e=>h.old i hi (.inl e)),fun k hl hm=> ?_⟩;rcases hm with hm|⟨p,hp,hm⟩
 ·exact h.old k hl (.inl hm)
 ·exact h.old k hl (.inr ⟨p,mem_rest hp,hm⟩)
end Go.Proofs.YtjhbeecmdgglgaaGreatDoor
namespace Go.Proofs.YtjhbeecmdgglgaaGreatDoor
open Go.RowKit Go.Maps
abbrev KL:=List (Int×List Val)
def dels (A:AV):KL:=A.flatMap fun p=>List.replicate (-p.2).toNat (2,p.1)
def inss (A:AV):KL:=A.flatMap fun p=>List.replicate p.2.toNat (1,p.1)
def tell (A:AV):KL:=dels A++inss A
def toldS (A:AV):KL×Bool:=if(tell A).length≤4096 then(tell A,true)else([],false)
theorem told_yes {A:AV}(h:(tell A).length≤4096):toldS A=(tell A,true):=if_pos h
theorem told_no {A:AV}(h:4096<(tell A).length):toldS A=([],false):=if_neg (by omega)
theorem dels_app (a b:AV):dels (a++b)=dels a++dels b:=List.flatMap_append
theorem inss_app (a b:AV):inss (a++b)=inss a++inss b:=List.flatMap_append
theorem dels_take {A:AV}{k:Nat}{p:List Val×Int}(h:A[k]?=some p):dels (A.take (k+1))=dels (A.take k)++List.replicate (-p.2).toNat (2,p.1):=by
 rw[List.take_add_one,h,dels_app];simp[dels]
theorem inss_take {A:AV}{k:Nat}{p:List Val×Int}(h:A[k]?=some p):inss (A.take (k+1))=inss (A.take k)++List.replicate p.2.toNat (1,p.1):=by
 rw[List.take_add_one,h,inss_app];simp[inss]
theorem dels_len (A:AV)(k:Nat):(dels (A.take k)).length≤(tell A).length:=by
 have:dels A=dels (A.take k)++dels (A.drop k):=by rw[←dels_app,List.take_append_drop]
 rw[tell,this];simp only[List.length_append];omega
theorem inss_len (A:AV)(k:Nat):(dels A++inss (A.take k)).length≤(tell A).length:=by
 have:inss A=inss (A.take k)++inss (A.drop k):=by rw[←inss_app,List.take_append_drop]
 rw[tell,this];simp only[List.length_append];omega
theorem ac_len (l:List Chn):(ac l).length=l.length:=by unfold ac;rw[List.length_map]
set_option maxHeartbeats 4000000 in
set_option maxRecDepth 100000 in
theorem told_any {M N:Nat}{A:AV}(w:World)(hp:Pile w M N A)(hA:Rises A)(hn:A.length≤1000000)(hb: ∀p∈A,-1099511627776≤p.2∧p.2≤1099511627776):
 Calls Tryz.prog 74 #[.map (some M)] w fun e w'=> ∃v l,e= .returned (.tuple #[v,.bool (toldS A).2])∧Chs w' v l∧ac l=(toldS A).1∧Below w.heap.size w w':=by
 have HA:=Lib.hid hA;have HB:=Lib.hid hb;have hM:=hp.lt;have HTY:=Lib.hid (@told_yes A);have HTN:=Lib.hid (@told_no A);generalize toldS A=T at HTY HTN⊢;have hb0:=below_alloc w (.cells #[.slice none 0 0] 42);have HP1:=Lib.hid (hp.below hb0);have HBX:=Lib.hid (Blk.new w 42 #[.slice none 0 0]);clear hA hb hp;go_enter Tryz.func74,Tryz.ntmps74
 go_wp2_with fail
 refine(keys_any _ HP1.out HA.out hn).mono ?_;rintro e w1 ⟨vk,rfl,hown,hb1⟩;have HGE:=Lib.hid (own_ge hown);have HS:=Lib.hid (Sl.of_own hown);rw[show A.length=(A.map fun p=>Value.string (str (keyRow p.1))).length from by rw[List.length_map]]at HS;clear hown;generalize hks:(A.map fun p=>Value.string (str (keyRow p.1)))=ks at HS;have HKS:=Lib.hid hks;have hkl:ks.length=A.length:=by rw[←hks,List.length_map]
 obtain⟨Ak,ck,rfl,hc1,hc2,-,hcell⟩:=id HS.out;have HC:=Lib.hid hcell;have HKL:=Lib.hid hkl;unfold maxLen at hc2;rw[hkl]at hc1;clear hks hcell hkl;rw[HKL.out];have HP2:=Lib.hid (HP1.out.below hb1);have HBX2:=Lib.hid (HBX.out.below hb1);have hs1:w.heap.size+1≤w1.heap.size:=by have:=hb1.size;simpa using this
 have hbw1:=below_trans hb0 hb1;clear HP1 HBX
 go_wp2_with fail
 go_loopw[8,16] (fun _ i wr=> ∃(k:Nat) (v':Value) (o:List Chn),i= .int .i64 k∧k≤A.length∧Hid (ac o=dels (A.take k))∧o.length≤4096∧Hid (OwnC wr w1.heap.size v' o)∧Hid (Blk wr w.heap.size 42 #[v'])∧w1.grownBy wr (some w.heap.size)) (fun _ i _=>A.length-(intOf i).toNat)
 case atStart=>exact⟨0,_,[],rfl,by omega,Lib.hid (by simp[dels,ac]),by simp,OwnC.nil w1 w1.heap.size,HBX2,World.grownBy.refl w1 _⟩
 case round=>
  obtain⟨k,v',o,rfl,hk,HAC,hol,HO,HBr,hgr⟩:=hrel;by_cases hlt:k<A.length
  ·have hx:=List.getElem?_eq_getElem (l:=A) hlt
   generalize A[k]=x at hx;have hmem:=List.mem_of_getElem? hx;have HG:=Lib.hid (HA.out.good x hmem);have hnb:=HB.out x hmem;have hlk:=look_at HA.out hx;have HT:=Lib.hid (dels_take hx);obtain⟨g,off,rfl,hcc⟩:=HC.out (by intro h0;have:=HKL.out;rw[h0]at this;simp at this;omega);have hgP:g≠w.heap.size:=by have:=HGE.out g rfl;simp at this;omega
   have hck:=hcc k (.string (str (keyRow x.1))) (by rw[←HKS.out,List.getElem?_map,hx];rfl);have hgl:=World.block_lt_of_cell? w1 _ hck;have d1:wr.cell? ⟨g,off+k,none⟩=some (.string (str (keyRow x.1))):=(World.cell?_of_block (hgr.block g hgl (fun e=>hgP (by injection e)))).trans hck;have HKY:=Lib.hid (keyS HG.out);obtain⟨n2,-,hmap⟩:=HP2.out;have hmap2:=hmap.kept hgr (by intro e;injection e with e;omega);obtain⟨c,hrun,hat,-⟩:=hmap2.lookup_int (t:=105) lawS Tryz.underlying105 Tryz.underlying3 (zeroS _) HKY.out;obtain rfl:=lit_inj (hat.symm.trans (mkD_at HA.out.good HG.out));rw[hlk]at hrun;have HSAY:=Lib.hid (fun n h=>say_any w.heap.size v' o 2 n x.1 w1 wr hgr (by omega) HBr.out HO.out hol HG.out h);generalize str (keyRow x.1)=ky at d1 HKY hrun HSAY;obtain⟨r,n⟩:=x;simp only at hnb hrun HSAY HT HG;clear hx hmem hcc hck hat hmap hmap2 hlk;have k0:(0:Int)≤(k:Int):=by omega
   have k1:(k:Int)<(A.length:Int):=by omega
   by_cases hneg:n<0
   ·have HSY:=Lib.hid (HSAY.out (-n) (by omega))
    have hwn:IntKind.i64.wrap (-n)= -n:=by rw[IntKind.wrap_i64];omega
    clear HSAY
    go_wp2_with fail
    refine(HSY.out).mono ?_;rintro e w2 (⟨hq,rfl,hg2,hsz⟩|⟨hq,rfl,v2,o2,hO2,ha2,hB2,hg2⟩)
    ·have EE:=Lib.hid (HTN.out (by
      have h1:=dels_len A (k+1);rw[HT.out,←HAC.out,List.length_append,List.length_replicate,ac_len]at h1;omega))
     have hbw:Below w.heap.size w w2:=hbw1.grown hg2 (by omega) (fun j hj=>by cases hj;exact Nat.le_refl _);go_wp2
     go_ret2
     first
      |exact⟨.slice none 0 0,[],by rw[EE.out];rfl,Chs.nil _,by rw[EE.out];rfl,hbw⟩
      |exact⟨.slice none 0 0,by rw[EE.out];rfl,[],Chs.nil _,by rw[EE.out];rfl,hbw⟩
    ·have HA2:Hid (ac o2=dels (A.take (k+1))):=Lib.hid (by rw[HT.out,ha2,HAC.out])
     have ho2:o2.length≤4096:=by
      have h1:=congrArg List.length ha2;rw[ac_len,List.length_append,List.length_replicate,ac_len]at h1;omega
     have HO2:=Lib.hid hO2;have HB2:=Lib.hid hB2;clear hO2 hB2 ha2;go_wp2;go_roundw
     case rel=>exact⟨k+1,_,o2,by go_num,by omega,HA2.out,ho2,HO2.out,HB2.out,hg2⟩
     case measure=>simp[intOf];omega
   ·have HA2:Hid (ac o=dels (A.take (k+1))):=Lib.hid (by rw[HT.out,HAC.out,show(-n).toNat=0 from by omega];simp)
    clear HSAY;go_wp2;go_roundw
    case rel=>exact⟨k+1,_,o,by go_num,by omega,HA2.out,hol,HO.out,HBr.out,hgr⟩
    case measure=>simp[intOf];omega
  ·obtain rfl:k=A.length:=by omega
   have HA1:Hid (ac o=dels A):=Lib.hid (by rw[HAC.out,List.take_of_length_le (Nat.le_refl _)]);clear HAC;revert hol HO HBr hgr HA1;generalize o=o1;intro hol1 HO1 HB1 hgr1 HA1;clear hlt hk
   go_wp2_with fail
   go_loopw[10,37] (fun _ i wr=> ∃(k:Nat) (v':Value) (o:List Chn),i= .int .i64 k∧k≤A.length∧Hid (ac o=dels A++inss (A.take k))∧o.length≤4096∧Hid (OwnC wr w1.heap.size v' o)∧Hid (Blk wr w.heap.size 42 #[v'])∧w1.grownBy wr (some w.heap.size)) (fun _ i _=>A.length-(intOf i).toNat)
   case atStart=>exact⟨0,_,o1,rfl,by omega,Lib.hid (by rw[HA1.out];simp[inss]),hol1,HO1,HB1,hgr1⟩
   case round=>
    obtain⟨k,v',o,rfl,hk,HAC,hol,HO,HBr,hgr⟩:=hrel;by_cases hlt:k<A.length
    ·have hx:=List.getElem?_eq_getElem (l:=A) hlt
     generalize A[k]=x at hx;have hmem:=List.mem_of_getElem? hx;have HG:=Lib.hid (HA.out.good x hmem);have hnb:=HB.out x hmem;have hlk:=look_at HA.out hx;have HT:=Lib.hid (inss_take hx);obtain⟨g,off,rfl,hcc⟩:=HC.out (by intro h0;have:=HKL.out;rw[h0]at this;simp at this;omega);have hgP:g≠w.heap.size:=by have:=HGE.out g rfl;simp at this;omega
     have hck:=hcc k (.string (str (keyRow x.1))) (by rw[←HKS.out,List.getElem?_map,hx];rfl);have hgl:=World.block_lt_of_cell? w1 _ hck;have d1:wr.cell? ⟨g,off+k,none⟩=some (.string (str (keyRow x.1))):=(World.cell?_of_block (hgr.block g hgl (fun e=>hgP (by injection e)))).trans hck;have HKY:=Lib.hid (keyS HG.out);obtain⟨n2,-,hmap⟩:=HP2.out;have hmap2:=hmap.kept hgr (by intro e;injection e with e;omega);obtain⟨c,hrun,hat,-⟩:=hmap2.lookup_int (t:=105) lawS Tryz.underlying105 Tryz.underlying3 (zeroS _) HKY.out;obtain rfl:=lit_inj (hat.symm.trans (mkD_at HA.out.good HG.out));rw[hlk]at hrun;have HSAY:=Lib.hid (fun n h=>say_any w.heap.size v' o 1 n x.1 w1 wr hgr (by omega) HBr.out HO.out hol HG.out h);generalize str (keyRow x.1)=ky at d1 HKY hrun HSAY;obtain⟨r,n⟩:=x;simp only at hnb hrun HSAY HT HG;clear hx hmem hcc hck hat hmap hmap2 hlk;have k0:(0:Int)≤(k:Int):=by omega
     have k1:(k:Int)<(A.length:Int):=by omega
     by_cases hneg:0<n
     ·have HSY:=Lib.hid (HSAY.out n (by omega))
      clear HSAY
      go_wp2_with fail
      refine(HSY.out).mono ?_;rintro e w2 (⟨hq,rfl,hg2,hsz⟩|⟨hq,rfl,v2,o2,hO2,ha2,hB2,hg2⟩)
      ·have EE:=Lib.hid (HTN.out (by
        have h1:=inss_len A (k+1);rw[HT.out,←List.append_assoc,←HAC.out,List.length_append,List.length_replicate,ac_len]at h1;omega))
       have hbw:Below w.heap.size w w2:=hbw1.grown hg2 (by omega) (fun j hj=>by cases hj;exact Nat.le_refl _);go_wp2
       go_ret2
       first
        |exact⟨.slice none 0 0,[],by rw[EE.out];rfl,Chs.nil _,by rw[EE.out];rfl,hbw⟩
        |exact⟨.slice none 0 0,by rw[EE.out];rfl,[],Chs.nil _,by rw[EE.out];rfl,hbw⟩
      ·have HA2:Hid (ac o2=dels A++inss (A.take (k+1))):=Lib.hid (by rw[HT.out,ha2,HAC.out,List.append_assoc])
       have ho2:o2.length≤4096:=by
        have h1:=congrArg List.length ha2;rw[ac_len,List.length_append,List.length_replicate,ac_len]at h1;omega
       have HO2:=Lib.hid hO2;have HB2:=Lib.hid hB2;clear hO2 hB2 ha2;go_wp2;go_roundw
       case rel=>exact⟨k+1,_,o2,by go_num,by omega,HA2.out,ho2,HO2.out,HB2.out,hg2⟩
       case measure=>simp[intOf];omega
     ·have HA2:Hid (ac o=dels A++inss (A.take (k+1))):=Lib.hid (by rw[HT.out,HAC.out,show(n).toNat=0 from by omega];simp)
      clear HSAY;go_wp2;go_roundw
      case rel=>exact⟨k+1,_,o,by go_num,by omega,HA2.out,hol,HO.out,HBr.out,hgr⟩
      case measure=>simp[intOf];omega
    ·obtain rfl:k=A.length:=by omega
     have EE:=Lib.hid (HTY.out (by rw[tell];have h1:=congrArg List.length HAC.out;rw[ac_len,List.take_of_length_le (Nat.le_refl _)]at h1;omega));have HA3:Hid (ac o=tell A):=Lib.hid (by rw[HAC.out,List.take_of_length_le (Nat.le_refl _)];rfl);have y0:=HBr.out.cell 0 _ rfl;have hbw:Below w.heap.size w wr:=hbw1.grown hgr (by omega) (fun j hj=>by cases hj;exact Nat.le_refl _);have HCH:=Lib.hid HO.out.chs;clear HAC;go_wp2
     go_ret2
     first
      |exact⟨_,o,by rw[EE.out];rfl,HCH.out,by rw[EE.out];exact HA3.out,hbw⟩
      |exact⟨_,by rw[EE.out];rfl,o,HCH.out,by rw[EE.out];exact HA3.out,hbw⟩
end Go.Proofs.YtjhbeecmdgglgaaGreatDoor
namespace Go.Proofs.YtjhbeecmdgglgaaGreatDoor
open Go.RowKit Go.Maps
theorem bump_next {w w':World}{M n:Nat}{B:AV}{r:List Val}{ky:ByteArray}{v:Int}(hown:w.ownsMap Tryz.prog 9 (plainElem (H:=Unit) Tryz.prog 3) M n (mkD B))(hb:Below w.heap.size w w')(hky:keyOf Tryz.prog 9 (.string ky)=some (kOf r))(hB:Rises B)(hr:GoodR r)(hn:n<maxLen)(hv:(Lit.int .i64 v).wf=true):
 (Instr.lookup 105 (.map (some M)) (.string ky) false).run Tryz.prog w'= .ok (.int .i64 (lookA B r)) w'∧
 ∃w6,(Instr.mapUpdate 105 (.map (some M)) (.string ky) (.int .i64 v)).run Tryz.prog w'= .ok () w6∧w6.ownsMap Tryz.prog 9 (plainElem (H:=Unit) Tryz.prog 3) M (n+1) (mkD (putA B r v))∧w'.grownBy w6 (some M):=by
 have h2:=map_below hown hb;obtain⟨c,hrun,hat,-⟩:=h2.lookup_int (t:=105) lawS Tryz.underlying105 Tryz.underlying3 (zeroS _) hky;obtain rfl:=lit_inj (hat.symm.trans (mkD_at hB.good hr));refine⟨hrun,?_⟩;obtain⟨w6,h6,o6,g6⟩:=h2.update (t:=105) lawS Tryz.underlying105 hn hky (plainElem_int (H:=Unit) Tryz.underlying3 hv);rw[mkD_put hB hr]at o6;exact⟨w6,h6,o6,g6⟩
end Go.Proofs.YtjhbeecmdgglgaaGreatDoor
namespace Go.Proofs.YtjhbeecmdgglgaaGreatDoor
open Go.RowKit Go.Maps
instance valDec:DecidableEq Val:=fun a b=>
 if h:a.k=b.k∧a.n=b.n∧a.s=b.s then isTrue (by cases a;cases b;simp at h;obtain⟨rfl,rfl,rfl⟩:=h;rfl)else isFalse (by rintro rfl;simp at h)
theorem rowsF_gt {a b:List Val}(ha:GoodR a)(hb:GoodR b)(h0: ¬rowsF a b=0)(h1: ¬rowsF a b<0):rowsF b a<0:=by rw[rowsF_flip ha hb];omega
theorem Rises.head {x:List Val}{m:Int}{t:AV}(h:Rises ((x,m)::t)):GoodR x∧ ∀p∈t,rowsF x p.1<0:=⟨h.good (x,m) (by simp),(List.pairwise_cons.1 h.rise).1⟩
theorem look_cons {x:List Val}{m:Int}{t:AV}{r:List Val}:lookA ((x,m)::t) r=if rowsF x r=0 then m else lookA t r:=rfl
theorem has_cons {x:List Val}{m:Int}{t:AV}{r:List Val}:hasA ((x,m)::t) r=(decide (rowsF x r=0)||hasA t r):=rfl
theorem look_good {x:List Val}{m:Int}{t:AV}{r:List Val}(hx:GoodR x)(hr:GoodR r):lookA ((x,m)::t) r=if x=r then m else lookA t r:=by
 rw[look_cons];by_cases e:x=r
 ·rw[if_pos e,if_pos ((rowsF_zero hx hr).2 e)]
 ·rw[if_neg e,if_neg fun h=>e ((rowsF_zero hx hr).1 h)]
theorem has_good {x:List Val}{m:Int}{t:AV}{r:List Val}(hx:GoodR x)(hr:GoodR r):hasA ((x,m)::t) r=(decide (x=r)||hasA t r):=by
 rw[has_cons];by_cases e:x=r
 ·rw[decide_eq_true e,decide_eq_true ((rowsF_zero hx hr).2 e)]
 ·rw[decide_eq_false e,decide_eq_false fun h=>e ((rowsF_zero hx hr).1 h)]
theorem look_less {A:AV}{r:List Val}(hA:Rises A)(hr:GoodR r)(h: ∀p∈A,rowsF r p.1<0):lookA A r=0∧hasA A r=false:=by
 have:=look_more (A:=A) (r:=r) fun p hp=>by rw[rowsF_flip hr (hA.good p hp)];have:=h p hp;omega
 exact⟨this.1,this.2.1⟩
theorem look_head {x:List Val}{m:Int}{t:AV}(h:Rises ((x,m)::t)):lookA t x=0∧hasA t x=false:=look_less h.tail h.head.1 h.head.2
theorem has_no_look {A:AV}{r:List Val}(h:hasA A r=false):lookA A r=0:=by
 induction A with
 |nil=>rfl
 |cons x t ih=>
  obtain⟨x,m⟩:=x;rw[has_cons]at h;simp only[Bool.or_eq_false_iff,decide_eq_false_iff_not]at h;rw[look_cons,if_neg h.1,ih h.2]
theorem has_mem {A:AV}{p:List Val×Int}(hA:Rises A)(h:p∈A):hasA A p.1=true:=by
 induction A with
 |nil=>cases h
 |cons x t ih=>
  obtain⟨x,m⟩:=x;rw[has_cons];rcases List.mem_cons.1 h with rfl|h
  ·rw[decide_eq_true (rowsF_self hA.head.1)];rfl
  ·rw[ih hA.tail h,Bool.or_true]
theorem look_mem {A:AV}{p:List Val×Int}(hA:Rises A)(h:p∈A):lookA A p.1=p.2:=by
 obtain⟨i,hi,rfl⟩:=List.mem_iff_getElem.1 h;exact look_at hA (List.getElem?_eq_getElem hi)
theorem has_some {A:AV}{r:List Val}(hA:Rises A)(hr:GoodR r)(h:hasA A r=true):(r,lookA A r)∈A:=by
 induction A with
 |nil=>cases h
 |cons x t ih=>
  obtain⟨x,m⟩:=x;rw[has_cons]at h;rw[look_cons];by_cases e:rowsF x r=0
  ·rw[if_pos e,(rowsF_zero hA.head.1 hr).1 e];simp
  ·rw[if_neg e]
   rw[decide_eq_false e,Bool.false_or]at h;exact List.mem_cons_of_mem _ (ih hA.tail h)
theorem look_put {A:AV}{x r:List Val}{n:Int}(hA:Rises A)(hx:GoodR x)(hr:GoodR r):lookA (putA A x n) r=if x=r then n else lookA A r:=by
 induction A with
 |nil=>rw[putA,look_good hx hr]
 |cons y t ih=>
  obtain⟨y,m⟩:=y;have hy:=hA.head.1;unfold putA;by_cases e:rowsF y x=0
  ·rw[if_pos e]
   obtain rfl:=(rowsF_zero hy hx).1 e;rw[look_good hy hr,look_good hy hr];split<;>rfl
  ·rw[if_neg e]
   split
   ·rw[look_good hy hr,look_good hy hr,ih hA.tail]
    by_cases e1:y=r
    ·subst e1
     rw[if_pos rfl,if_pos rfl,if_neg fun h=>e ((rowsF_zero hy hx).2 h.symm)]
    ·rw[if_neg e1,if_neg e1]
   ·rw[look_good hx hr]
theorem has_put {A:AV}{x r:List Val}{n:Int}(hA:Rises A)(hx:GoodR x)(hr:GoodR r):hasA (putA A x n) r=(decide (x=r)||hasA A r):=by
 induction A with
 |nil=>rw[putA,has_good hx hr]
 |cons y t ih=>
  obtain⟨y,m⟩:=y;have hy:=hA.head.1;unfold putA;by_cases e:rowsF y x=0
  ·rw[if_pos e]
   obtain rfl:=(rowsF_zero hy hx).1 e;rw[has_good hy hr,has_good hy hr];cases decide (y=r)<;>simp
  ·rw[if_neg e]
   split
   ·rw[has_cons,has_cons,ih hA.tail]
    cases decide (x=r)<;>simp
   ·rw[has_good hx hr]
theorem rises_ext {P Q:AV}(hP:Rises P)(hQ:Rises Q)(h: ∀r,GoodR r→hasA P r=hasA Q r∧lookA P r=lookA Q r):P=Q:=by
 induction P generalizing Q with
 |nil=>
  cases Q with
  |nil=>rfl
  |cons q t=>have:=(h q.1 (hQ.good q (by simp))).1;rw[has_mem hQ (by simp)]at this;cases this
 |cons p t ih=>
  cases Q with
  |nil=>have:=(h p.1 (hP.good p (by simp))).1;rw[has_mem hP (by simp)]at this;cases this
  |cons q u=>
   obtain⟨p,m⟩:=p;obtain⟨q,n⟩:=q;have hp:=hP.head.1;have hq:=hQ.head.1;by_cases e:rowsF p q=0
   ·obtain rfl:=(rowsF_zero hp hq).1 e
    have h1:=(h p hp).2;rw[look_cons,look_cons,if_pos e,if_pos e]at h1;subst h1
    congr 1
    refine ih hP.tail hQ.tail fun r hr=> ?_;have h2:=h r hr;rw[look_good hp hr,look_good hp hr,has_good hp hr,has_good hp hr]at h2;by_cases e1:p=r
    ·subst e1
     rw[(look_head hP).1,(look_head hQ).1,(look_head hP).2,(look_head hQ).2];exact⟨rfl,rfl⟩
    ·simp only[e1,decide_false,Bool.false_or,if_false]at h2
     exact h2
   ·exfalso
    by_cases l:rowsF p q<0
    ·have h1:=(h p hp).1
     rw[has_mem hP (p:=(p,m)) (by simp),(look_less hQ hp fun x hx=> ?_).2]at h1
     ·cases h1
     ·rcases List.mem_cons.1 hx with rfl|hx
      ·exact l
      ·exact rowsF_trans hp hq (hQ.good x (by simp[hx])) l (hQ.head.2 x hx)
    ·have l':=rowsF_gt hp hq e l
     have h1:=(h q hq).1;rw[has_mem hQ (p:=(q,n)) (by simp),(look_less hP hq fun x hx=> ?_).2]at h1
     ·cases h1
     ·rcases List.mem_cons.1 hx with rfl|hx
      ·exact l'
      ·exact rowsF_trans hq hp (hP.good x (by simp[hx])) l' (hP.head.2 x hx)
theorem GoodA.has {A:AV}(h:GoodA A){r:List Val}(hr:GoodR r):hasA A r=decide (lookA A r≠0):=by
 cases hh:hasA A r with
 |false=>rw[has_no_look hh];rfl
 |true=>have:=h.nums _ (has_some h.rises hr hh);simp only at this;exact(decide_eq_true (by omega)).symm
def nz (A:AV):AV:=A.filter fun p=>p.2 != 0
theorem dels_nz (A:AV):dels (nz A)=dels A:=by
 induction A with
 |nil=>rfl
 |cons p t ih=>
  have e1:dels (p::t)=List.replicate (-p.2).toNat (2,p.1)++dels t:=rfl;rw[e1,nz,List.filter_cons];by_cases h:p.2=0
  ·rw[if_neg (by simp[h])]
   rw[h];exact ih
  ·rw[if_pos (by simp[h])]
   show List.replicate (-p.2).toNat (2,p.1)++dels (nz t)=_;rw[ih]
theorem inss_nz (A:AV):inss (nz A)=inss A:=by
 induction A with
 |nil=>rfl
 |cons p t ih=>
  have e1:inss (p::t)=List.replicate p.2.toNat (1,p.1)++inss t:=rfl;rw[e1,nz,List.filter_cons];by_cases h:p.2=0
  ·rw[if_neg (by simp[h])]
   rw[h];exact ih
  ·rw[if_pos (by simp[h])]
   show List.replicate p.2.toNat (1,p.1)++inss (nz t)=_;rw[ih]
theorem rises_nz {A:AV}(h:Rises A):Rises (nz A):=⟨fun p hp=>h.good p (List.mem_filter.1 hp).1,h.rise.sublist List.filter_sublist⟩
theorem look_nz {A:AV}{r:List Val}(h:Rises A)(hr:GoodR r):lookA (nz A) r=lookA A r∧hasA (nz A) r=decide (lookA A r≠0):=by
 cases hh:hasA (nz A) r with
 |true=>
  have h1:=List.mem_filter.1 (has_some (rises_nz h) hr hh);have h2:=look_mem h h1.1;have h3:=h1.2;simp only[bne_iff_ne,ne_eq]at h2 h3;exact⟨h2.symm,(decide_eq_true (by rw[h2];exact h3)).symm⟩
 |false=>
  rw[has_no_look hh];by_cases h0:lookA A r=0
  ·exact⟨h0.symm,by simp[h0]⟩
  ·exfalso
   have h1:hasA A r=true:=by
    cases h1:hasA A r with
    |true=>rfl
    |false=>exact absurd (has_no_look h1) h0
   have:=has_mem (rises_nz h) (List.mem_filter.2 ⟨has_some h hr h1,by simp[h0]⟩);simp only at this;rw[hh]at this;cases this
theorem tell_ext {P Q:AV}(hP:Rises P)(hQ:Rises Q)(h: ∀r,GoodR r→lookA P r=lookA Q r):tell P=tell Q:=by
 have:nz P=nz Q:=rises_ext (rises_nz hP) (rises_nz hQ) fun r hr=>by
  obtain⟨a,b⟩:=look_nz hP hr;obtain⟨c,d⟩:=look_nz hQ hr;rw[a,b,c,d,h r hr];exact⟨rfl,rfl⟩
 rw[tell,tell,←dels_nz P,←inss_nz P,this,dels_nz,inss_nz]
theorem told_ext {P Q:AV}(hP:Rises P)(hQ:Rises Q)(h: ∀r,GoodR r→lookA P r=lookA Q r):toldS P=toldS Q:=by
 rw[toldS,toldS,tell_ext hP hQ h]
def mergeD:AV→AV→AV
 |[],B=>B
 |A,[]=>A.map fun p=>(p.1,-p.2)
 |(a,m)::A,(b,n)::B=>
  if rowsF a b<0 then(a,-m)::mergeD A ((b,n)::B)else if rowsF a b=0 then(a,n-m)::mergeD A B else(b,n)::mergeD ((a,m)::A) B
termination_by A B=>A.length+B.length
theorem merge_nil (A:AV):mergeD A []=A.map fun p=>(p.1,-p.2):=by cases A<;>simp[mergeD]
theorem merge_nil' (B:AV):mergeD [] B=B:=by simp[mergeD]
theorem neg_look (A:AV)(r:List Val):lookA (A.map fun p=>(p.1,-p.2)) r= -lookA A r:=by
 induction A with
 |nil=>rfl
 |cons x t ih=>obtain⟨x,m⟩:=x;rw[List.map_cons,look_cons,look_cons,ih];split<;>rfl
theorem neg_rises {A:AV}(h:Rises A):Rises (A.map fun p=>(p.1,-p.2)):=⟨fun p hp=>by
 obtain⟨q,hq,rfl⟩:=List.mem_map.1 hp;exact h.good q hq,by
 rw[List.pairwise_map];exact h.rise⟩
theorem merge_mem (A B:AV): ∀p∈mergeD A B,(∃m,(p.1,m)∈A)∨ ∃m,(p.1,m)∈B:=by
 induction A,B using mergeD.induct with
 |case1 B=>intro p hp;rw[merge_nil']at hp;exact .inr ⟨p.2,hp⟩
 |case2 A h=>
  intro p hp;rw[merge_nil]at hp;obtain⟨q,hq,rfl⟩:=List.mem_map.1 hp;exact .inl ⟨q.2,hq⟩
 |case3 a m A b n B h ih=>
  intro p hp;rw[mergeD,if_pos h]at hp;rcases List.mem_cons.1 hp with rfl|hp
  ·exact .inl ⟨m,by simp⟩
  ·rcases ih p hp with⟨k,hk⟩|⟨k,hk⟩
   ·exact .inl ⟨k,by simp[hk]⟩
   ·exact .inr ⟨k,hk⟩
 |case4 a m A b n B h h' ih=>
  intro p hp;rw[mergeD,if_neg h,if_pos h']at hp;rcases List.mem_cons.1 hp with rfl|hp
  ·exact .inl ⟨m,by simp⟩
  ·rcases ih p hp with⟨k,hk⟩|⟨k,hk⟩
   ·exact .inl ⟨k,by simp[hk]⟩
   ·exact .inr ⟨k,by simp[hk]⟩
 |case5 a m A b n B h h' ih=>
  intro p hp;rw[mergeD,if_neg h,if_neg h']at hp;rcases List.mem_cons.1 hp with rfl|hp
  ·exact .inr ⟨n,by simp⟩
  ·rcases ih p hp with⟨k,hk⟩|⟨k,hk⟩
   ·exact .inl ⟨k,hk⟩
   ·exact .inr ⟨k,by simp[hk]⟩
theorem Rises.cons {x:List Val}{m:Int}{t:AV}(hx:GoodR x)(h:Rises t)(hl: ∀p∈t,rowsF x p.1<0):Rises ((x,m)::t):=
 ⟨fun p hp=>by
  rcases List.mem_cons.1 hp with rfl|hp
  ·exact hx
  ·exact h.good p hp,List.pairwise_cons.2 ⟨hl,h.rise⟩⟩
theorem merge_rises {A B:AV}(hA:Rises A)(hB:Rises B):Rises (mergeD A B):=by
 induction A,B using mergeD.induct with
 |case1 B=>rw[merge_nil'];exact hB
 |case2 A h=>rw[merge_nil];exact neg_rises hA
 |case3 a m A b n B h ih=>
  rw[mergeD,if_pos h];refine Rises.cons hA.head.1 (ih hA.tail hB) fun p hp=> ?_;rcases merge_mem _ _ p hp with⟨k,hk⟩|⟨k,hk⟩
  ·exact hA.head.2 (p.1,k) hk
  ·rcases List.mem_cons.1 hk with e|hk
   ·injection e with e1 _;rw[e1];exact h
   ·exact rowsF_trans hA.head.1 hB.head.1 (hB.good (p.1,k) (by simp[hk])) h (hB.head.2 (p.1,k) hk)
 |case4 a m A b n B h h' ih=>
  rw[mergeD,if_neg h,if_pos h'];obtain rfl:=(rowsF_zero hA.head.1 hB.head.1).1 h';refine Rises.cons hA.head.1 (ih hA.tail hB.tail) fun p hp=> ?_;rcases merge_mem _ _ p hp with⟨k,hk⟩|⟨k,hk⟩
  ·exact hA.head.2 (p.1,k) hk
  ·exact hB.head.2 (p.1,k) hk
 |case5 a m A b n B h h' ih=>
  rw[mergeD,if_neg h,if_neg h'];have l:=rowsF_gt hA.head.1 hB.head.1 h' h;refine Rises.cons hB.head.1 (ih hA hB.tail) fun p hp=> ?_;rcases merge_mem _ _ p hp with⟨k,hk⟩|⟨k,hk⟩
  ·rcases List.mem_cons.1 hk with e|hk
   ·injection e with e1 _;rw[e1];exact l
   ·exact rowsF_trans hB.head.1 hA.head.1 (hA.good (p.1,k) (by simp[hk])) l (hA.head.2 (p.1,k) hk)
  ·exact hB.head.2 (p.1,k) hk
theorem merge_look {A B:AV}(hA:Rises A)(hB:Rises B){r:List Val}(hr:GoodR r):lookA (mergeD A B) r=lookA B r-lookA A r:=by
 induction A,B using mergeD.induct with
 |case1 B=>rw[merge_nil'];simp[lookA]
 |case2 A h=>rw[merge_nil,neg_look];simp[lookA]
 |case3 a m A b n B h ih=>
  rw[mergeD,if_pos h,look_good hA.head.1 hr,look_good (x:=a) hA.head.1 hr,ih hA.tail hB];by_cases e:a=r
  ·subst e
   rw[if_pos rfl,if_pos rfl,(look_less hB hA.head.1 fun x hx=> ?_).1]
   ·omega
   ·rcases List.mem_cons.1 hx with rfl|hx
    ·exact h
    ·exact rowsF_trans hA.head.1 hB.head.1 (hB.good x (by simp[hx])) h (hB.head.2 x hx)
  ·rw[if_neg e,if_neg e]
 |case4 a m A b n B h h' ih=>
  rw[mergeD,if_neg h,if_pos h',look_cons,look_cons,look_cons,ih hA.tail hB.tail];obtain rfl:=(rowsF_zero hA.head.1 hB.head.1).1 h';split<;>rfl
 |case5 a m A b n B h h' ih=>
  have l:=rowsF_gt hA.head.1 hB.head.1 h' h;rw[mergeD,if_neg h,if_neg h',look_good hB.head.1 hr,look_good (x:=b) hB.head.1 hr,ih hA hB.tail];by_cases e:b=r
  ·subst e
   rw[if_pos rfl,if_pos rfl,(look_less hA hB.head.1 fun x hx=> ?_).1]
   ·omega
   ·rcases List.mem_cons.1 hx with rfl|hx
    ·exact l
    ·exact rowsF_trans hB.head.1 hA.head.1 (hA.good x (by simp[hx])) l (hA.head.2 x hx)
  ·rw[if_neg e,if_neg e]
end Go.Proofs.YtjhbeecmdgglgaaGreatDoor
namespace Go.Proofs.YtjhbeecmdgglgaaGreatDoor
open Go.RowKit Go.Maps
structure KP (A C0 C:AV) (left:Lit→Bool) (m:Int):Prop where
 rises:Rises C
 has: ∀r,GoodR r→hasA C r=(hasA C0 r||(hasA A r&& !left (kOf r)))
 look: ∀r,GoodR r→0≤lookA C r∧lookA C r≤m
theorem KP.start {A C0:AV}{m:Int}(hA:Rises A)(hC:Rises C0)(hm: ∀r,GoodR r→0≤lookA C0 r∧lookA C0 r≤m):KP A C0 C0 (Maps.has (mkD A)) m:=⟨hC,fun r hr=>by
 rw[mkD_has hA.good hr];cases hasA A r<;>simp,hm⟩
theorem KP.step {A C0 C:AV}{left:Lit→Bool}{m:Int}{p:List Val×Int}(h:KP A C0 C left m)(hA:Rises A)(hp:p∈A)(hh:hasA A p.1=true):KP A C0 (putA C p.1 (lookA C p.1+1)) (fun z=>left z&& !z.sameKey (kOf p.1)) (m+1):=by
 have hg:=hA.good p hp;refine⟨rises_put h.rises hg,fun r hr=> ?_,fun r hr=> ?_⟩
 ·rw[has_put h.rises hg hr,h.has r hr,kOf_same hr hg,show(decide (rowsF r p.1=0))=decide (r=p.1)from decide_eq_decide.2 (rowsF_zero hr hg)]
  by_cases e:p.1=r
  ·subst e
   rw[hh];simp
  ·have e': ¬r=p.1:=fun h=>e h.symm
   simp[e,e']
 ·rw[look_put h.rises hg hr]
  have h1:=h.look r hr;have h2:=h.look p.1 hg;split<;>omega
theorem KP.done {A C0 C:AV}{left:Lit→Bool}{m:Int}(h:KP A C0 C left m)(hl: ∀kl,left kl=false): ∀r,GoodR r→hasA C r=(hasA C0 r||hasA A r):=fun r hr=>by rw[h.has r hr,hl];simp
end Go.Proofs.YtjhbeecmdgglgaaGreatDoor
namespace Go.Proofs.YtjhbeecmdgglgaaGreatDoor
open Go.RowKit Go.Maps
theorem has_mem_row {A:AV}(hA: ∀p∈A,GoodR p.1){r:List Val}(hr:GoodR r):hasA A r=true↔r∈A.map (·.1):=by
 induction A with
 |nil=>simp[hasA]
 |cons x t ih=>
  obtain⟨y,m⟩:=x;have hy:GoodR y:=hA (y,m) (by simp);have ih:=ih fun p hp=>hA p (by simp[hp]);show(decide (rowsF y r=0)||hasA t r)=true↔_;rw[Bool.or_eq_true,decide_eq_true_eq,ih,rowsF_zero hy hr,List.map_cons,List.mem_cons];exact⟨fun h=>h.imp Eq.symm id,fun h=>h.imp Eq.symm id⟩
theorem has_rows {A:AV}{G:List Gp}(h:A.map (·.1)=G.map (·.r))(hg: ∀g∈G,GoodR g.r){r:List Val}(hr:GoodR r):hasA A r=true↔ ∃g∈G,g.r=r:=by
 have hA: ∀p∈A,GoodR p.1:=fun p hp=>by
  have:p.1∈A.map (·.1):=List.mem_map.2 ⟨p,hp,rfl⟩;rw[h]at this;obtain⟨g,hg',e⟩:=List.mem_map.1 this;rw[←e];exact hg g hg'
 rw[has_mem_row hA hr,h,List.mem_map]
theorem keys_union {A B C:AV}{G H:List Gp}(hA:A.map (·.1)=G.map (·.r))(hB:B.map (·.1)=H.map (·.r))(gG: ∀g∈G,GoodR g.r)(gH: ∀g∈H,GoodR g.r)(hC:Rises C)(h: ∀r,GoodR r→hasA C r=(hasA A r||hasA B r)):Union G H (C.map (·.1)):=by
 refine⟨?_,fun r=> ?_⟩
 ·rw[List.pairwise_map]
  exact hC.rise
 ·constructor
  ·intro hr
   obtain⟨p,hp,rfl⟩:=List.mem_map.1 hr;have hg:=hC.good p hp;have h1:=h p.1 hg;rw[(has_mem_row hC.good hg).2 hr]at h1;rcases(Bool.or_eq_true _ _).mp h1.symm with h2|h2
   ·exact .inl ((has_rows hA gG hg).1 h2)
   ·exact .inr ((has_rows hB gH hg).1 h2)
  ·rintro(⟨g,hg,rfl⟩|⟨g,hg,rfl⟩)
   ·refine(has_mem_row hC.good (gG g hg)).1 ?_
    rw[h _ (gG g hg),(has_rows hA gG (gG g hg)).2 ⟨g,hg,rfl⟩];rfl
   ·refine(has_mem_row hC.good (gH g hg)).1 ?_
    rw[h _ (gH g hg),(has_rows hB gH (gH g hg)).2 ⟨g,hg,rfl⟩,Bool.or_true]
end Go.Proofs.YtjhbeecmdgglgaaGreatDoor
namespace Go.Proofs.YtjhbeecmdgglgaaGreatDoor
open Go.RowKit Go.Maps
structure BagSt (r:List Val) (n:Int) (al:List (Int×Int)) (B0 B:List (List Tl)) (i:Nat):Prop where
 ok:(bagsG r n al B0).2=(bagsG r n (al.drop i) (B.drop i)).2
 list:(bagsG r n (al.drop i) (B.drop i)).2=true→(bagsG r n al B0).1=B.take i++(bagsG r n (al.drop i) (B.drop i)).1
 rest:B.drop i=B0.drop i
 len:B.length=B0.length
theorem BagSt.start (r:List Val)(n:Int)(al:List (Int×Int))(B0:List (List Tl)):BagSt r n al B0 B0 0:=⟨rfl,fun _=>rfl,rfl,rfl⟩
theorem BagSt.same {r:List Val}{n:Int}{al:List (Int×Int)}{B0 B:List (List Tl)}{i:Nat}{a:Int×Int}(h:BagSt r n al B0 B i)(ha:al[i]?=some a)(hB:i<B.length)(h1:a.1=1):BagSt r n al B0 B (i+1):=by
 obtain⟨hl,rfl⟩:=List.getElem?_eq_some_iff.1 ha;have e1:=List.drop_eq_getElem_cons hl;have e2:=List.drop_eq_getElem_cons hB;have hs:bagsG r n (al.drop i) (B.drop i)=(B[i]::(bagsG r n (al.drop (i+1)) (B.drop (i+1))).1,(bagsG r n (al.drop (i+1)) (B.drop (i+1))).2):=by rw[e1,e2];exact if_pos h1
 refine⟨by rw[h.ok,hs],fun h2=> ?_,?_,h.len⟩
 ·rw[h.list (by rw[hs];exact h2),hs,List.take_add_one,List.getElem?_eq_getElem hB,Option.toList_some,List.append_assoc]
  rfl
 ·have:=congrArg (List.drop 1) h.rest
  rw[List.drop_drop,List.drop_drop]at this;exact this
theorem BagSt.done {r:List Val}{n:Int}{al:List (Int×Int)}{B0 B:List (List Tl)}{i:Nat}{a:Int×Int}{q:List Tl}(h:BagSt r n al B0 B i)(ha:al[i]?=some a)(hB:B[i]?=some q)(h1:a.1≠1)(h2:(tallyG q (r.getD a.2.toNat nullG) n).2=true):BagSt r n al B0 (B.set i (tallyG q (r.getD a.2.toNat nullG) n).1) (i+1):=by
 obtain⟨hl,rfl⟩:=List.getElem?_eq_some_iff.1 ha;obtain⟨hb,rfl⟩:=List.getElem?_eq_some_iff.1 hB;have e1:=List.drop_eq_getElem_cons hl;have e2:=List.drop_eq_getElem_cons hb;have hs:bagsG r n (al.drop i) (B.drop i)=((tallyG B[i] (r.getD al[i].2.toNat nullG) n).1::(bagsG r n (al.drop (i+1)) (B.drop (i+1))).1,(bagsG r n (al.drop (i+1)) (B.drop (i+1))).2):=by rw[e1,e2];exact(if_neg h1).trans (if_pos h2)
 have e3:(B.set i (tallyG B[i] (r.getD al[i].2.toNat nullG) n).1).drop (i+1)=B.drop (i+1):=List.drop_set_of_lt (by omega);refine⟨by rw[h.ok,hs,e3],fun h3=> ?_,?_,by rw[List.length_set];exact h.len⟩
 ·rw[e3]at h3⊢
  rw[h.list (by rw[hs];exact h3),hs,List.take_add_one,List.getElem?_set_self hb,List.take_set_of_le (Nat.le_refl _),Option.toList_some,List.append_assoc];rfl
 ·rw[e3]
  have:=congrArg (List.drop 1) h.rest;rw[List.drop_drop,List.drop_drop]at this;exact this
theorem BagSt.fail {r:List Val}{n:Int}{al:List (Int×Int)}{B0 B:List (List Tl)}{i:Nat}{a:Int×Int}{q:List Tl}(h:BagSt r n al B0 B i)(ha:al[i]?=some a)(hB:B[i]?=some q)(h1:a.1≠1)(h2:(tallyG q (r.getD a.2.toNat nullG) n).2=false):(bagsG r n al B0).2=false:=by
 obtain⟨hl,rfl⟩:=List.getElem?_eq_some_iff.1 ha;obtain⟨hb,rfl⟩:=List.getElem?_eq_some_iff.1 hB;rw[h.ok,List.drop_eq_getElem_cons hl,List.drop_eq_getElem_cons hb];show(if al[i].1=1 then _ else if _=true then _ else(([]:List (List Tl)),false)).2=false;rw[if_neg h1,if_neg (by rw[h2];simp)]
end Go.Proofs.YtjhbeecmdgglgaaGreatDoor
namespace Go.Proofs.YtjhbeecmdgglgaaGreatDoor
open Go.RowKit Go.Maps
theorem zeroP (w:World):(zeroValue 123).run Tryz.prog w= .ok (.pointer none) w:=by kernel_rfl
theorem look_has {w:World}{base M N b:Nat}{X X1 X2:List (Nat×Gm)}{x:Gm}{key:List Val}(h:GMap w base M N X)(hri:Rises (ax X))(hX:X=X1++(b,x)::X2)(hx:x.r=key)(hk:GoodR key)(h1: ∀p∈ax X1,rowsF p.1 key<0):(Instr.lookup 117 (.map (some M)) (.string (str (keyRow key))) false).run Tryz.prog w= .ok (.pointer (some ⟨b,0,none⟩)) w:=by
 obtain⟨n,-,hm⟩:=h.map;obtain⟨v,ps,hrun,hv⟩:=hm.lookup (t:=117) lawS Tryz.underlying117 (zeroP w) (zd:= .lit (.int .i64 0)) (zp:=[]) rfl (keyS hk);rw[mkD_at hri.good hk,hX,ax_mid,hx,look_mid h1 (rowsF_self hk)]at hv;rcases ptrE_inv hv with⟨e,-⟩|⟨b',e,rfl⟩
 ·omega
 ·obtain rfl:b=b':=by omega
  exact hrun
theorem look_not {w:World}{base M N:Nat}{X:List (Nat×Gm)}{key:List Val}(h:GMap w base M N X)(hri:Rises (ax X))(hk:GoodR key)(h1: ∀p∈ax X,rowsF p.1 key≠0):(Instr.lookup 117 (.map (some M)) (.string (str (keyRow key))) false).run Tryz.prog w= .ok (.pointer none) w:=by
 obtain⟨n,-,hm⟩:=h.map;obtain⟨v,ps,hrun,hv⟩:=hm.lookup (t:=117) lawS Tryz.underlying117 (zeroP w) (zd:= .lit (.int .i64 0)) (zp:=[]) rfl (keyS hk);rw[mkD_at hri.good hk,look_none h1]at hv;rcases ptrE_inv hv with⟨-,rfl⟩|⟨b',e,-⟩
 ·exact hrun
 ·omega
theorem own_made {w:World}{base m n:Nat}{zs:Array Value}(hb:Blk w m 155 zs)(hm:base≤m)(hz:zs.toList=List.replicate n (.slice none 0 0))(hs:zs.size=n)(hn:n≤8):w.ownsRow base 155 1 (.slice (some ⟨m,0,none⟩) n n) n (List.replicate n (.slice none 0 0)):=
 ⟨by simp,.inr ⟨m,n,zs,rfl,hm,hb,Nat.le_refl _,by unfold maxLen;omega,by omega,by rw[Nat.mul_one,←hz,List.take_of_length_le (by rw[Array.length_toList];omega)]⟩⟩
theorem GpO.made {w:World}{base m n:Nat}{v:Value}{key:List Val}{zs:Array Value}(hr:w.ownsRow base 68 3 v key.length (rowCells key))(hb:Blk w m 155 zs)(hm:base≤m)(hz:zs.toList=List.replicate n (.slice none 0 0))(hs:zs.size=n)(hn:n≤8)(hv:v.ownBlock≠some m):
 GpO (w.alloc (.cells #[v,.int .i64 0,.slice (some ⟨m,0,none⟩) n n] 126)) base w.heap.size ⟨v,key,0,.slice (some ⟨m,0,none⟩) n n,List.replicate n (.slice none 0 0,[])⟩:=by
 have h1:=own_ge hr;have h2:=own_lt hr;have h3:=hb.lt;have hsz:(w.alloc (.cells #[v,.int .i64 0,.slice (some ⟨m,0,none⟩) n n] 126)).heap.size=w.heap.size+1:=World.size_alloc ..;have hq: ∀q∈List.replicate n ((.slice none 0 0,[]):Value×List Tl),q.1.ownBlock=none:=fun q hq=>by rw[List.eq_of_mem_replicate hq];rfl
 refine⟨Blk.new _ _ _,(Sl.of_own hr).below (below_alloc _ _),?_,fun q hq'=> ?_,fun k hk=> ?_,fun e=> ?_,fun e=> ?_,fun q hq' e=> ?_,fun k hk e=> ?_,fun k _ q hq' e=> ?_,fun k _ q hq' e=> ?_,?_⟩
 ·show(w.alloc _).ownsRow base 155 1 (.slice (some ⟨m,0,none⟩) n n) (List.replicate n ((.slice none 0 0,[]):Value×List Tl)).length ((List.replicate n ((.slice none 0 0,[]):Value×List Tl)).map (·.1))
  rw[List.length_replicate,List.map_replicate];exact(own_made hb hm hz hs hn).alloc _
 ·rw[List.eq_of_mem_replicate hq']
  exact⟨rfl,.inl ⟨rfl,rfl⟩⟩
 ·rw[hsz]
  rcases hk with rfl|hk|hk|⟨q,hq',hk⟩
  ·omega
  ·have:=h1 k hk;have:=h2 k hk;omega
  ·have:m=k:=by injection hk
   omega
  ·rw[hq q hq']at hk;cases hk
 ·have:=h2 _ e;omega
 ·have:m=w.heap.size:=by injection e
  omega
 ·rw[hq q hq']at e;cases e
 ·have:m=k:=by injection e
  exact hv (by rw[hk,this])
 ·rw[hq q hq']at e;cases e
 ·rw[hq q hq']at e;cases e
 ·exact List.pairwise_iff_getElem.2 fun i j hi hj _ k hk=>by rw[hq _ (List.getElem_mem hi)]at hk;cases hk
end Go.Proofs.YtjhbeecmdgglgaaGreatDoor
namespace Go.Proofs.YtjhbeecmdgglgaaGreatDoor
open Go.RowKit Go.Maps
theorem Tn.trans {w w1 w2:World}{base M N N':Nat}{X X1 X2:List (Nat×Gm)}(h:Tn w base M X w1 N X1)(h2:Tn w1 base M X1 w2 N' X2):Tn w base M X w2 N' X2:=
 ⟨h2.map,h.turned.transN h2.turned fun i hi hm=>h.old i hi hm,fun k hk hm=>h.old k hk (h2.old k (Nat.lt_of_lt_of_le hk h.turned.size) hm)⟩
theorem fit_len {t:List Int}{r:List Val}(h:r.length≠t.length):fitE t r=2:=if_pos h
end Go.Proofs.YtjhbeecmdgglgaaGreatDoor
namespace Go.Proofs.YtjhbeecmdgglgaaGreatDoor
open Go.RowKit Go.Maps
structure KS (A B:AV) (i:Nat) (C:AV):Prop where
 rises:Rises C
 has: ∀r,GoodR r→hasA C r=((decide (1≤i)&&hasA A r)||(decide (2≤i)&&hasA B r))
 look: ∀r,GoodR r→0≤lookA C r∧lookA C r≤((5000*i:Nat):Int)
theorem KS.start (A B:AV):KS A B 0 []:=⟨Rises.nil,fun r _=>by simp[hasA],fun r _=>by simp[lookA]⟩
theorem KS.one {A B C C2:AV}{left:Lit→Bool}{m:Int}(h:KS A B 0 C)(k:KP A C C2 left m)(hl: ∀kl,left kl=false)(hm:m≤5000):KS A B 1 C2:=
 ⟨k.rises,fun r hr=>by rw[k.done hl r hr,h.has r hr];simp,fun r hr=>by have:=k.look r hr;omega⟩
theorem KS.two {A B C C2:AV}{left:Lit→Bool}{m:Int}(h:KS A B 1 C)(k:KP B C C2 left m)(hl: ∀kl,left kl=false)(hm:m≤10000):KS A B 2 C2:=
 ⟨k.rises,fun r hr=>by rw[k.done hl r hr,h.has r hr];simp,fun r hr=>by have:=k.look r hr;omega⟩
theorem KS.union {X Y:List (Nat×Gm)}{C:AV}(h:KS (ax X) (ax Y) 2 C)(gX: ∀g∈gx X,GoodR g.r)(gY: ∀g∈gx Y,GoodR g.r):Union (gx X) (gx Y) (C.map (·.1)):=
 keys_union (ax_rows X) (ax_rows Y) gX gY h.rises fun r hr=>by rw[h.has r hr];simp
def ptrV (o:Option Nat):Value:= .pointer (o.map fun b=>⟨b,0,none⟩)
theorem ptrV_of {v:Value}{y:DataW Unit×List MemPlace}(h:ptrE v=some y): ∃c,v=ptrV c:=by
 unfold ptrE at h;split at h
 ·exact⟨none,rfl⟩
 ·exact⟨some _,rfl⟩
 ·cases h
theorem bump_int {w w':World}{M n:Nat}{B:AV}{r:List Val}{ky:ByteArray}{v:Int}(hown:w.ownsMap Tryz.prog 9 (plainElem (H:=Unit) Tryz.prog 3) M n (mkD B))(hb:Below w.heap.size w w')(hky:keyOf Tryz.prog 9 (.string ky)=some (kOf r))(hB:Rises B)(hr:GoodR r)(hn:n<maxLen)(hv:(Lit.int .i64 v).wf=true):
 (Instr.lookup 104 (.map (some M)) (.string ky) false).run Tryz.prog w'= .ok (.int .i64 (lookA B r)) w'∧
 ∃w6,(Instr.mapUpdate 104 (.map (some M)) (.string ky) (.int .i64 v)).run Tryz.prog w'= .ok () w6∧w6.ownsMap Tryz.prog 9 (plainElem (H:=Unit) Tryz.prog 3) M (n+1) (mkD (putA B r v))∧w'.grownBy w6 (some M):=by
 have h2:=map_below hown hb;obtain⟨c,hrun,hat,-⟩:=h2.lookup_int (t:=104) lawS Tryz.underlying104 Tryz.underlying3 (zeroS _) hky;obtain rfl:=lit_inj (hat.symm.trans (mkD_at hB.good hr));refine⟨hrun,?_⟩;obtain⟨w6,h6,o6,g6⟩:=h2.update (t:=104) lawS Tryz.underlying104 hn hky (plainElem_int (H:=Unit) Tryz.underlying3 hv);rw[mkD_put hB hr]at o6;exact⟨w6,h6,o6,g6⟩
def findX (X:List (Nat×Gm)) (r:List Val):Option (Nat×Gm):=X.find? fun p=>rowsF p.2.r r==0
theorem findX_mem {X:List (Nat×Gm)}{r:List Val}{q:Nat×Gm}(h:findX X r=some q):q∈X:=List.mem_of_find?_eq_some h
theorem findX_gx (X:List (Nat×Gm))(r:List Val):findG (gx X) r=(findX X r).map fun q=>q.2.gp:=by
 unfold findG findX gx;rw[List.find?_map];rfl
theorem rises_split {A B:AV}{p:List Val×Int}(h:Rises (A++p::B)): ∀q∈A,rowsF q.1 p.1<0:=fun q hq=>
 (List.pairwise_append.1 h.rise).2.2 q hq p (List.mem_cons_self ..)
theorem look_find {w:World}{base M N:Nat}{X:List (Nat×Gm)}{key:List Val}(h:GMap w base M N X)(hri:Rises (ax X))(hk:GoodR key):
 (Instr.lookup 117 (.map (some M)) (.string (str (keyRow key))) false).run Tryz.prog w= .ok (ptrV ((findX X key).map (·.1))) w:=by
 have hgood: ∀q∈X,GoodR q.2.r:=fun q hq=>hri.good (q.2.r,(q.1:Int)+1) (List.mem_map.2 ⟨q,hq,rfl⟩);cases hf:findX X key with
 |none=>
  refine look_not h hri hk fun p hp e=> ?_;obtain⟨q,hq,rfl⟩:=List.mem_map.1 hp;have:=List.find?_eq_none.1 hf q hq;exact this (by simpa using e)
 |some q=>
  obtain⟨b,x⟩:=q;obtain⟨e,A,B,hX,-⟩:=List.find?_eq_some_iff_append.1 hf;have e:rowsF x.r key=0:=by simpa using e
  have e:x.r=key:=(rowsF_zero (hgood _ (findX_mem hf)) hk).1 e;rw[hX,ax_mid]at hri;have hs:=rises_split hri;have hs: ∀q∈ax A,rowsF q.1 key<0:=fun q hq=>by rw[←e];exact hs q hq
  rw[←ax_mid,←hX]at hri;exact look_has h hri hX e hk hs
theorem grpI:EInfo Tryz.prog 126 3 56:=by
 have h:(Tryz.prog.info? 126).map (fun i=>(i.zero,i.size,i.bytes))=some (some (.agg #[.slice none 0 0,.int .i64 0,.slice none 0 0]),3,56):=by kernel_rfl
 obtain⟨i,hi,h1,h2,h3⟩:=info_parts h;exact⟨i,_,hi,h1,h2,h3,rfl,by omega⟩
theorem one_gm (W:World)(x:Gm):Sl (W.alloc (.cells #[x.v,.int .i64 x.n,x.vb] 126)) (.slice (some ⟨W.heap.size,0,none⟩) 1 1) 1 x.cells:=Sl.block (Blk.new W 126 #[x.v,.int .i64 x.n,x.vb]) 1 1 (Nat.le_refl _) (by decide)
structure TwoO (w:World) (base:Nat) (gv:Value) (GL:List Gm) (ov:Value) (m:List Chn):Prop where
 grp:w.ownsRow base 126 3 gv GL.length (gmCells GL)
 out:OwnC w base ov m
 apart: ∀k,gv.ownBlock=some k→ov.ownBlock≠some k∧ ∀c∈m,c.v.ownBlock≠some k
theorem TwoO.nil (w:World)(base:Nat):TwoO w base (.slice none 0 0) [] (.slice none 0 0) []:=⟨⟨rfl,.inl ⟨rfl,rfl⟩⟩,OwnC.nil w base,fun k hk=>by cases hk⟩
theorem TwoO.below {w w':World}{base:Nat}{gv ov:Value}{GL:List Gm}{m:List Chn}(h:TwoO w base gv GL ov m)(hb:Below w.heap.size w w'):TwoO w' base gv GL ov m:=⟨own_below h.grp hb,h.out.below hb,h.apart⟩
theorem OwnC.turned {F:Nat→Prop}{w w':World}{base:Nat}{v:Value}{l:List Chn}(h:OwnC w base v l)(ht:Turned F w w')(hv: ∀k,v.ownBlock=some k→ ¬F k)(hr: ∀c∈l,∀k,c.v.ownBlock=some k→ ¬F k):OwnC w' base v l:=
 ⟨own_turned h.own ht hv,fun c hc=>sl_turned (h.rows c hc) ht (hr c hc),fun c hc k hk=>⟨(h.far c hc k hk).1,Nat.lt_of_lt_of_le (h.far c hc k hk).2.1 ht.size,(h.far c hc k hk).2.2⟩⟩
theorem TwoO.group {w w':World}{base:Nat}{gv gv' ov:Value}{GL:List Gm}{m:List Chn}{x:Gm}(h:TwoO w base gv GL ov m)(hown:w'.ownsRow base 126 3 gv' (GL.length+1) (gmCells GL++x.cells))(hg:w.grownBy w' gv.ownBlock)(hat:gv'.ownBlock=gv.ownBlock∨gv'.ownBlock=some w.heap.size):TwoO w' base gv' (GL++[x]) ov m:=by
 refine⟨?_,h.out.turned (turned_grown hg) (fun k hk e=>(h.apart k e).1 hk) (fun c hc k hk e=>(h.apart k e).2 c hc hk),fun k hk=> ?_⟩
 ·rw[gmCells_app,List.length_append]
  simpa[gmCells]using hown
 ·rcases hat with e|e
  ·exact h.apart k (e▸hk)
  ·rw[e]at hk
   injection hk with hk;subst hk;exact⟨fun e=>by have:=own_lt h.out.own _ e;omega,fun c hc e=>by have:=(h.out.far c hc _ e).2.1;omega⟩
theorem OwnC.app {w w':World}{base:Nat}{v v':Value}{l cs:List Chn}(h:OwnC w base v l)(hown:w'.ownsRow base 48 2 v' (l.length+cs.length) (chnCells l++chnCells cs))(hg:w.grownBy w' v.ownBlock)(hat:v'.ownBlock=v.ownBlock∨v'.ownBlock=some w.heap.size)
 (hc: ∀c∈cs,Sl w c.v c.r.length (rowCells c.r)∧ ∀k,c.v.ownBlock=some k→base≤k∧k<w.heap.size∧v.ownBlock≠some k):OwnC w' base v' (l++cs):=by
 have hfar: ∀d∈l++cs,Sl w d.v d.r.length (rowCells d.r)∧ ∀k,d.v.ownBlock=some k→base≤k∧k<w.heap.size∧v.ownBlock≠some k:=by
  intro d hd;rcases List.mem_append.1 hd with hd|hd
  ·exact⟨h.rows d hd,h.far d hd⟩
  ·exact hc d hd
 refine⟨?_,fun d hd=>sl_grown (hfar d hd).1 hg (fun k hk=>((hfar d hd).2 k hk).2.2),fun d hd k hk=> ?_⟩
 ·rw[chnCells_app,List.length_append]
  exact hown
 ·obtain⟨h0,h1,h2⟩:=(hfar d hd).2 k hk
  refine⟨h0,Nat.lt_of_lt_of_le h1 hg.size,fun e=> ?_⟩;rcases hat with e'|e'
  ·exact h2 (e'▸e)
  ·rw[e']at e
   injection e with e;omega
theorem TwoO.tell {w w':World}{base:Nat}{gv ov ov':Value}{GL:List Gm}{m cs:List Chn}(h:TwoO w base gv GL ov m)(hown:w'.ownsRow base 48 2 ov' (m.length+cs.length) (chnCells m++chnCells cs))(hg:w.grownBy w' ov.ownBlock)(hat:ov'.ownBlock=ov.ownBlock∨ov'.ownBlock=some w.heap.size)
 (hc: ∀c∈cs,Sl w c.v c.r.length (rowCells c.r)∧ ∀k,c.v.ownBlock=some k→base≤k∧k<w.heap.size∧ov.ownBlock≠some k∧gv.ownBlock≠some k):TwoO w' base gv GL ov' (m++cs):=by
 refine⟨own_turned h.grp (turned_grown hg) fun k hk e=>(h.apart k hk).1 e,h.out.app hown hg hat fun c hcs=>⟨(hc c hcs).1,fun k hk=>let z:=(hc c hcs).2 k hk;⟨z.1,z.2.1,z.2.2.1⟩⟩,fun k hk=>⟨fun e=> ?_,fun c hcm e=> ?_⟩⟩
 ·rcases hat with e'|e'
  ·exact(h.apart k hk).1 (e'▸e)
  ·rw[e']at e
   injection e with e;have:=own_lt h.grp k hk;omega
 ·rcases List.mem_append.1 hcm with hcm|hcm
  ·exact(h.apart k hk).2 c hcm e
  ·exact((hc c hcm).2 k e).2.2.2 hk
theorem told_keys {p:Pl}{G H:List Gp}{U:List (List Val)}(hG:RowsG G)(hH:RowsG H)(h:Union G H U):changedG p G H=U.flatMap fun r=>tellR p (findG G r) (findG H r):=changed_union p hG hH h
theorem find_step {C:AV}{i:Nat}{pc:List Val×Int}{f:List Val→Option Gp}{o:Option Gp}(hx:C[i]?=some pc)(hf:f pc.1=o):((C.take (i+1)).map (·.1)).filterMap f=((C.take i).map (·.1)).filterMap f++o.toList:=by
 rw[List.take_add_one,hx,List.map_append,List.filterMap_append]
 congr 1
 show[pc.1].filterMap f=_;rw[List.filterMap_cons,hf];cases o<;>rfl
theorem tell_step {C:AV}{i:Nat}{pc:List Val×Int}{f:List Val→List (Int×List Val)}{o:List (Int×List Val)}(hx:C[i]?=some pc)(hf:f pc.1=o):((C.take (i+1)).map (·.1)).flatMap f=((C.take i).map (·.1)).flatMap f++o:=by
 rw[List.take_add_one,hx,List.map_append,List.flatMap_append]
 congr 1
 show[pc.1].flatMap f=_;rw[List.flatMap_cons,hf];simp
theorem sl_pair {w:World}{g:Nat}{a b:Chn}(hb:w.heap[g]?=some (.cells #[.int .i64 a.k,a.v,.int .i64 b.k,b.v] 48 (0,0))):Sl w (.slice (some ⟨g,0,none⟩) 2 2) 2 (chnCells [a,b]):=Sl.block hb 2 2 (Nat.le_refl _) (by decide)
theorem chns_one {w:World}{l:List Chn}(h: ∀c∈l,∃n cs,Sl w c.v n cs): ∀u∈chnCells l,u.oneCell'=true:=by
 intro u hu;obtain⟨c,hc,hu⟩:=List.mem_flatMap.1 hu;obtain⟨n,cs,hs⟩:=h c hc;exact chn_one hs u hu
end Go.Proofs.YtjhbeecmdgglgaaGreatDoor
