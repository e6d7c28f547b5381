/-Plain law: GroupAlways, all its facts in one. The reference's told. The reference's DiffOf. Diff. -/
import Derived.Test.YtjhbeecmdgglgaaGreatDoorGrpV27
import Derived.Test.YtjhbeecmdgglgaaGreatDoorGrpV34
import Derived.Test.YtjhbeecmdgglgaaGreatDoorGrpV6
import Derived.Test.YtjhbeecmdgglgaaGreatDoorGrpV9
import Derived.Test.YtjhbeecmdgglgaaGreatDoorGrpV7
set_option linter.unusedSimpArgs false
set_option linter.unusedVariables false
namespace Go.Proofs.YtjhbeecmdgglgaaGreatDoor
theorem fit_good {p:Pl}{G:List Gm}(hp:checkP p=0)(hg:p.grouped=true)(h:GoodGs p (gps G)): ∀x∈G,x.fit:=fun x hx=>by
 have h1:=h.each x.gp (gps_mem hx);obtain⟨y1,y2,y3⟩:=gm_fit_len h1;have h3:=(group_few hp hg).2.2;exact⟨fineG_of h1,fun q hq=>by have:=y3 q hq;omega,by omega,by omega⟩
structure GASnd (p:Pl) (gv:AV) (m1:List (Int×List Val)) (G:List Gp) (s:List Gp×List (Int×List Val)×Int):Prop where
 z:s.2.2=0
 good:GoodGs p s.1
 chk:checkG p s.1=0
 view:viewS p s.1=VG p s.1
 want:VG p s.1=gv
 one: ∀c:List Chn,ac c=m1→FineC c∧foldS [] c=(VG p G,0,0)
 two: ∀(u:List Cnt) (c:List Chn),av u=VG p G→ac c=s.2.1→FineV u∧FineC c∧foldS u c=(VG p s.1,0,0)
structure GAFst (p:Pl) (gv:AV) (m:List Chn) (s:List Gp×List (Int×List Val)×Int):Prop where
 z:s.2.2=0
 good:GoodGs p s.1
 chk:checkG p s.1=0
 view:viewS p s.1=VG p s.1
 then_:((stepG p s.1 m).2.2=2∨(stepG p s.1 m).2.2=5)∨GASnd p gv s.2.1 s.1 (stepG p s.1 m)
theorem goodA_nil:GoodA ([]:AV):=⟨by simp,Rises.nil,nofun⟩
theorem ga_facts {p:Pl}{l1:List Cnt}{m:List Chn}{k:Nat}(hf1:FineV l1)(hfm:FineC m)(hy:(foldS [] m).2.2=0)(ha:av l1=(foldS [] m).1)(hge:groupE p l1=0)(hk:k≤m.length)(hft:formC (m.take k)=0):
 checkP p=0∧p.grouped=true∧(((stepG p [] (m.take k)).2.2=2∨(stepG p [] (m.take k)).2.2=5)∨GAFst p (groupV p (av l1)) (m.drop k) (stepG p [] (m.take k))):=by
 obtain⟨-,hi,he⟩:=foldS_ok (l:=[]) ⟨nofun,nofun⟩ hfm hy;have hz:=groupE_zero hf1 hge;have hp:=hz.plan;have hg:p.grouped=true:=hz.grp;refine⟨hp,hg,?_⟩;rw[he]at hy ha;have hnil:av ([]:List Cnt)=[]:=rfl;rw[hnil]at hy ha;obtain⟨i1,i2⟩:=form_cut hi hk hft;obtain⟨k1,k2,k3⟩:=fold_cut hi.rows goodA_nil hy k;rw[←ac_take]at k1 k2 k3;rw[←ac_drop]at k3;rcases ga_step hp hg goodA_nil (GrpOf.start p) i1 k1 with h1|⟨H,e1,hG1,hA1⟩
 ·exact .inl h1
 right;have hr1: ∀c∈ac (m.take k),GoodR c.2:=i1.rows;have hr2: ∀c∈ac (m.drop k),GoodR c.2:=i2.rows;have hlen:m.length≤4096:=hi.few;have hl1:(ac (m.take k)).length≤m.length:=by unfold ac;rw[List.length_map,List.length_take];omega
 have hl2:(ac (m.take k)).length+(ac (m.drop k)).length≤m.length:=by unfold ac;rw[List.length_map,List.length_map,List.length_take,List.length_drop];omega
 have hA2:GoodA (foldR [] 0 (ac m)).1:=fold_good _ _ _ goodA_nil hi.rows hy;have hz2:(foldR (foldR [] 0 (ac (m.take k))).1 0 (ac (m.drop k))).2.2=0:=by rw[k3]
 have ez2:(foldR (foldR [] 0 (ac (m.take k))).1 0 (ac (m.drop k))).1=av l1:=by rw[k3];exact ha.symm
 have t1:=told_few (p:=p) (L:=[]) (M:=ac (m.take k)) (A:=[]) hp hg nofun hr1 rfl rfl goodA_nil k1 rfl hA1 (GrpOf.start p) hG1;obtain⟨v1,v2⟩:=vg_good hp hg hG1.good;have hc1:=check_of hp hg hG1.good;rw[e1];refine⟨rfl,hG1.good,hc1,by unfold viewS;rw[if_pos hc1];exact v2,?_⟩;rcases ga_step (m:=m.drop k) hp hg hA1 hG1 i2 hz2 with h2|⟨H2,e2,hG2,hA3⟩
 ·exact .inl h2
 right;rw[ez2]at hG2 hA3;obtain⟨u1,u2⟩:=vg_good hp hg hG2.good;have hc2:=check_of hp hg hG2.good;have t2:=told_few (p:=p) (L:=ac (m.take k)) (M:=ac (m.drop k)) hp hg hr1 hr2 k1 rfl hA1 hz2 ez2 hA3 hG1 hG2;rw[e2];refine⟨rfl,hG2.good,hc2,by unfold viewS;rw[if_pos hc2];exact u2,?_,fun c hc=> ?_,fun u c hu hc=> ?_⟩
 ·exact ga_view hp hg hA3 (fun c hc=>by
   obtain⟨x,hx,rfl⟩:=List.mem_map.1 hc;exact(cells_good hp hg (hz.typed x hx)).1) hG2
 ·exact ga_fold (u:=[]) hp hg (GrpOf.start p).good hG1.good rfl hc (show(changedG p [] H).length≤4096 by have:=t1.2.1;simp only[List.length_nil]at this;omega) (show un [] H≤4096 by have:=t1.2.2;simp only[List.length_nil]at this;omega)
 ·obtain⟨f1,f2⟩:=ga_fold hp hg hG1.good hG2.good hu hc (by have:=t2.2.1;omega) (by have:=t2.2.2;omega)
  exact⟨fineV_of (by rw[hu];exact v1),f1,f2⟩
theorem foldR_bad: ∀(L:List (Int×List Val)) (A:AV) (i:Int),(foldR A i L).2.2≠0→(foldR A i L).1=[]
 |[],_,_,h=>absurd rfl h
 |c::t,A,i,h=>by
  rw[foldR]at h⊢;by_cases hz:(addR A c.2 (stepI c.1)).2=0
  ·rw[if_pos hz]at h⊢;exact foldR_bad t _ _ h
  ·rw[if_neg hz]
theorem foldS_fine {m:List Chn}(hfm:FineC m){l:List Cnt}(h:av l=(foldS [] m).1):FineV l:=by
 by_cases hz:(foldS [] m).2.2=0
 ·obtain⟨-,hi,he⟩:=foldS_ok (l:=[]) ⟨nofun,nofun⟩ hfm hz
  rw[he]at hz h;exact fineV_of (by rw[h];exact fold_good _ _ _ goodA_nil hi.rows hz)
 ·have h0:(foldS [] m).1=[]:=by
   unfold foldS at hz⊢;by_cases h1:chkV []=0
   ·rw[if_neg (fun e=>e h1)]at hz⊢
    by_cases h2:formC m=0
    ·rw[if_neg (fun e=>e h2)]at hz⊢;exact foldR_bad _ _ _ hz
    ·rw[if_pos h2]
   ·rw[if_pos h1]
  rw[h0]at h;exact fineV_of (by rw[h];exact goodA_nil)
end Go.Proofs.YtjhbeecmdgglgaaGreatDoor
namespace Go.Proofs.YtjhbeecmdgglgaaGreatDoor
open Go.RowKit Go.Maps
end Go.Proofs.YtjhbeecmdgglgaaGreatDoor
namespace Go.Proofs.YtjhbeecmdgglgaaGreatDoor
open Go.RowKit Go.Maps
structure TwoR (w:World) (base:Nat) (vr vn:Value) (xs ys:List Value):Prop where
 rows:w.ownsRow base 43 1 vr xs.length xs
 nums:w.ownsRow base 3 1 vn ys.length ys
 apart: ∀j,vr.ownBlock=some j→vn.ownBlock≠some j
theorem TwoR.nil (w:World)(base:Nat):TwoR w base (.slice none 0 0) (.slice none 0 0) [] []:=⟨⟨rfl,.inl ⟨rfl,rfl⟩⟩,⟨rfl,.inl ⟨rfl,rfl⟩⟩,nofun⟩
theorem TwoR.below {w w':World}{base:Nat}{vr vn:Value}{xs ys:List Value}(h:TwoR w base vr vn xs ys)(hb:Below w.heap.size w w'):TwoR w' base vr vn xs ys:=⟨own_below h.rows hb,own_below h.nums hb,h.apart⟩
theorem TwoR.one {w w':World}{base:Nat}{vr vn v':Value}{xs ys xs':List Value}(h:TwoR w base vr vn xs ys)(hown:w'.ownsRow base 43 1 v' xs'.length xs')(hg:w.grownBy w' vr.ownBlock)(hat:v'.ownBlock=vr.ownBlock∨v'.ownBlock=some w.heap.size):TwoR w' base v' vn xs' ys:=by
 refine⟨hown,h.nums.kept hg ?_,fun j hj=> ?_⟩
 ·cases hn:vn.ownBlock with
  |none=>exact .inl rfl
  |some j=>exact .inr fun e=>h.apart j e.symm hn
 ·rcases hat with e|e
  ·rw[e]at hj;exact h.apart j hj
  ·rw[e]at hj
   injection hj with hj;intro hn;have:=own_lt h.nums j hn;omega
theorem TwoR.two {w w':World}{base:Nat}{vr vn v':Value}{xs ys ys':List Value}(h:TwoR w base vr vn xs ys)(hown:w'.ownsRow base 3 1 v' ys'.length ys')(hg:w.grownBy w' vn.ownBlock)(hat:v'.ownBlock=vn.ownBlock∨v'.ownBlock=some w.heap.size):TwoR w' base vr v' xs ys':=by
 refine⟨h.rows.kept hg ?_,hown,fun j hj hn=> ?_⟩
 ·cases hn:vr.ownBlock with
  |none=>exact .inl rfl
  |some j=>exact .inr fun e=>h.apart j hn e.symm
 ·rcases hat with e|e
  ·rw[e]at hn;exact h.apart j hj hn
  ·rw[e]at hn
   injection hn with hn;have:=own_lt h.rows j hj;omega
structure RowD (w:World) (c:Cnt):Prop where
 sl:Sl w c.v c.r.length (rowCells c.r)
 few:c.r.length≤8
 num: -1099511627776≤c.n∧c.n≤1099511627776
end Go.Proofs.YtjhbeecmdgglgaaGreatDoor
namespace Go.Proofs.YtjhbeecmdgglgaaGreatDoor
open Go.RowKit Go.Maps Go.Sort
theorem entry_row {A:AV}{kl:Lit}{y:DataW Unit}(hat: ∀zd,(mkD A).atKey kl zd=y): ∃p∈A,(kOf p.1).sameKey kl=true∧y= .lit (.int .i64 p.2):=by
 have h0:=hat (.lit (.int .i64 0));have h1:=hat (.lit (.int .i64 1));unfold mkD DataW.atKey at h0 h1;simp only at h0 h1;cases hf:(A.map ent).find? (fun p=>p.1.sameKey kl)with
 |none=>rw[hf]at h0 h1;simp at h0 h1;rw[←h0]at h1;simp at h1
 |some q=>
  have hm:=List.mem_of_find?_eq_some hf;have hk:=List.find?_some hf;obtain⟨p,hp,rfl⟩:=List.mem_map.1 hm;rw[hf]at h0;exact⟨p,hp,hk,h0.symm⟩
theorem same_str {p:List Val}{x:List UInt8}(h:(kOf p).sameKey (.string x)=true):x=keyRow p:=by
 have:(keyRow p==x)=true:=h;exact(by simpa using this:keyRow p=x).symm
structure Part (A B P:AV) (left:Lit→Bool):Prop where
 rises:Rises P
 look: ∀r,GoodR r→lookA P r=lookA B r-(if left (kOf r)=true then 0 else lookA A r)
theorem Part.start {A B:AV}(hA:Rises A)(hB:Rises B):Part A B B (Maps.has (mkD A)):=⟨hB,fun r hr=>by
 rw[mkD_has hA.good hr];cases h:hasA A r with
 |true=>simp
 |false=>rw[has_no_look h];simp⟩
theorem Part.step {A B P:AV}{left:Lit→Bool}{p:List Val×Int}(h:Part A B P left)(hA:Rises A)(hp:p∈A)(hl:left (kOf p.1)=true):Part A B (putA P p.1 (lookA P p.1-p.2)) (fun z=>left z&& !z.sameKey (kOf p.1)):=by
 have hg:=hA.good p hp;refine⟨rises_put h.rises hg,fun r hr=> ?_⟩;have h1:=h.look r hr;rw[look_put h.rises hg hr,kOf_same hr hg,show(decide (rowsF r p.1=0))=decide (r=p.1)from decide_eq_decide.2 (rowsF_zero hr hg)];by_cases e:p.1=r
 ·subst e
  rw[if_pos rfl,h1,hl,look_mem hA hp];simp
 ·rw[if_neg e,h1]
  have e': ¬r=p.1:=fun h=>e h.symm;simp[e']
theorem Part.nums {A B P:AV}{left:Lit→Bool}(h:Part A B P left)(hA: ∀p∈A,1≤p.2∧p.2≤1073741824)(hB: ∀p∈B,1≤p.2∧p.2≤1073741824)(r:List Val)(hr:GoodR r): -1073741824≤lookA P r∧lookA P r≤1073741824:=by
 rw[h.look r hr];have h1:=look_num r hA;have h2:=look_num r hB;split<;>omega
end Go.Proofs.YtjhbeecmdgglgaaGreatDoor
