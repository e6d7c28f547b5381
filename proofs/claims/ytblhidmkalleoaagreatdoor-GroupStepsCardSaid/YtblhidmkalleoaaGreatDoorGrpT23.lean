/-Groups: Step's plain answer; turns one after another. Groups: what the tail of Step needs: the keys of both maps, lookups in a map to groups, the two  -/
import Derived.Test.YtblhidmkalleoaaGreatDoorGrpT22
import Derived.Test.YtblhidmkalleoaaGreatDoorGrpT13
import Derived.Test.YtblhidmkalleoaaGreatDoorGrpT10
import Derived.Test.YtblhidmkalleoaaGreatDoorGrpT4
import Derived.Test.YtblhidmkalleoaaGreatDoorGrpT8
set_option linter.unusedSimpArgs false
set_option linter.unusedVariables false
namespace Go.Proofs.YtblhidmkalleoaaGreatDoor
open Go.RowKit Go.Maps
def stepG (p:Pl) (G:List Gp) (l:List Chn):List Gp×List (Int×List Val)×Int:=
 if checkG p G≠0 then([],[],checkG p G)else if formC l≠0 then([],[],formC l)else if typesG p (ac l)≠0 then([],[],typesG p (ac l))
 else if(turnAll p G (ac l)).2≠0 then([],[],(turnAll p G (ac l)).2)else((turnAll p G (ac l)).1,changedG p G (turnAll p G (ac l)).1,0)
theorem Tn.trans {w w1 w2:World}{base M N N':Nat}{X X1 X2:List (Nat×Gm)}(h:Tn w base M X w1 N X1)(h2:Tn w1 base M X1 w2 N' X2):Tn w base M X w2 N' X2:=
 ⟨h2.map,h.turned.transN h2.turned fun i hi hm=>h.old i hi hm,fun k hk hm=>h.old k hk (h2.old k (Nat.lt_of_lt_of_le hk h.turned.size) hm)⟩
theorem acG_at {l:List Chn}{i:Nat}{c:Chn}(h:l[i]?=some c):(ac l)[i]?=some (c.k,c.r):=by unfold ac;rw[List.getElem?_map,h];rfl
theorem acG_len (l:List Chn):(ac l).length=l.length:=List.length_map ..
theorem turnAll_at {p:Pl}{G:List Gp}{l:List (Int×List Val)}{i:Nat}{c:Int×List Val}(h:l[i]?=some c):turnAll p G (l.drop i)=if(turnG p G c).2=0 then turnAll p (turnG p G c).1 (l.drop (i+1))else([],(turnG p G c).2):=by
 obtain⟨hl,rfl⟩:=List.getElem?_eq_some_iff.1 h;rw[List.drop_eq_getElem_cons hl];rfl
theorem turnAll_end {p:Pl}{G:List Gp}{l:List (Int×List Val)}:turnAll p G (l.drop l.length)=(G,0):=by rw[List.drop_length];rfl
theorem types_bad {p:Pl}{l:List Chn}{k:Nat}{c:Chn}(hpre: ∀x∈l.take k,fitE (allT p) x.r=0)(hc:l[k]?=some c)(he:fitE (allT p) c.r≠0):typesG p (ac l)=fitE (allT p) c.r:=by
 unfold typesG;refine firstNZ_hit (k:=k) (fun x hx=> ?_) (by rw[List.getElem?_map,acG_at hc];rfl) he;rw[←List.map_take]at hx;obtain⟨q,hq,rfl⟩:=List.mem_map.1 hx;unfold ac at hq;rw[←List.map_take]at hq;obtain⟨y,hy,rfl⟩:=List.mem_map.1 hq;exact hpre y hy
theorem types_ok {p:Pl}{l:List Chn}(h: ∀x∈l,fitE (allT p) x.r=0):typesG p (ac l)=0:=by
 unfold typesG
 exact firstNZ_none fun x hx=>by
  obtain⟨q,hq,rfl⟩:=List.mem_map.1 hx;obtain⟨y,hy,rfl⟩:=List.mem_map.1 hq;exact h y hy
theorem fit_len {t:List Int}{r:List Val}(h:r.length≠t.length):fitE t r=2:=if_pos h
theorem fit_not {t:List Int}{r:List Val}(h:r.length=t.length)(h2:allB fitOne (t.zip r)=false):fitE t r=5:=by
 unfold fitE;rw[if_neg (by omega),if_neg (by rw[h2];simp)]
theorem fit_yes {t:List Int}{r:List Val}(h:r.length=t.length)(h2:allB fitOne (t.zip r)=true):fitE t r=0:=by
 unfold fitE;rw[if_neg (by omega),if_pos h2]
theorem fit_zero {p:Pl}{r:List Val}(hg:GoodR r)(h:fitE (allT p) r=0):TypedG p r:=by
 unfold fitE at h;by_cases h1:r.length≠(allT p).length
 ·rw[if_pos h1]at h;omega
 ·rw[if_neg h1]at h
  by_cases h2:allB fitOne ((allT p).zip r)=true
  ·exact⟨hg,by omega,h2⟩
  ·rw[if_neg h2]at h;omega
end Go.Proofs.YtblhidmkalleoaaGreatDoor
namespace Go.Proofs.YtblhidmkalleoaaGreatDoor
open Go.RowKit Go.Maps
structure KS (A B:AV) (i:Nat) (C:AV):Prop where
 rises:Rises C
 has: ∀r,GoodR r→hasA C r=((decide (1≤i)&&hasA A r)||(decide (2≤i)&&hasA B r))
 look: ∀r,GoodR r→0≤lookA C r∧lookA C r≤((5000*i:Nat):Int)
theorem KS.start (A B:AV):KS A B 0 []:=⟨Rises.nil,fun r _=>by simp[hasA],fun r _=>by simp[lookA]⟩
theorem KS.one {A B C C2:AV}{left:Lit→Bool}{m:Int}(h:KS A B 0 C)(k:KP A C C2 left m)(hl: ∀kl,left kl=false)(hm:m≤5000):KS A B 1 C2:=
 ⟨k.rises,fun r hr=>by rw[k.done hl r hr,h.has r hr];simp,fun r hr=>by have:=k.look r hr;omega⟩
theorem KS.two {A B C C2:AV}{left:Lit→Bool}{m:Int}(h:KS A B 1 C)(k:KP B C C2 left m)(hl: ∀kl,left kl=false)(hm:m≤10000):KS A B 2 C2:=
 ⟨k.rises,fun r hr=>by rw[k.done hl r hr,h.has r hr];simp,fun r hr=>by have:=k.look r hr;omega⟩
theorem KS.union {X Y:List (Nat×Gm)}{C:AV}(h:KS (ax X) (ax Y) 2 C)(gX: ∀g∈gx X,GoodR g.r)(gY: ∀g∈gx Y,GoodR g.r):Union (gx X) (gx Y) (C.map (·.1)):=
 keys_union (ax_rows X) (ax_rows Y) gX gY h.rises fun r hr=>by rw[h.has r hr];simp
def ptrV (o:Option Nat):Value:= .pointer (o.map fun b=>⟨b,0,none⟩)
theorem ptrV_of {v:Value}{y:DataW Unit×List MemPlace}(h:ptrE v=some y): ∃c,v=ptrV c:=by
 unfold ptrE at h;split at h
 ·exact⟨none,rfl⟩
 ·exact⟨some _,rfl⟩
 ·cases h
theorem bump_int {w w':World}{M n:Nat}{B:AV}{r:List Val}{ky:ByteArray}{v:Int}(hown:w.ownsMap Tryz.prog 9 (plainElem (H:=Unit) Tryz.prog 3) M n (mkD B))(hb:Below w.heap.size w w')(hky:keyOf Tryz.prog 9 (.string ky)=some (kOf r))(hB:Rises B)(hr:GoodR r)(hn:n<maxLen)(hv:(Lit.int .i64 v).wf=true):
 (Instr.lookup 125 (.map (some M)) (.string ky) false).run Tryz.prog w'= .ok (.int .i64 (lookA B r)) w'∧
 ∃w6,(Instr.mapUpdate 125 (.map (some M)) (.string ky) (.int .i64 v)).run Tryz.prog w'= .ok () w6∧w6.ownsMap Tryz.prog 9 (plainElem (H:=Unit) Tryz.prog 3) M (n+1) (mkD (putA B r v))∧w'.grownBy w6 (some M):=by
 have h2:=map_below hown hb;obtain⟨c,hrun,hat,-⟩:=h2.lookup_int (t:=125) lawS Tryz.underlying125 Tryz.underlying3 (zeroS _) hky;obtain rfl:=lit_inj (hat.symm.trans (mkD_at hB.good hr));refine⟨hrun,?_⟩;obtain⟨w6,h6,o6,g6⟩:=h2.update (t:=125) lawS Tryz.underlying125 hn hky (plainElem_int (H:=Unit) Tryz.underlying3 hv);rw[mkD_put hB hr]at o6;exact⟨w6,h6,o6,g6⟩
def findX (X:List (Nat×Gm)) (r:List Val):Option (Nat×Gm):=X.find? fun p=>rowsF p.2.r r==0
theorem findX_mem {X:List (Nat×Gm)}{r:List Val}{q:Nat×Gm}(h:findX X r=some q):q∈X:=List.mem_of_find?_eq_some h
theorem findX_gx (X:List (Nat×Gm))(r:List Val):findG (gx X) r=(findX X r).map fun q=>q.2.gp:=by
 unfold findG findX gx;rw[List.find?_map];rfl
theorem rises_split {A B:AV}{p:List Val×Int}(h:Rises (A++p::B)): ∀q∈A,rowsF q.1 p.1<0:=fun q hq=>
 (List.pairwise_append.1 h.rise).2.2 q hq p (List.mem_cons_self ..)
theorem look_find {w:World}{base M N:Nat}{X:List (Nat×Gm)}{key:List Val}(h:GMap w base M N X)(hri:Rises (ax X))(hk:GoodR key):
 (Instr.lookup 122 (.map (some M)) (.string (str (keyRow key))) false).run Tryz.prog w= .ok (ptrV ((findX X key).map (·.1))) w:=by
 have hgood: ∀q∈X,GoodR q.2.r:=fun q hq=>hri.good (q.2.r,(q.1:Int)+1) (List.mem_map.2 ⟨q,hq,rfl⟩);cases hf:findX X key with
 |none=>
  refine look_not h hri hk fun p hp e=> ?_;obtain⟨q,hq,rfl⟩:=List.mem_map.1 hp;have:=List.find?_eq_none.1 hf q hq;exact this (by simpa using e)
 |some q=>
  obtain⟨b,x⟩:=q;obtain⟨e,A,B,hX,-⟩:=List.find?_eq_some_iff_append.1 hf;have e:rowsF x.r key=0:=by simpa using e
  have e:x.r=key:=(rowsF_zero (hgood _ (findX_mem hf)) hk).1 e;rw[hX,ax_mid]at hri;have hs:=rises_split hri;have hs: ∀q∈ax A,rowsF q.1 key<0:=fun q hq=>by rw[←e];exact hs q hq
  rw[←ax_mid,←hX]at hri;exact look_has h hri hX e hk hs
theorem grpI:EInfo Tryz.prog 97 3 56:=by
 have h:(Tryz.prog.info? 97).map (fun i=>(i.zero,i.size,i.bytes))=some (some (.agg #[.slice none 0 0,.int .i64 0,.slice none 0 0]),3,56):=by kernel_rfl
 obtain⟨i,hi,h1,h2,h3⟩:=info_parts h;exact⟨i,_,hi,h1,h2,h3,rfl,by omega⟩
theorem one_gm (W:World)(x:Gm):Sl (W.alloc (.cells #[x.v,.int .i64 x.n,x.vb] 97)) (.slice (some ⟨W.heap.size,0,none⟩) 1 1) 1 x.cells:=Sl.block (Blk.new W 97 #[x.v,.int .i64 x.n,x.vb]) 1 1 (Nat.le_refl _) (by decide)
structure TwoO (w:World) (base:Nat) (gv:Value) (GL:List Gm) (ov:Value) (m:List Chn):Prop where
 grp:w.ownsRow base 97 3 gv GL.length (gmCells GL)
 out:OwnC w base ov m
 apart: ∀k,gv.ownBlock=some k→ov.ownBlock≠some k∧ ∀c∈m,c.v.ownBlock≠some k
theorem TwoO.nil (w:World)(base:Nat):TwoO w base (.slice none 0 0) [] (.slice none 0 0) []:=⟨⟨rfl,.inl ⟨rfl,rfl⟩⟩,OwnC.nil w base,fun k hk=>by cases hk⟩
theorem TwoO.below {w w':World}{base:Nat}{gv ov:Value}{GL:List Gm}{m:List Chn}(h:TwoO w base gv GL ov m)(hb:Below w.heap.size w w'):TwoO w' base gv GL ov m:=⟨own_below h.grp hb,h.out.below hb,h.apart⟩
theorem OwnC.turned {F:Nat→Prop}{w w':World}{base:Nat}{v:Value}{l:List Chn}(h:OwnC w base v l)(ht:Turned F w w')(hv: ∀k,v.ownBlock=some k→ ¬F k)(hr: ∀c∈l,∀k,c.v.ownBlock=some k→ ¬F k):OwnC w' base v l:=
 ⟨own_turned h.own ht hv,fun c hc=>sl_turned (h.rows c hc) ht (hr c hc),fun c hc k hk=>⟨(h.far c hc k hk).1,Nat.lt_of_lt_of_le (h.far c hc k hk).2.1 ht.size,(h.far c hc k hk).2.2⟩⟩
theorem TwoO.group {w w':World}{base:Nat}{gv gv' ov:Value}{GL:List Gm}{m:List Chn}{x:Gm}(h:TwoO w base gv GL ov m)(hown:w'.ownsRow base 97 3 gv' (GL.length+1) (gmCells GL++x.cells))(hg:w.grownBy w' gv.ownBlock)(hat:gv'.ownBlock=gv.ownBlock∨gv'.ownBlock=some w.heap.size):TwoO w' base gv' (GL++[x]) ov m:=by
 refine⟨?_,h.out.turned (turned_grown hg) (fun k hk e=>(h.apart k e).1 hk) (fun c hc k hk e=>(h.apart k e).2 c hc hk),fun k hk=> ?_⟩
 ·rw[gmCells_app,List.length_append]
  simpa[gmCells]using hown
 ·rcases hat with e|e
  ·exact h.apart k (e▸hk)
  ·rw[e]at hk
   injection hk with hk;subst hk;exact⟨fun e=>by have:=own_lt h.out.own _ e;omega,fun c hc e=>by have:=(h.out.far c hc _ e).2.1;omega⟩
theorem OwnC.app {w w':World}{base:Nat}{v v':Value}{l cs:List Chn}(h:OwnC w base v l)(hown:w'.ownsRow base 73 2 v' (l.length+cs.length) (chnCells l++chnCells cs))(hg:w.grownBy w' v.ownBlock)(hat:v'.ownBlock=v.ownBlock∨v'.ownBlock=some w.heap.size)
 (hc: ∀c∈cs,Sl w c.v c.r.length (rowCells c.r)∧ ∀k,c.v.ownBlock=some k→base≤k∧k<w.heap.size∧v.ownBlock≠some k):OwnC w' base v' (l++cs):=by
 have hfar: ∀d∈l++cs,Sl w d.v d.r.length (rowCells d.r)∧ ∀k,d.v.ownBlock=some k→base≤k∧k<w.heap.size∧v.ownBlock≠some k:=by
  intro d hd;rcases List.mem_append.1 hd with hd|hd
  ·exact⟨h.rows d hd,h.far d hd⟩
  ·exact hc d hd
 refine⟨?_,fun d hd=>sl_grown (hfar d hd).1 hg (fun k hk=>((hfar d hd).2 k hk).2.2),fun d hd k hk=> ?_⟩
 ·rw[chnCells_app,List.length_append]
  exact hown
 ·obtain⟨h0,h1,h2⟩:=(hfar d hd).2 k hk
  refine⟨h0,Nat.lt_of_lt_of_le h1 hg.size,fun e=> ?_⟩;rcases hat with e'|e'
  ·exact h2 (e'▸e)
  ·rw[e']at e
   injection e with e;omega
theorem TwoO.tell {w w':World}{base:Nat}{gv ov ov':Value}{GL:List Gm}{m cs:List Chn}(h:TwoO w base gv GL ov m)(hown:w'.ownsRow base 73 2 ov' (m.length+cs.length) (chnCells m++chnCells cs))(hg:w.grownBy w' ov.ownBlock)(hat:ov'.ownBlock=ov.ownBlock∨ov'.ownBlock=some w.heap.size)
 (hc: ∀c∈cs,Sl w c.v c.r.length (rowCells c.r)∧ ∀k,c.v.ownBlock=some k→base≤k∧k<w.heap.size∧ov.ownBlock≠some k∧gv.ownBlock≠some k):TwoO w' base gv GL ov' (m++cs):=by
 refine⟨own_turned h.grp (turned_grown hg) fun k hk e=>(h.apart k hk).1 e,h.out.app hown hg hat fun c hcs=>⟨(hc c hcs).1,fun k hk=>let z:=(hc c hcs).2 k hk;⟨z.1,z.2.1,z.2.2.1⟩⟩,fun k hk=>⟨fun e=> ?_,fun c hcm e=> ?_⟩⟩
 ·rcases hat with e'|e'
  ·exact(h.apart k hk).1 (e'▸e)
  ·rw[e']at e
   injection e with e;have:=own_lt h.grp k hk;omega
 ·rcases List.mem_append.1 hcm with hcm|hcm
  ·exact(h.apart k hk).2 c hcm e
  ·exact((hc c hcm).2 k e).2.2.2 hk
theorem told_keys {p:Pl}{G H:List Gp}{U:List (List Val)}(hG:RowsG G)(hH:RowsG H)(h:Union G H U):changedG p G H=U.flatMap fun r=>tellR p (findG G r) (findG H r):=changed_union p hG hH h
theorem find_step {C:AV}{i:Nat}{pc:List Val×Int}{f:List Val→Option Gp}{o:Option Gp}(hx:C[i]?=some pc)(hf:f pc.1=o):((C.take (i+1)).map (·.1)).filterMap f=((C.take i).map (·.1)).filterMap f++o.toList:=by
 rw[List.take_add_one,hx,List.map_append,List.filterMap_append]
 congr 1
 show[pc.1].filterMap f=_;rw[List.filterMap_cons,hf];cases o<;>rfl
theorem tell_step {C:AV}{i:Nat}{pc:List Val×Int}{f:List Val→List (Int×List Val)}{o:List (Int×List Val)}(hx:C[i]?=some pc)(hf:f pc.1=o):((C.take (i+1)).map (·.1)).flatMap f=((C.take i).map (·.1)).flatMap f++o:=by
 rw[List.take_add_one,hx,List.map_append,List.flatMap_append]
 congr 1
 show[pc.1].flatMap f=_;rw[List.flatMap_cons,hf];simp
theorem sl_pair {w:World}{g:Nat}{a b:Chn}(hb:w.heap[g]?=some (.cells #[.int .i64 a.k,a.v,.int .i64 b.k,b.v] 73 (0,0))):Sl w (.slice (some ⟨g,0,none⟩) 2 2) 2 (chnCells [a,b]):=Sl.block hb 2 2 (Nat.le_refl _) (by decide)
theorem chns_one {w:World}{l:List Chn}(h: ∀c∈l,∃n cs,Sl w c.v n cs): ∀u∈chnCells l,u.oneCell'=true:=by
 intro u hu;obtain⟨c,hc,hu⟩:=List.mem_flatMap.1 hu;obtain⟨n,cs,hs⟩:=h c hc;exact chn_one hs u hu
end Go.Proofs.YtblhidmkalleoaaGreatDoor
namespace Go.Proofs.YtblhidmkalleoaaGreatDoor
open Go.RowKit Go.Maps
end Go.Proofs.YtblhidmkalleoaaGreatDoor
namespace Go.Proofs.YtblhidmkalleoaaGreatDoor
open Go.RowKit Go.Maps
structure TwoR (w:World) (base:Nat) (vr vn:Value) (xs ys:List Value):Prop where
 rows:w.ownsRow base 61 1 vr xs.length xs
 nums:w.ownsRow base 3 1 vn ys.length ys
 apart: ∀j,vr.ownBlock=some j→vn.ownBlock≠some j
theorem TwoR.nil (w:World)(base:Nat):TwoR w base (.slice none 0 0) (.slice none 0 0) [] []:=⟨⟨rfl,.inl ⟨rfl,rfl⟩⟩,⟨rfl,.inl ⟨rfl,rfl⟩⟩,nofun⟩
theorem TwoR.below {w w':World}{base:Nat}{vr vn:Value}{xs ys:List Value}(h:TwoR w base vr vn xs ys)(hb:Below w.heap.size w w'):TwoR w' base vr vn xs ys:=⟨own_below h.rows hb,own_below h.nums hb,h.apart⟩
theorem TwoR.one {w w':World}{base:Nat}{vr vn v':Value}{xs ys xs':List Value}(h:TwoR w base vr vn xs ys)(hown:w'.ownsRow base 61 1 v' xs'.length xs')(hg:w.grownBy w' vr.ownBlock)(hat:v'.ownBlock=vr.ownBlock∨v'.ownBlock=some w.heap.size):TwoR w' base v' vn xs' ys:=by
 refine⟨hown,h.nums.kept hg ?_,fun j hj=> ?_⟩
 ·cases hn:vn.ownBlock with
  |none=>exact .inl rfl
  |some j=>exact .inr fun e=>h.apart j e.symm hn
 ·rcases hat with e|e
  ·rw[e]at hj;exact h.apart j hj
  ·rw[e]at hj
   injection hj with hj;intro hn;have:=own_lt h.nums j hn;omega
theorem TwoR.two {w w':World}{base:Nat}{vr vn v':Value}{xs ys ys':List Value}(h:TwoR w base vr vn xs ys)(hown:w'.ownsRow base 3 1 v' ys'.length ys')(hg:w.grownBy w' vn.ownBlock)(hat:v'.ownBlock=vn.ownBlock∨v'.ownBlock=some w.heap.size):TwoR w' base vr v' xs ys':=by
 refine⟨h.rows.kept hg ?_,hown,fun j hj hn=> ?_⟩
 ·cases hn:vr.ownBlock with
  |none=>exact .inl rfl
  |some j=>exact .inr fun e=>h.apart j hn e.symm
 ·rcases hat with e|e
  ·rw[e]at hn;exact h.apart j hj hn
  ·rw[e]at hn
   injection hn with hn;have:=own_lt h.rows j hj;omega
structure RowD (w:World) (c:Cnt):Prop where
 sl:Sl w c.v c.r.length (rowCells c.r)
 few:c.r.length≤8
 num: -1099511627776≤c.n∧c.n≤1099511627776
end Go.Proofs.YtblhidmkalleoaaGreatDoor
namespace Go.Proofs.YtblhidmkalleoaaGreatDoor
open Go.RowKit Go.Maps Go.Sort
theorem entry_row {A:AV}{kl:Lit}{y:DataW Unit}(hat: ∀zd,(mkD A).atKey kl zd=y): ∃p∈A,(kOf p.1).sameKey kl=true∧y= .lit (.int .i64 p.2):=by
 have h0:=hat (.lit (.int .i64 0));have h1:=hat (.lit (.int .i64 1));unfold mkD DataW.atKey at h0 h1;simp only at h0 h1;cases hf:(A.map ent).find? (fun p=>p.1.sameKey kl)with
 |none=>rw[hf]at h0 h1;simp at h0 h1;rw[←h0]at h1;simp at h1
 |some q=>
  have hm:=List.mem_of_find?_eq_some hf;have hk:=List.find?_some hf;obtain⟨p,hp,rfl⟩:=List.mem_map.1 hm;rw[hf]at h0;exact⟨p,hp,hk,h0.symm⟩
theorem same_str {p:List Val}{x:List UInt8}(h:(kOf p).sameKey (.string x)=true):x=keyRow p:=by
 have:(keyRow p==x)=true:=h;exact(by simpa using this:keyRow p=x).symm
structure Part (A B P:AV) (left:Lit→Bool):Prop where
 rises:Rises P
 look: ∀r,GoodR r→lookA P r=lookA B r-(if left (kOf r)=true then 0 else lookA A r)
theorem Part.start {A B:AV}(hA:Rises A)(hB:Rises B):Part A B B (Maps.has (mkD A)):=⟨hB,fun r hr=>by
 rw[mkD_has hA.good hr];cases h:hasA A r with
 |true=>simp
 |false=>rw[has_no_look h];simp⟩
theorem Part.step {A B P:AV}{left:Lit→Bool}{p:List Val×Int}(h:Part A B P left)(hA:Rises A)(hp:p∈A)(hl:left (kOf p.1)=true):Part A B (putA P p.1 (lookA P p.1-p.2)) (fun z=>left z&& !z.sameKey (kOf p.1)):=by
 have hg:=hA.good p hp;refine⟨rises_put h.rises hg,fun r hr=> ?_⟩;have h1:=h.look r hr;rw[look_put h.rises hg hr,kOf_same hr hg,show(decide (rowsF r p.1=0))=decide (r=p.1)from decide_eq_decide.2 (rowsF_zero hr hg)];by_cases e:p.1=r
 ·subst e
  rw[if_pos rfl,h1,hl,look_mem hA hp];simp
 ·rw[if_neg e,h1]
  have e': ¬r=p.1:=fun h=>e h.symm;simp[e']
theorem Part.done {A B P:AV}{left:Lit→Bool}(h:Part A B P left)(hA:Rises A)(hB:Rises B)(hl: ∀kl,left kl=false):toldS P=toldS (mergeD A B):=
 told_ext h.rises (merge_rises hA hB) fun r hr=>by
  rw[h.look r hr,merge_look hA hB hr,hl];simp
theorem Part.nums {A B P:AV}{left:Lit→Bool}(h:Part A B P left)(hA: ∀p∈A,1≤p.2∧p.2≤1073741824)(hB: ∀p∈B,1≤p.2∧p.2≤1073741824)(r:List Val)(hr:GoodR r): -1073741824≤lookA P r∧lookA P r≤1073741824:=by
 rw[h.look r hr];have h1:=look_num r hA;have h2:=look_num r hB;split<;>omega
end Go.Proofs.YtblhidmkalleoaaGreatDoor
