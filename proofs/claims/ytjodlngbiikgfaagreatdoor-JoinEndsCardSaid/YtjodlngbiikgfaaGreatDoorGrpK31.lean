/-Joins: Step, Play. (Printed by genjn20.py.) -/
import Derived.Test.YtjodlngbiikgfaaGreatDoorGrpK29
import Derived.Test.YtjodlngbiikgfaaGreatDoorGrpK30
import Derived.Test.YtjodlngbiikgfaaGreatDoorGrpK19
set_option linter.unusedSimpArgs false
set_option linter.unusedVariables false
namespace Go.Proofs.YtjodlngbiikgfaaGreatDoor
open Go.RowKit Go.Maps
open tm (fitsB fits_of fits_yes)
theorem step_any (p:Pl)(s:Jv)(e:Evv)(w:World)(hp:p.ok w)(hf:p.fit)(hs:s.ok w)(hsf:s.fit)(he:e.ok w)(hef:e.fit)(hm:Mx w):
 Calls Tryz.prog 17 #[.agg #[.int .i64 p.kind,.int .i64 p.mode,.int .i64 p.low,.int .i64 p.high,.int .i64 p.size,.int .i64 p.limit,p.vl,p.vr,p.vk,p.vq,.bool p.grouped,p.vg,p.va],.agg #[.int .i64 s.l.limit,s.l.vm,s.l.vr,.int .i64 s.r.limit,s.r.vm,s.r.vr,.int .i64 s.lm,.int .i64 s.rm,.int .i64 s.seq],.agg #[.int .i64 e.kind,.int .i64 e.side,.int .i64 e.t,e.v]] w fun r w'=> ∃(s':Jv) (vo:Value) (m:List Chn),r= .returned (.tuple #[s'.agg,vo,.int .i64 (stepJ p s.jn e.ev).2.2])∧s'.jn=(stepJ p s.jn e.ev).1∧ac m=(stepJ p s.jn e.ev).2.1∧OwnJ w' w.heap.size s'∧OwnC w' w.heap.size vo m∧Below w.heap.size w w':=
 step_of p s e w hp hf hs hsf he hef hm fun V hV=>jcheck_any p s V (hp.below hV) hf (hs.below hV) hsf (hm.below hV)
def Evv.cells (e:Evv):List Value:=[.int .i64 e.kind,.int .i64 e.side,.int .i64 e.t,e.v]
theorem Evv.cells_len (e:Evv):e.cells.length=4:=rfl
def evCells (l:List Evv):List Value:=l.flatMap Evv.cells
structure Evs (w:World) (v:Value) (l:List Evv):Prop where
 sl:Sl w v l.length (evCells l)
 rows: ∀e∈l,e.ok w
theorem Evv.ok.below {w w':World}{e:Evv}(h:e.ok w)(hb:Below w.heap.size w w'):e.ok w':=⟨h.row.below hb⟩
theorem Evs.below {w w':World}{v:Value}{l:List Evv}(h:Evs w v l)(hb:Below w.heap.size w w'):Evs w' v l:=⟨h.sl.below hb,fun e he=>(h.rows e he).below hb⟩
theorem ev_at {w:World}{l:List Evv}{v:Value}(h:Sl w v l.length (evCells l)){A:Option Addr}{n c:Nat}(hv:v= .slice A n c){k:Nat}{x:Evv}(hk:l[k]?=some x):
 ∃b off,A=some ⟨b,off,none⟩∧b<w.heap.size∧ ∀w',Below w.heap.size w w'→
  w'.cell? ⟨b,off+k*4,none⟩=some (.int .i64 x.kind)∧w'.cell? ⟨b,off+k*4+1,none⟩=some (.int .i64 x.side)∧w'.cell? ⟨b,off+k*4+2,none⟩=some (.int .i64 x.t)∧w'.cell? ⟨b,off+k*4+3,none⟩=some x.v:=by
 obtain⟨A',c',hv',h1,h2,-,h3⟩:=h;rw[hv]at hv';injection hv' with e1 e2 e3;subst e1;have a0:=flat_at Evv.cells_len l k 0 (by omega);have a1:=flat_at Evv.cells_len l k 1 (by omega);have a2:=flat_at Evv.cells_len l k 2 (by omega);have a3:=flat_at Evv.cells_len l k 3 (by omega);rw[hk]at a0 a1 a2 a3;simp only[Option.bind_some,Nat.add_zero]at a0 a1 a2 a3;obtain⟨b,off,hA,hc⟩:=h3 (by intro h0;rw[show l.flatMap Evv.cells=evCells l from rfl,h0]at a0;simp[Evv.cells]at a0);have c0:=hc _ _ a0;have c1:=hc _ _ a1;have c2:=hc _ _ a2;have c3:=hc _ _ a3;exact⟨b,off,hA,World.block_lt_of_cell? w _ c0,fun w' hb=>⟨cell_below hb c0,cell_below hb c1,cell_below hb c2,cell_below hb c3⟩⟩
theorem capp {w w':World}{base:Nat}{v v':Value}{l cs:List Chn}(h:OwnC w base v l)(hown:w'.ownsRow base 55 2 v' (l.length+cs.length) (chnCells l++chnCells cs))(hg:w.grownBy w' v.ownBlock)(hat:v'.ownBlock=v.ownBlock∨v'.ownBlock=some w.heap.size)
 (hc: ∀c∈cs,Sl w c.v c.r.length (rowCells c.r)∧ ∀k,c.v.ownBlock=some k→base≤k∧k<w.heap.size∧v.ownBlock≠some k):OwnC w' base v' (l++cs):=by
 have hfar: ∀d∈l++cs,Sl w d.v d.r.length (rowCells d.r)∧ ∀k,d.v.ownBlock=some k→base≤k∧k<w.heap.size∧v.ownBlock≠some k:=by
  intro d hd;rcases List.mem_append.1 hd with hd|hd
  ·exact⟨h.rows d hd,h.far d hd⟩
  ·exact hc d hd
 refine⟨?_,fun d hd=>sl_grown (hfar d hd).1 hg (fun k hk=>((hfar d hd).2 k hk).2.2),fun d hd k hk=> ?_⟩
 ·rw[chnCells_app,List.length_append]
  exact hown
 ·obtain⟨h0,h1,h2⟩:=(hfar d hd).2 k hk
  refine⟨h0,Nat.lt_of_lt_of_le h1 hg.size,fun e=> ?_⟩;rcases hat with e'|e'
  ·exact h2 (e'▸e)
  ·rw[e']at e
   injection e with e;omega
structure PlO (w:World) (base:Nat) (s:Jv) (vo:Value) (m:List Chn) (nv:Value) (no:List Int):Prop where
 jn:OwnJ w base s
 out:OwnC w base vo m
 nos:w.ownsRow base 3 1 nv no.length (intCells no)
 so: ∀k,vo.ownBlock=some k∨nv.ownBlock=some k→s.l.off k∧s.r.off k
 na: ∀k,nv.ownBlock=some k→vo.ownBlock≠some k∧ ∀c∈m,c.v.ownBlock≠some k
theorem PlO.below {w w':World}{base:Nat}{s:Jv}{vo nv:Value}{m:List Chn}{no:List Int}(h:PlO w base s vo m nv no)(hb:Below w.heap.size w w'):PlO w' base s vo m nv no:=
 ⟨⟨h.jn.l.below hb,h.jn.r.below hb⟩,h.out.below hb,own_below h.nos hb,h.so,h.na⟩
theorem PlO.low {w:World}{base base':Nat}{s:Jv}{vo nv:Value}{m:List Chn}{no:List Int}(h:PlO w base s vo m nv no)(hb:base'≤base):PlO w base' s vo m nv no:=
 ⟨⟨h.jn.l.low hb,h.jn.r.low hb⟩,h.out.low hb,own_low h.nos hb,h.so,h.na⟩
theorem PlO.turned {F:Nat→Prop}{w w':World}{base:Nat}{s:Jv}{vo nv:Value}{m:List Chn}{no:List Int}(h:PlO w base s vo m nv no)(ht:Turned F w w')(hf: ∀k,F k→k<base):PlO w' base s vo m nv no:=
 ⟨⟨h.jn.l.turned ht fun k hk=>own_farB h.jn.l (hf k hk),h.jn.r.turned ht fun k hk=>own_farB h.jn.r (hf k hk)⟩,
  h.out.turned ht (fun k hk e=>by have h1:=own_ge h.out.own k hk;have h2:=hf k e;omega) (fun c hc k hk e=>by have h1:=(h.out.far c hc k hk).1;have h2:=hf k e;omega),
  own_turned h.nos ht (fun k hk e=>by have h1:=own_ge h.nos k hk;have h2:=hf k e;omega),h.so,h.na⟩
theorem PlO.join {w w':World}{base:Nat}{s t:Jv}{vo nv:Value}{m:List Chn}{no:List Int}(h:PlO w base s vo m nv no)(hb:Below w.heap.size w w')(ht:OwnJ w' w.heap.size t)(hbs:base≤w.heap.size):PlO w' base t vo m nv no:=
 ⟨⟨ht.l.low hbs,ht.r.low hbs⟩,h.out.below hb,own_below h.nos hb,fun k hk=>by
   have hlt:k<w.heap.size:=by
    rcases hk with hk|hk
    ·exact own_lt h.out.own k hk
    ·exact own_lt h.nos k hk
   exact⟨own_farB ht.l hlt,own_farB ht.r hlt⟩,h.na⟩
theorem PlO.tell {w w':World}{base:Nat}{s:Jv}{vo vo' nv:Value}{m cs:List Chn}{no:List Int}(h:PlO w base s vo m nv no)(hown:w'.ownsRow base 55 2 vo' (m.length+cs.length) (chnCells m++chnCells cs))(hg:w.grownBy w' vo.ownBlock)(hat:vo'.ownBlock=vo.ownBlock∨vo'.ownBlock=some w.heap.size)
 (hc: ∀c∈cs,Sl w c.v c.r.length (rowCells c.r)∧ ∀k,c.v.ownBlock=some k→base≤k∧k<w.heap.size∧vo.ownBlock≠some k∧nv.ownBlock≠some k):PlO w' base s vo' (m++cs) nv no:=by
 refine⟨⟨h.jn.l.turned (turned_grown hg) fun k hk=>(h.so k (.inl hk)).1,h.jn.r.turned (turned_grown hg) fun k hk=>(h.so k (.inl hk)).2⟩,capp h.out hown hg hat fun c hcs=>⟨(hc c hcs).1,fun k hk=>let z:=(hc c hcs).2 k hk;⟨z.1,z.2.1,z.2.2.1⟩⟩,
  own_turned h.nos (turned_grown hg) fun k hk e=>(h.na k hk).1 e,fun k hk=> ?_,fun k hk=>⟨fun e=> ?_,fun c hcm e=> ?_⟩⟩
 ·rcases hk with hk|hk
  ·rcases hat with e|e
   ·exact h.so k (.inl (e▸hk))
   ·rw[e]at hk
    injection hk with hk;subst hk;exact⟨h.jn.l.off (Nat.le_refl _),h.jn.r.off (Nat.le_refl _)⟩
  ·exact h.so k (.inr hk)
 ·rcases hat with e'|e'
  ·exact(h.na k hk).1 (e'▸e)
  ·rw[e']at e
   injection e with e;have:=own_lt h.nos k hk;omega
 ·rcases List.mem_append.1 hcm with hcm|hcm
  ·exact(h.na k hk).2 c hcm e
  ·exact((hc c hcm).2 k e).2.2.2 hk
theorem PlO.pass {w w':World}{base:Nat}{s:Jv}{vo nv nv':Value}{m:List Chn}{no:List Int}{i:Int}(h:PlO w base s vo m nv no)(hown:w'.ownsRow base 3 1 nv' (no.length+1) (intCells no++[.int .i64 i]))(hg:w.grownBy w' nv.ownBlock)(hat:nv'.ownBlock=nv.ownBlock∨nv'.ownBlock=some w.heap.size):PlO w' base s vo m nv' (no++[i]):=by
 refine⟨⟨h.jn.l.turned (turned_grown hg) fun k hk=>(h.so k (.inr hk)).1,h.jn.r.turned (turned_grown hg) fun k hk=>(h.so k (.inr hk)).2⟩,
  h.out.turned (turned_grown hg) (fun k hk e=>(h.na k e).1 hk) (fun c hc k hk e=>(h.na k e).2 c hc hk),?_,fun k hk=> ?_,fun k hk=> ?_⟩
 ·have e:intCells (no++[i])=intCells no++[.int .i64 i]:=List.map_append
  rw[e,List.length_append];exact hown
 ·rcases hk with hk|hk
  ·exact h.so k (.inl hk)
  ·rcases hat with e|e
   ·exact h.so k (.inr (e▸hk))
   ·rw[e]at hk
    injection hk with hk;subst hk;exact⟨h.jn.l.off (Nat.le_refl _),h.jn.r.off (Nat.le_refl _)⟩
 ·rcases hat with e|e
  ·exact h.na k (e▸hk)
  ·rw[e]at hk
   injection hk with hk;subst hk;exact⟨fun e=>by have:=own_lt h.out.own _ e;omega,fun c hc e=>by have:=(h.out.far c hc _ e).2.1;omega⟩
theorem PlO.nil {w:World}{base:Nat}{s:Jv}(h:OwnJ w base s):PlO w base s (.slice none 0 0) [] (.slice none 0 0) []:=
 ⟨h,OwnC.nil w base,⟨rfl,.inl ⟨rfl,rfl⟩⟩,(fun k hk=>by rcases hk with hk|hk<;>cases hk),(fun k hk=>by cases hk)⟩
theorem start_goodJ {p:Pl}(h:checkP p=0):GoodJ p (startJ p):=by
 have hl:=plan_limit h;have hb:GoodB (⟨p.limit,[],[]⟩:Bu):=⟨hl,by show 0≤4096;omega,by show((0:Nat):Int)≤p.limit;omega,nofun,fun l hm=>by rw[List.mem_singleton.1 (show l∈[([]:List En)]from hm)];exact List.Pairwise.nil,nofun,List.Pairwise.nil⟩;exact⟨h,hb,hb,rfl,rfl,rfl,nofun,nofun,List.nodup_nil⟩
theorem fit_goodJ {p:Pl}{t:Jv}(h:GoodJ p t.jn)(hF:FineJ t.jn):t.fit:=by
 obtain⟨r1,r2,r3⟩:=rangesJ_of h.ranges;unfold noM at r1 r2;exact⟨goodFitJ h.left hF.l,goodFitJ h.right hF.r,⟨by have:=r1.1;show _≤t.jn.lm;omega,by have:=r1.2;show t.jn.lm≤_;omega⟩,⟨by have:=r2.1;show _≤t.jn.rm;omega,by have:=r2.2;show t.jn.rm≤_;omega⟩,⟨by have:=r3.1;show _≤t.jn.seq;omega,by have:=r3.2;show t.jn.seq≤_;omega⟩⟩
theorem playS_plan {p:Pl}{l:List Ev}{E:Int}(h:checkP p=E)(h0: ¬E=0):playS p l=(zJ,[],[],E):=by
 unfold playS;rw[h,if_pos h0]
theorem playS_many {p:Pl}{l:List Ev}(h:checkP p=0)(h0:120<l.length):playS p l=(zJ,[],[],2):=by
 unfold playS;rw[h,if_neg (by simp),if_pos h0]
theorem playS_run {p:Pl}{l:List Ev}{s:Jn}{cs:List Cg}{no:List Int}(h:checkP p=0)(h0: ¬120<l.length)(hr:playJ p (startJ p) 0 l=(s,cs,no)):playS p l=(s,cs,no,0):=by
 unfold playS;rw[h,if_neg (by simp),if_neg h0,hr]
set_option maxHeartbeats 16000000 in
set_option maxRecDepth 10000 in
theorem play_any (p:Pl)(v:Value)(le:List Evv)(w:World)(hp:p.ok w)(hf:p.fit)(he:Evs w v le)(hef: ∀e∈le,e.fit)(hm:Mx w):
 Calls Tryz.prog 20 #[.agg #[.int .i64 p.kind,.int .i64 p.mode,.int .i64 p.low,.int .i64 p.high,.int .i64 p.size,.int .i64 p.limit,p.vl,p.vr,p.vk,p.vq,.bool p.grouped,p.vg,p.va],v] w fun r w'=> ∃(s':Jv) (vo:Value) (m:List Chn) (nv:Value),r= .returned (.tuple #[s'.agg,vo,nv,.int .i64 (playS p (le.map Evv.ev)).2.2.2])∧s'.jn=(playS p (le.map Evv.ev)).1∧ac m=(playS p (le.map Evv.ev)).2.1∧PlO w' w.heap.size s' vo m nv (playS p (le.map Evv.ev)).2.2.1∧Below w.heap.size w w':=by
 obtain⟨A0,c0,h0,-⟩:=id hp.l;obtain⟨A1,c1,h1,-⟩:=id hp.r;obtain⟨A2,c2,h2,-⟩:=id hp.k;obtain⟨A3,c3,h3,-⟩:=id hp.q;obtain⟨A4,c4,h4,-⟩:=id hp.g;obtain⟨A5,c5,h5,-⟩:=id hp.a;obtain⟨Al,cl,hvl,-⟩:=id he.sl;subst hvl;have HPV:=Lib.hid (And.intro h0 (And.intro h1 (And.intro h2 (And.intro h3 (And.intro h4 h5)))));obtain⟨ST,hST⟩: ∃q,playS p (le.map Evv.ev)=q:=⟨_,rfl⟩;obtain⟨E,hE⟩: ∃q,checkP p=q:=⟨_,rfl⟩;obtain⟨NM,hNM⟩: ∃q,noM=q:=⟨_,rfl⟩;have hB1:=(below_alloc w (.cells #[.int .i64 p.kind,.int .i64 p.mode,.int .i64 p.low,.int .i64 p.high,.int .i64 p.size,.int .i64 p.limit,.slice A0 p.left.length c0,.slice A1 p.right.length c1,.slice A2 p.lkeys.length c2,.slice A3 p.rkeys.length c3,.bool p.grouped,.slice A4 p.group.length c4,.slice A5 p.aggs.length c5] 25)).alloc (by rw[World.size_alloc];omega) (.cells #[.int .i64 0,.slice none 0 0,.slice none 0 0,.int .i64 0,.slice none 0 0,.slice none 0 0,.int .i64 0,.int .i64 0,.int .i64 0] 31);have k0:=(Blk.new w 25 #[.int .i64 p.kind,.int .i64 p.mode,.int .i64 p.low,.int .i64 p.high,.int .i64 p.size,.int .i64 p.limit,.slice A0 p.left.length c0,.slice A1 p.right.length c1,.slice A2 p.lkeys.length c2,.slice A3 p.rkeys.length c3,.bool p.grouped,.slice A4 p.group.length c4,.slice A5 p.aggs.length c5]).alloc (.cells #[.int .i64 0,.slice none 0 0,.slice none 0 0,.int .i64 0,.slice none 0 0,.slice none 0 0,.int .i64 0,.int .i64 0,.int .i64 0] 31);have k1:=Blk.new (w.alloc (.cells #[.int .i64 p.kind,.int .i64 p.mode,.int .i64 p.low,.int .i64 p.high,.int .i64 p.size,.int .i64 p.limit,.slice A0 p.left.length c0,.slice A1 p.right.length c1,.slice A2 p.lkeys.length c2,.slice A3 p.rkeys.length c3,.bool p.grouped,.slice A4 p.group.length c4,.slice A5 p.aggs.length c5] 25)) 31 #[.int .i64 0,.slice none 0 0,.slice none 0 0,.int .i64 0,.slice none 0 0,.slice none 0 0,.int .i64 0,.int .i64 0,.int .i64 0];have k4:((w.alloc (.cells #[.int .i64 p.kind,.int .i64 p.mode,.int .i64 p.low,.int .i64 p.high,.int .i64 p.size,.int .i64 p.limit,.slice A0 p.left.length c0,.slice A1 p.right.length c1,.slice A2 p.lkeys.length c2,.slice A3 p.rkeys.length c3,.bool p.grouped,.slice A4 p.group.length c4,.slice A5 p.aggs.length c5] 25)).alloc (.cells #[.int .i64 0,.slice none 0 0,.slice none 0 0,.int .i64 0,.slice none 0 0,.slice none 0 0,.int .i64 0,.int .i64 0,.int .i64 0] 31)).heap.size=w.heap.size+1+1:=by rw[World.size_alloc,World.size_alloc]
 simp only[World.size_alloc]at k1;obtain⟨W1,hW1⟩: ∃V,(w.alloc (.cells #[.int .i64 p.kind,.int .i64 p.mode,.int .i64 p.low,.int .i64 p.high,.int .i64 p.size,.int .i64 p.limit,.slice A0 p.left.length c0,.slice A1 p.right.length c1,.slice A2 p.lkeys.length c2,.slice A3 p.rkeys.length c3,.bool p.grouped,.slice A4 p.group.length c4,.slice A5 p.aggs.length c5] 25)).alloc (.cells #[.int .i64 0,.slice none 0 0,.slice none 0 0,.int .i64 0,.slice none 0 0,.slice none 0 0,.int .i64 0,.int .i64 0,.int .i64 0] 31)=V:=⟨_,rfl⟩;rw[hW1]at hB1 k0 k1 k4;have HB1:=Lib.hid hB1;have HKP:=Lib.hid k0;have HKR:=Lib.hid k1;have HSZ:=Lib.hid k4;have HST:=Lib.hid hST;have HEE:=Lib.hid hE;have HNM:=Lib.hid hNM
 have HCS:Hid (Calls Tryz.prog 10 #[.agg #[.int .i64 p.kind,.int .i64 p.mode,.int .i64 p.low,.int .i64 p.high,.int .i64 p.size,.int .i64 p.limit,.slice A0 p.left.length c0,.slice A1 p.right.length c1,.slice A2 p.lkeys.length c2,.slice A3 p.rkeys.length c3,.bool p.grouped,.slice A4 p.group.length c4,.slice A5 p.aggs.length c5]] W1 fun r w'=>r= .returned (.tuple #[.agg (if E=0 then#[.int .i64 p.limit,.slice none 0 0,.slice none 0 0,.int .i64 p.limit,.slice none 0 0,.slice none 0 0,.int .i64 NM,.int .i64 NM,.int .i64 0]else#[.int .i64 0,.slice none 0 0,.slice none 0 0,.int .i64 0,.slice none 0 0,.slice none 0 0,.int .i64 0,.int .i64 0,.int .i64 0]),.int .i64 E])∧Below W1.heap.size W1 w'):=Lib.hid (by
  have h:=start_any p W1 (hp.below hB1) hf;rw[h0,h1,h2,h3,h4,h5,hE]at h;refine Calls.mono h ?_;rintro r w' ⟨rfl,hb⟩;refine⟨?_,hb⟩;by_cases hz:E=0
  ·rw[if_pos hz,if_pos hz,←hNM];rfl
  ·rw[if_neg hz,if_neg hz];rfl)
 have HSP:Hid (∀(t:Jv) (x:Evv) V,Below W1.heap.size W1 V→t.ok V→t.fit→x∈le→Calls Tryz.prog 17 #[.agg #[.int .i64 p.kind,.int .i64 p.mode,.int .i64 p.low,.int .i64 p.high,.int .i64 p.size,.int .i64 p.limit,.slice A0 p.left.length c0,.slice A1 p.right.length c1,.slice A2 p.lkeys.length c2,.slice A3 p.rkeys.length c3,.bool p.grouped,.slice A4 p.group.length c4,.slice A5 p.aggs.length c5],.agg #[.int .i64 t.l.limit,t.l.vm,t.l.vr,.int .i64 t.r.limit,t.r.vm,t.r.vr,.int .i64 t.lm,.int .i64 t.rm,.int .i64 t.seq],.agg #[.int .i64 x.kind,.int .i64 x.side,.int .i64 x.t,x.v]] V fun r w'=> ∃(s':Jv) (vo:Value) (m:List Chn),r= .returned (.tuple #[s'.agg,vo,.int .i64 (stepJ p t.jn x.ev).2.2])∧s'.jn=(stepJ p t.jn x.ev).1∧ac m=(stepJ p t.jn x.ev).2.1∧OwnJ w' V.heap.size s'∧OwnC w' V.heap.size vo m∧Below V.heap.size V w'):=Lib.hid (fun t x V hV ht htf hx=>by
  have h:=step_any p t x V (hp.below (below_trans hB1 hV)) hf ht htf ((he.rows x hx).below (below_trans hB1 hV)) (hef x hx) (hm.below (below_trans hB1 hV));rw[h0,h1,h2,h3,h4,h5]at h;exact h)
 have HEV:Hid (∀V,Below W1.heap.size W1 V→Evs V (.slice Al le.length cl) le):=Lib.hid (fun V hV=>he.below (below_trans hB1 hV));have HEF:Hid (∀x∈le,Fine x.r):=Lib.hid (fun x hx=>(hef x hx).row);rw[h0,h1,h2,h3,h4,h5,hST];have p0:=HKP.out.cellR 0 rfl;have p1:=HKP.out.cellR 1 rfl;have p2:=HKP.out.cellR 2 rfl;have p3:=HKP.out.cellR 3 rfl;have p4:=HKP.out.cellR 4 rfl;have p5:=HKP.out.cellR 5 rfl;have p6:=HKP.out.cellR 6 rfl;have p7:=HKP.out.cellR 7 rfl;have p8:=HKP.out.cellR 8 rfl;have p9:=HKP.out.cellR 9 rfl;have p10:=HKP.out.cellR 10 rfl;have p11:=HKP.out.cellR 11 rfl;have p12:=HKP.out.cellR 12 rfl;clear hp hf he hef hm h0 h1 h2 h3 h4 h5 hB1 k0 k1 k4 hST hE hNM;go_enter Tryz.func20,Tryz.ntmps20
 go_upto_region 1 with fail
 first|rw[hW1]|skip
 clear hW1
 go_wp2_with fail
 refine Calls.mono (by with_reducible exact HCS.out) ?_;rintro r x2 ⟨rfl,hb2⟩;have HX2:=Lib.hid hb2;have HKP2:=Lib.hid (HKP.out.below hb2);have HKR2:=Lib.hid (HKR.out.below hb2);clear hb2 HCS;clear p0 p1 p2 p3 p4 p5 p6 p7 p8 p9 p10 p11 p12;by_cases hE0:E=0
 case' neg=>
  have hEb:(E==0)=false:=by simpa using hE0
  have hEb2:(E != 0)=true:=by simpa using hE0
  have HZ0:Hid (ST=(zJ,[],[],E)):=Lib.hid (by rw[←HST.out];exact playS_plan HEE.out hE0);rw[if_neg hE0];clear hE0;have HX3:Hid (Below w.heap.size w (x2.alloc (.cells #[.int .i64 0,.slice none 0 0,.slice none 0 0,.int .i64 0,.slice none 0 0,.slice none 0 0,.int .i64 0,.int .i64 0,.int .i64 0] 31))):=Lib.hid (below_trans HB1.out (HX2.out.alloc HX2.out.size _));have HKR3:=Lib.hid (HKR2.out.alloc (.cells #[.int .i64 0,.slice none 0 0,.slice none 0 0,.int .i64 0,.slice none 0 0,.slice none 0 0,.int .i64 0,.int .i64 0,.int .i64 0] 31));have q0:=HKR3.out.free 0;have y0:=HKR3.out.cellR 0 rfl;have q1:=HKR3.out.free 1;have y1:=HKR3.out.cellR 1 rfl;have q2:=HKR3.out.free 2;have y2:=HKR3.out.cellR 2 rfl;have q3:=HKR3.out.free 3;have y3:=HKR3.out.cellR 3 rfl;have q4:=HKR3.out.free 4;have y4:=HKR3.out.cellR 4 rfl;have q5:=HKR3.out.free 5;have y5:=HKR3.out.cellR 5 rfl;have q6:=HKR3.out.free 6;have y6:=HKR3.out.cellR 6 rfl;have q7:=HKR3.out.free 7;have y7:=HKR3.out.cellR 7 rfl;have q8:=HKR3.out.free 8;have y8:=HKR3.out.cellR 8 rfl;go_wp2;have HR9:=Lib.hid (HKR3.out.set9 (.int .i64 0) (.slice none 0 0) (.slice none 0 0) (.int .i64 0) (.slice none 0 0) (.slice none 0 0) (.int .i64 0) (.int .i64 0) (.int .i64 0));have HT9:=Lib.hid (turned_set9 (x2.alloc (.cells #[.int .i64 0,.slice none 0 0,.slice none 0 0,.int .i64 0,.slice none 0 0,.slice none 0 0,.int .i64 0,.int .i64 0,.int .i64 0] 31)) (w.heap.size+1) (.int .i64 0) (.slice none 0 0) (.slice none 0 0) (.int .i64 0) (.slice none 0 0) (.slice none 0 0) (.int .i64 0) (.int .i64 0) (.int .i64 0));have z0:=HR9.out.cellR 0 rfl;have z1:=HR9.out.cellR 1 rfl;have z2:=HR9.out.cellR 2 rfl;have z3:=HR9.out.cellR 3 rfl;have z4:=HR9.out.cellR 4 rfl;have z5:=HR9.out.cellR 5 rfl;have z6:=HR9.out.cellR 6 rfl;have z7:=HR9.out.cellR 7 rfl;have z8:=HR9.out.cellR 8 rfl;refine bodyPost_ret (v:= .tuple #[.agg #[.int .i64 0,.slice none 0 0,.slice none 0 0,.int .i64 0,.slice none 0 0,.slice none 0 0,.int .i64 0,.int .i64 0,.int .i64 0],.slice none 0 0,.slice none 0 0,.int .i64 E]) (by simp[results,Tryz.results20,go_sem,z0,z1,z2,z3,z4,z5,z6,z7,z8]) rfl ?_;refine⟨Jv.zero,.slice none 0 0,[],.slice none 0 0,?_,?_,?_,?_,?_⟩
  ·rw[HZ0.out];rfl
  ·rw[HZ0.out];exact Jv.zero_jn
  ·rw[HZ0.out];rfl
  ·rw[HZ0.out];exact PlO.nil (zero_own _ _)
  ·exact below_turned (HX3.out) HT9.out (fun k hk=>by rw[hk];omega)
 have hEb:(E==0)=true:=by rw[hE0];rfl
 have HP0:Hid (checkP p=0):=Lib.hid (HEE.out.trans hE0);rw[if_pos hE0];subst hE0;by_cases hmany:120<le.length
 case' pos=>
  have hgt:(le.length:Int)>120:=by omega
  have HZ0:Hid (ST=(zJ,[],[],2)):=Lib.hid (by rw[←HST.out];exact playS_many HP0.out (by rw[List.length_map];exact hmany));clear hmany;have HX3:Hid (Below w.heap.size w (x2.alloc (.cells #[.int .i64 p.limit,.slice none 0 0,.slice none 0 0,.int .i64 p.limit,.slice none 0 0,.slice none 0 0,.int .i64 NM,.int .i64 NM,.int .i64 0] 31))):=Lib.hid (below_trans HB1.out (HX2.out.alloc HX2.out.size _));have HKR3:=Lib.hid (HKR2.out.alloc (.cells #[.int .i64 p.limit,.slice none 0 0,.slice none 0 0,.int .i64 p.limit,.slice none 0 0,.slice none 0 0,.int .i64 NM,.int .i64 NM,.int .i64 0] 31));have q0:=HKR3.out.free 0;have y0:=HKR3.out.cellR 0 rfl;have q1:=HKR3.out.free 1;have y1:=HKR3.out.cellR 1 rfl;have q2:=HKR3.out.free 2;have y2:=HKR3.out.cellR 2 rfl;have q3:=HKR3.out.free 3;have y3:=HKR3.out.cellR 3 rfl;have q4:=HKR3.out.free 4;have y4:=HKR3.out.cellR 4 rfl;have q5:=HKR3.out.free 5;have y5:=HKR3.out.cellR 5 rfl;have q6:=HKR3.out.free 6;have y6:=HKR3.out.cellR 6 rfl;have q7:=HKR3.out.free 7;have y7:=HKR3.out.cellR 7 rfl;have q8:=HKR3.out.free 8;have y8:=HKR3.out.cellR 8 rfl;go_wp2;have HR9:=Lib.hid (HKR3.out.set9 (.int .i64 0) (.slice none 0 0) (.slice none 0 0) (.int .i64 0) (.slice none 0 0) (.slice none 0 0) (.int .i64 0) (.int .i64 0) (.int .i64 0));have HT9:=Lib.hid (turned_set9 (x2.alloc (.cells #[.int .i64 p.limit,.slice none 0 0,.slice none 0 0,.int .i64 p.limit,.slice none 0 0,.slice none 0 0,.int .i64 NM,.int .i64 NM,.int .i64 0] 31)) (w.heap.size+1) (.int .i64 0) (.slice none 0 0) (.slice none 0 0) (.int .i64 0) (.slice none 0 0) (.slice none 0 0) (.int .i64 0) (.int .i64 0) (.int .i64 0));have z0:=HR9.out.cellR 0 rfl;have z1:=HR9.out.cellR 1 rfl;have z2:=HR9.out.cellR 2 rfl;have z3:=HR9.out.cellR 3 rfl;have z4:=HR9.out.cellR 4 rfl;have z5:=HR9.out.cellR 5 rfl;have z6:=HR9.out.cellR 6 rfl;have z7:=HR9.out.cellR 7 rfl;have z8:=HR9.out.cellR 8 rfl;refine bodyPost_ret (v:= .tuple #[.agg #[.int .i64 0,.slice none 0 0,.slice none 0 0,.int .i64 0,.slice none 0 0,.slice none 0 0,.int .i64 0,.int .i64 0,.int .i64 0],.slice none 0 0,.slice none 0 0,.int .i64 2]) (by simp[results,Tryz.results20,go_sem,z0,z1,z2,z3,z4,z5,z6,z7,z8]) rfl ?_;refine⟨Jv.zero,.slice none 0 0,[],.slice none 0 0,?_,?_,?_,?_,?_⟩
  ·rw[HZ0.out];rfl
  ·rw[HZ0.out];exact Jv.zero_jn
  ·rw[HZ0.out];rfl
  ·rw[HZ0.out];exact PlO.nil (zero_own _ _)
  ·exact below_turned (HX3.out) HT9.out (fun k hk=>by rw[hk];omega)
 have hgt: ¬(le.length:Int)>120:=by omega
 have HX3:Hid (Below W1.heap.size W1 (x2.alloc (.cells #[.int .i64 p.limit,.slice none 0 0,.slice none 0 0,.int .i64 p.limit,.slice none 0 0,.slice none 0 0,.int .i64 NM,.int .i64 NM,.int .i64 0] 31))):=Lib.hid (HX2.out.alloc HX2.out.size _);have HKS:=Lib.hid (Blk.new x2 31 #[.int .i64 p.limit,.slice none 0 0,.slice none 0 0,.int .i64 p.limit,.slice none 0 0,.slice none 0 0,.int .i64 NM,.int .i64 NM,.int .i64 0]);obtain⟨S,hS⟩: ∃q,x2.heap.size=q:=⟨_,rfl⟩;have HS1:Hid (W1.heap.size≤S):=Lib.hid (by rw[←hS];exact HX2.out.size);have HSX:Hid ((x2.alloc (.cells #[.int .i64 p.limit,.slice none 0 0,.slice none 0 0,.int .i64 p.limit,.slice none 0 0,.slice none 0 0,.int .i64 NM,.int .i64 NM,.int .i64 0] 31)).heap.size=S+1):=Lib.hid (by rw[World.size_alloc,hS]);rw[hS]at HKS
 go_upto_region 9 with fail
 obtain⟨W3,hW3⟩: ∃V,x2.alloc (.cells #[.int .i64 p.limit,.slice none 0 0,.slice none 0 0,.int .i64 p.limit,.slice none 0 0,.slice none 0 0,.int .i64 NM,.int .i64 NM,.int .i64 0] 31)=V:=⟨_,rfl⟩;rw[hW3]at HX3 HKS HSX
 try rw[hW3]
 try rw[hS]
 clear hW3 hS
 go_loopw[10,11,12,13,14,15,16,35] (fun vo nv _ _ _ _ _ iv wr=> ∃(k:Nat) (t:Jv) (m:List Chn) (no:List Int),k≤le.length∧iv= .int .i64 k∧Hid (Blk wr S 31 (jA t))∧Hid (PlO wr (S+1) t vo m nv no)∧Hid (PlayAt p (le.map Evv.ev) k t.jn (ac m) no)∧Hid (GoodJ p t.jn∧FineJ t.jn)∧Hid (m.length≤8193*k∧no.length≤k)∧Hid (Below W1.heap.size W1 wr∧S+1≤wr.heap.size)) (fun _ _ _ _ _ _ _ iv _=>le.length-(intOf iv).toNat)
 case atStart=>exact⟨0,startV p,[],[],by omega,rfl,Lib.hid (by have h:=HKS.out;rw[←HNM.out]at h;exact h),Lib.hid (PlO.nil (startV_own p _ _)),Lib.hid (by rw[startV_jn];exact PlayAt.start _ _),Lib.hid (by rw[startV_jn];exact⟨start_goodJ HP0.out,start_fineJ p⟩),Lib.hid ⟨Nat.le_refl _,Nat.le_refl _⟩,Lib.hid ⟨HX3.out,Nat.le_of_eq HSX.out.symm⟩⟩
 case round=>
  rename World=>wr
  obtain⟨k,t,m,no,hk,rfl,HKJ,HPO,HPA,HGF,HLN,HBW⟩:=hrel;clear HKS;obtain⟨G0,n0,k0,u0⟩:=own_slice HPO.out.jn.l.mem.own;obtain⟨G1,n1,k1,u1⟩:=own_slice HPO.out.jn.l.sl;obtain⟨G2,n2,k2,u2⟩:=own_slice HPO.out.jn.r.mem.own;obtain⟨G3,n3,k3,u3⟩:=own_slice HPO.out.jn.r.sl;have HUU:=Lib.hid (And.intro u0 (And.intro u1 (And.intro u2 u3)));have HJA:Hid (jA t= #[.int .i64 t.l.limit,.slice G0 n0 k0,.slice G1 n1 k1,.int .i64 t.r.limit,.slice G2 n2 k2,.slice G3 n3 k3,.int .i64 t.lm,.int .i64 t.rm,.int .i64 t.seq]):=Lib.hid (by unfold jA;rw[u0,u1,u2,u3]);have HTA:Hid (t.agg= .agg #[.int .i64 t.l.limit,.slice G0 n0 k0,.slice G1 n1 k1,.int .i64 t.r.limit,.slice G2 n2 k2,.slice G3 n3 k3,.int .i64 t.lm,.int .i64 t.rm,.int .i64 t.seq]):=Lib.hid (by unfold Jv.agg;rw[u0,u1,u2,u3]);by_cases hlt:k<le.length
  ·have hx:=List.getElem?_eq_getElem (l:=le) hlt
   generalize le[k]=x at hx;have hxm:=List.mem_of_getElem? hx;have HXE:Hid ((le.map Evv.ev)[k]?=some x.ev):=Lib.hid (by rw[List.getElem?_map,hx];rfl);have hes:=HEV.out wr HBW.out.1;obtain⟨Ax,cx,hvx,-⟩:=id (hes.rows x hxm).row;obtain⟨bb,off,hA,-,hcs⟩:=ev_at hes.sl rfl hx;subst hA;have hc:=hcs wr (Below.refl _ wr);rw[hvx]at hc;obtain⟨f0,f1,f2,f3⟩:=hc;obtain⟨EC,hEC⟩: ∃q,(stepJ p t.jn x.ev).2.2=q:=⟨_,rfl⟩;have HEC:=Lib.hid hEC
   have HSQ:Hid (Calls Tryz.prog 17 #[.agg #[.int .i64 p.kind,.int .i64 p.mode,.int .i64 p.low,.int .i64 p.high,.int .i64 p.size,.int .i64 p.limit,.slice A0 p.left.length c0,.slice A1 p.right.length c1,.slice A2 p.lkeys.length c2,.slice A3 p.rkeys.length c3,.bool p.grouped,.slice A4 p.group.length c4,.slice A5 p.aggs.length c5],.agg #[.int .i64 t.l.limit,.slice G0 n0 k0,.slice G1 n1 k1,.int .i64 t.r.limit,.slice G2 n2 k2,.slice G3 n3 k3,.int .i64 t.lm,.int .i64 t.rm,.int .i64 t.seq],.agg #[.int .i64 x.kind,.int .i64 x.side,.int .i64 x.t,.slice Ax x.r.length cx]] (wr.alloc (.cells #[.int .i64 x.kind,.int .i64 x.side,.int .i64 x.t,.slice Ax x.r.length cx] 43)) fun r w'=> ∃(s':Jv) (vo:Value) (m:List Chn),r= .returned (.tuple #[s'.agg,vo,.int .i64 EC])∧s'.jn=(stepJ p t.jn x.ev).1∧ac m=(stepJ p t.jn x.ev).2.1∧OwnJ w' (wr.alloc (.cells #[.int .i64 x.kind,.int .i64 x.side,.int .i64 x.t,.slice Ax x.r.length cx] 43)).heap.size s'∧OwnC w' (wr.alloc (.cells #[.int .i64 x.kind,.int .i64 x.side,.int .i64 x.t,.slice Ax x.r.length cx] 43)).heap.size vo m∧Below (wr.alloc (.cells #[.int .i64 x.kind,.int .i64 x.side,.int .i64 x.t,.slice Ax x.r.length cx] 43)).heap.size (wr.alloc (.cells #[.int .i64 x.kind,.int .i64 x.side,.int .i64 x.t,.slice Ax x.r.length cx] 43)) w'):=Lib.hid (by
    have h:=HSP.out t x (wr.alloc (.cells #[.int .i64 x.kind,.int .i64 x.side,.int .i64 x.t,.slice Ax x.r.length cx] 43)) (HBW.out.1.alloc HBW.out.1.size _) (HPO.out.below (below_alloc wr _)).jn.ok (fit_goodJ HGF.out.1 HGF.out.2) hxm;rw[u0,u1,u2,u3,hvx,hEC]at h;exact h)
   have HFX:=Lib.hid (HEF.out x hxm);have HPE:=Lib.hid (HPO.out.below (below_alloc wr (.cells #[.int .i64 x.kind,.int .i64 x.side,.int .i64 x.t,.slice Ax x.r.length cx] 43)));have HBE:Hid (Below W1.heap.size W1 (wr.alloc (.cells #[.int .i64 x.kind,.int .i64 x.side,.int .i64 x.t,.slice Ax x.r.length cx] 43))):=Lib.hid (HBW.out.1.alloc HBW.out.1.size _);have hkj:=HKJ.out.alloc (.cells #[.int .i64 x.kind,.int .i64 x.side,.int .i64 x.t,.slice Ax x.r.length cx] 43);rw[HJA.out]at hkj;have HKJE:=Lib.hid hkj;have HKPE:=Lib.hid (HKP.out.below HBE.out);have HSE:Hid (S+1≤(wr.alloc (.cells #[.int .i64 x.kind,.int .i64 x.side,.int .i64 x.t,.slice Ax x.r.length cx] 43)).heap.size):=Lib.hid (by rw[World.size_alloc];have:=HBW.out.2;omega);have k0:(0:Int)≤(k:Int):=by omega
   have k1:(k:Int)<(le.length:Int):=by omega
   have HKE:=Lib.hid (Blk.new wr 43 #[.int .i64 x.kind,.int .i64 x.side,.int .i64 x.t,.slice Ax x.r.length cx]);obtain⟨B,hB⟩: ∃q,wr.heap.size=q:=⟨_,rfl⟩;rw[hB]at HKE;obtain⟨WE,hWE⟩: ∃V,wr.alloc (.cells #[.int .i64 x.kind,.int .i64 x.side,.int .i64 x.t,.slice Ax x.r.length cx] 43)=V:=⟨_,rfl⟩;rw[hWE]at HSQ HPE HBE HKJE HKPE HSE HKE;clear u0 u1 u2 u3 hx hxm hes hvx hcs hEC hkj
   go_upto_region 11 with fail
   try rw[hWE]
   try rw[hB]
   clear hWE hB f0 f1 f2 f3;have p0:=HKPE.out.cellR 0 rfl;have p1:=HKPE.out.cellR 1 rfl;have p2:=HKPE.out.cellR 2 rfl;have p3:=HKPE.out.cellR 3 rfl;have p4:=HKPE.out.cellR 4 rfl;have p5:=HKPE.out.cellR 5 rfl;have p6:=HKPE.out.cellR 6 rfl;have p7:=HKPE.out.cellR 7 rfl;have p8:=HKPE.out.cellR 8 rfl;have p9:=HKPE.out.cellR 9 rfl;have p10:=HKPE.out.cellR 10 rfl;have p11:=HKPE.out.cellR 11 rfl;have p12:=HKPE.out.cellR 12 rfl;have s0:=HKJE.out.cellR 0 rfl;have s1:=HKJE.out.cellR 1 rfl;have s2:=HKJE.out.cellR 2 rfl;have s3:=HKJE.out.cellR 3 rfl;have s4:=HKJE.out.cellR 4 rfl;have s5:=HKJE.out.cellR 5 rfl;have s6:=HKJE.out.cellR 6 rfl;have s7:=HKJE.out.cellR 7 rfl;have s8:=HKJE.out.cellR 8 rfl;have e0:=HKE.out.cellR 0 rfl;have e1:=HKE.out.cellR 1 rfl;have e2:=HKE.out.cellR 2 rfl;have e3:=HKE.out.cellR 3 rfl
   go_wp2_with fail
   refine Calls.mono (by with_reducible exact HSQ.out) ?_;rintro r x14 ⟨u,uo,um,rfl,huj,hua,hOU,hCU,hb14⟩;clear p0 p1 p2 p3 p4 p5 p6 p7 p8 p9 p10 p11 p12 s0 s1 s2 s3 s4 s5 s6 s7 s8 e0 e1 e2 e3;obtain⟨F0,m0,j0,u0⟩:=own_slice hOU.l.mem.own;obtain⟨F1,m1,j1,u1⟩:=own_slice hOU.l.sl;obtain⟨F2,m2,j2,u2⟩:=own_slice hOU.r.mem.own;obtain⟨F3,m3,j3,u3⟩:=own_slice hOU.r.sl;have HUV:=Lib.hid (And.intro u0 (And.intro u1 (And.intro u2 u3)));have HUA:Hid (u.agg= .agg #[.int .i64 u.l.limit,.slice F0 m0 j0,.slice F1 m1 j1,.int .i64 u.r.limit,.slice F2 m2 j2,.slice F3 m3 j3,.int .i64 u.lm,.int .i64 u.rm,.int .i64 u.seq]):=Lib.hid (by unfold Jv.agg;rw[u0,u1,u2,u3]);rw[HUA.out];have HUJ:=Lib.hid huj;have HUC:=Lib.hid hua;have HOU:=Lib.hid hOU;have HCU:=Lib.hid hCU;have HPU:=Lib.hid ((HPE.out.below hb14).below (below_alloc x14 (.cells #[.int .i64 u.l.limit,.slice F0 m0 j0,.slice F1 m1 j1,.int .i64 u.r.limit,.slice F2 m2 j2,.slice F3 m3 j3,.int .i64 u.lm,.int .i64 u.rm,.int .i64 u.seq] 31)));have HPJ:=Lib.hid ((HPE.out.join hb14 hOU HSE.out).below (below_alloc x14 (.cells #[.int .i64 u.l.limit,.slice F0 m0 j0,.slice F1 m1 j1,.int .i64 u.r.limit,.slice F2 m2 j2,.slice F3 m3 j3,.int .i64 u.lm,.int .i64 u.rm,.int .i64 u.seq] 31)));have HBU:Hid (Below W1.heap.size W1 (x14.alloc (.cells #[.int .i64 u.l.limit,.slice F0 m0 j0,.slice F1 m1 j1,.int .i64 u.r.limit,.slice F2 m2 j2,.slice F3 m3 j3,.int .i64 u.lm,.int .i64 u.rm,.int .i64 u.seq] 31))):=Lib.hid ((below_trans HBE.out hb14).alloc (below_trans HBE.out hb14).size _);have HKJU:=Lib.hid ((HKJE.out.below hb14).alloc (.cells #[.int .i64 u.l.limit,.slice F0 m0 j0,.slice F1 m1 j1,.int .i64 u.r.limit,.slice F2 m2 j2,.slice F3 m3 j3,.int .i64 u.lm,.int .i64 u.rm,.int .i64 u.seq] 31));have HSU:Hid (S+1≤(x14.alloc (.cells #[.int .i64 u.l.limit,.slice F0 m0 j0,.slice F1 m1 j1,.int .i64 u.r.limit,.slice F2 m2 j2,.slice F3 m3 j3,.int .i64 u.lm,.int .i64 u.rm,.int .i64 u.seq] 31)).heap.size):=Lib.hid (by rw[World.size_alloc];have h1:=HSE.out;have h2:=hb14.size;omega);have HKU:=Lib.hid (Blk.new x14 31 #[.int .i64 u.l.limit,.slice F0 m0 j0,.slice F1 m1 j1,.int .i64 u.r.limit,.slice F2 m2 j2,.slice F3 m3 j3,.int .i64 u.lm,.int .i64 u.rm,.int .i64 u.seq]);have HWU:Hid (WE.heap.size≤x14.heap.size):=Lib.hid hb14.size;obtain⟨C,hC⟩: ∃q,x14.heap.size=q:=⟨_,rfl⟩;have HCC:=Lib.hid hC;rw[hC]at HKU;obtain⟨WU,hWU⟩: ∃V,x14.alloc (.cells #[.int .i64 u.l.limit,.slice F0 m0 j0,.slice F1 m1 j1,.int .i64 u.r.limit,.slice F2 m2 j2,.slice F3 m3 j3,.int .i64 u.lm,.int .i64 u.rm,.int .i64 u.seq] 31)=V:=⟨_,rfl⟩;have HBXU:Hid (Below x14.heap.size x14 WU):=Lib.hid (by rw[←hWU];exact below_alloc x14 _);rw[hWU]at HPU HPJ HBU HKJU HSU HKU;clear u0 u1 u2 u3 huj hua hOU hCU hb14
   go_upto_region 12 with fail
   try rw[hWU]
   try rw[hC]
   clear hWU hC;by_cases hec:EC=0
   case' neg=>
    have hecb:(EC != 0)=true:=by simpa using hec
    have HPA2:=Lib.hid (HPA.out.bad HXE.out (by rw[HEC.out];exact hec));have hln:=HLN.out;have hSU:=HSU.out;clear hec
    go_wp2_with (at_builtin;refine wpList_app rfl (.tmp 50) (.tmp 52) 22 rfl (S+1) 3 1 8 Tryz.underlying22 intI _ no.length _ rfl (HPU.out.nos.alloc _) _ 1 [.int .i64 (k:Int)] rfl (one_int _ _) rfl (one_cell _) ?_ ?_ ?_ ?_)
    ·unfold maxLen;omega
    ·omega
    ·rw[World.size_alloc];omega
    ·intro v9 w9 hown9 hg9 hat9
     have hge:=own_ge HPU.out.nos;have HPN:=Lib.hid ((HPU.out.below (below_alloc WU (.cells #[.int .i64 (k:Int)] 3))).pass hown9 hg9 (by rw[World.size_alloc];exact hat9));have HK9:Hid (Blk w9 S 31 (jA t)):=Lib.hid (by rw[HJA.out];exact(HKJU.out.alloc _).grown hg9 (fun e=>by have:=hge _ e;omega));have HB9:Hid (Below W1.heap.size W1 w9∧S+1≤w9.heap.size):=Lib.hid ⟨below_grown (HBU.out.alloc HBU.out.size _) hg9 (fun i hi=>by have h1:=hge i hi;have h2:=HS1.out;omega),by have:=hg9.size;rw[World.size_alloc]at this;omega⟩;have HL9:Hid (m.length≤8193*(k+1)∧(no++[(k:Int)]).length≤k+1):=Lib.hid ⟨by omega,by rw[List.length_append];simp;omega⟩;clear hown9 hg9 hat9 hge;go_wp2;go_roundw
     case rel=>
      first
       |exact⟨k+1,t,m,no++[(k:Int)],by omega,by go_num,HK9,HPN,HPA2,HGF,HL9,HB9⟩
       |((repeat apply Exists.intro);exact⟨⟨k+1,t,m,no++[(k:Int)],by omega,by go_num,HK9,HPN,HPA2,HGF,HL9,HB9⟩,rfl⟩)
     case measure=>simp[intOf];omega
   have hecb:(EC != 0)=false:=by rw[hec];rfl
   have HE0:Hid ((stepJ p t.jn x.ev).2.2=0):=Lib.hid (HEC.out.trans hec)
   have HPA2:Hid (PlayAt p (le.map Evv.ev) (k+1) u.jn (ac (m++um)) no):=Lib.hid (by
    have h:=HPA.out.good HXE.out HE0.out;rw[←HUJ.out,←HUC.out]at h;rw[show ac (m++um)=ac m++ac um from List.map_append];exact h)
   have HGU:Hid (GoodJ p u.jn∧FineJ u.jn):=Lib.hid (by
    rw[HUJ.out];exact⟨step_goodJ HFX.out HE0.out,step_fineJ HGF.out.2 HFX.out HE0.out⟩)
   have HUL:Hid (um.length≤8193):=Lib.hid (by
    have h:=step_len (p:=p) (s:=t.jn) x.ev;rw[←HUC.out]at h;unfold ac at h;rwa[List.length_map]at h)
   clear hec;have c0:=HKU.out.cellR 0 rfl;have q0:=HKJU.out.free 0;have y0:=HKJU.out.cellR 0 rfl;have c1:=HKU.out.cellR 1 rfl;have q1:=HKJU.out.free 1;have y1:=HKJU.out.cellR 1 rfl;have c2:=HKU.out.cellR 2 rfl;have q2:=HKJU.out.free 2;have y2:=HKJU.out.cellR 2 rfl;have c3:=HKU.out.cellR 3 rfl;have q3:=HKJU.out.free 3;have y3:=HKJU.out.cellR 3 rfl;have c4:=HKU.out.cellR 4 rfl;have q4:=HKJU.out.free 4;have y4:=HKJU.out.cellR 4 rfl;have c5:=HKU.out.cellR 5 rfl;have q5:=HKJU.out.free 5;have y5:=HKJU.out.cellR 5 rfl;have c6:=HKU.out.cellR 6 rfl;have q6:=HKJU.out.free 6;have y6:=HKJU.out.cellR 6 rfl;have c7:=HKU.out.cellR 7 rfl;have q7:=HKJU.out.free 7;have y7:=HKJU.out.cellR 7 rfl;have c8:=HKU.out.cellR 8 rfl;have q8:=HKJU.out.free 8;have y8:=HKJU.out.cellR 8 rfl
   go_upto_region 15 with fail
   have HR9:=Lib.hid (HKJU.out.set9 (.int .i64 u.l.limit) (.slice F0 m0 j0) (.slice F1 m1 j1) (.int .i64 u.r.limit) (.slice F2 m2 j2) (.slice F3 m3 j3) (.int .i64 u.lm) (.int .i64 u.rm) (.int .i64 u.seq));have HT9:=Lib.hid (turned_set9 WU S (.int .i64 u.l.limit) (.slice F0 m0 j0) (.slice F1 m1 j1) (.int .i64 u.r.limit) (.slice F2 m2 j2) (.slice F3 m3 j3) (.int .i64 u.lm) (.int .i64 u.rm) (.int .i64 u.seq));obtain⟨W9,hW9⟩: ∃V,(((((((((WU.setCell ⟨S,0,none⟩ (.int .i64 u.l.limit)).setCell ⟨S,1,none⟩ (.slice F0 m0 j0)).setCell ⟨S,2,none⟩ (.slice F1 m1 j1)).setCell ⟨S,3,none⟩ (.int .i64 u.r.limit)).setCell ⟨S,4,none⟩ (.slice F2 m2 j2)).setCell ⟨S,5,none⟩ (.slice F3 m3 j3)).setCell ⟨S,6,none⟩ (.int .i64 u.lm)).setCell ⟨S,7,none⟩ (.int .i64 u.rm)).setCell ⟨S,8,none⟩ (.int .i64 u.seq))=V:=⟨_,rfl⟩;rw[hW9]at HR9 HT9⊢;clear hW9 c0 q0 y0 c1 q1 y1 c2 q2 y2 c3 q3 y3 c4 q4 y4 c5 q5 y5 c6 q6 y6 c7 q7 y7 c8 q8 y8;have HP9:=Lib.hid (HPJ.out.turned HT9.out (fun k hk=>by rw[hk];omega));have HC9:=Lib.hid ((HCU.out.below HBXU.out).turned HT9.out (fun k hk e=>by have h1:=own_ge HCU.out.own k hk;have h2:=HSE.out;omega) (fun c hc k hk e=>by have h1:=(HCU.out.far c hc k hk).1;have h2:=HSE.out;omega))
   have HCF:Hid (∀c∈um,Sl W9 c.v c.r.length (rowCells c.r)∧ ∀k,c.v.ownBlock=some k→S+1≤k∧k<W9.heap.size∧u10.ownBlock≠some k∧u11.ownBlock≠some k):=Lib.hid (fun c hc=>⟨HC9.out.rows c hc,fun k hk=>by
    have h1:=HC9.out.far c hc k hk;have h2:=HSE.out;exact⟨by omega,h1.2.1,fun e=>by have:=own_lt HPE.out.out.own k e;omega,fun e=>by have:=own_lt HPE.out.nos k e;omega⟩⟩)
   have HONE:Hid (∀u∈chnCells um,u.oneCell'=true):=Lib.hid (fun q hq=>by
    obtain⟨c,hc,hq⟩:=List.mem_flatMap.1 hq;exact chn_one (HC9.out.rows c hc) q hq)
   have HB8:Hid (Below W1.heap.size W1 W9):=Lib.hid (below_turned HBU.out HT9.out (fun k hk=>by rw[hk];exact HS1.out));have HS9:Hid (S+1≤W9.heap.size):=Lib.hid (Nat.le_trans HSU.out HT9.out.size);have hln:=HLN.out;have hul:=HUL.out;have hk120:k<120:=by omega
   go_wp2_with (at_builtin;refine wpList_app rfl (.tmp 55) (.tmp 56) 44 rfl (S+1) 55 2 32 Tryz.underlying44 chgI _ m.length _ rfl HP9.out.out.own _ um.length (chnCells um) rfl (Sl.of_own HC9.out.own) (catS_len um) HONE.out ?_ ?_ ?_ ?_)
   ·unfold maxLen;omega
   ·omega
   ·exact HS9.out
   ·intro v9 w9 hown9 hg9 hat9
    have hge:=own_ge HP9.out.out.own;have HPN:=Lib.hid (HP9.out.tell hown9 hg9 hat9 HCF.out)
    have HK9:Hid (Blk w9 S 31 (jA u)):=Lib.hid (by
     have e:jA u= #[.int .i64 u.l.limit,.slice F0 m0 j0,.slice F1 m1 j1,.int .i64 u.r.limit,.slice F2 m2 j2,.slice F3 m3 j3,.int .i64 u.lm,.int .i64 u.rm,.int .i64 u.seq]:=by unfold jA;rw[HUV.out.1,HUV.out.2.1,HUV.out.2.2.1,HUV.out.2.2.2]
     rw[e];exact HR9.out.grown hg9 (fun e=>by have:=hge _ e;omega))
    have HB9:Hid (Below W1.heap.size W1 w9∧S+1≤w9.heap.size):=Lib.hid ⟨below_grown HB8.out hg9 (fun i hi=>by have h1:=hge i hi;have h2:=HS1.out;omega),Nat.le_trans HS9.out hg9.size⟩;have HL9:Hid ((m++um).length≤8193*(k+1)∧no.length≤k+1):=Lib.hid ⟨by rw[List.length_append];omega,by omega⟩;clear hown9 hg9 hat9 hge;go_wp2;go_roundw
    case rel=>
     first
      |exact⟨k+1,u,m++um,no,by omega,by go_num,HK9,HPN,HPA2,HGU,HL9,HB9⟩
      |((repeat apply Exists.intro);exact⟨⟨k+1,u,m++um,no,by omega,by go_num,HK9,HPN,HPA2,HGU,HL9,HB9⟩,rfl⟩)
    case measure=>simp[intOf];omega
  ·obtain rfl:k=le.length:=by omega
   have hge: ¬(le.length:Int)<(le.length:Int):=by omega
   have HZ0:Hid (ST=(t.jn,ac m,no,0)):=Lib.hid (by
    rw[←HST.out];refine playS_run HP0.out (by rw[List.length_map];exact hmany) ?_;have h:=HPA.out;have e:le.length=(le.map Evv.ev).length:=by rw[List.length_map]
    rw[e]at h;exact h.done)
   have hkj:=HKJ.out;rw[HJA.out]at hkj;have HKRW:=Lib.hid (HKR.out.below HBW.out.1);have HBWW:Hid (Below w.heap.size w wr):=Lib.hid (below_trans HB1.out HBW.out.1);have c0:=hkj.cellR 0 rfl;have q0:=HKRW.out.free 0;have y0:=HKRW.out.cellR 0 rfl;have c1:=hkj.cellR 1 rfl;have q1:=HKRW.out.free 1;have y1:=HKRW.out.cellR 1 rfl;have c2:=hkj.cellR 2 rfl;have q2:=HKRW.out.free 2;have y2:=HKRW.out.cellR 2 rfl;have c3:=hkj.cellR 3 rfl;have q3:=HKRW.out.free 3;have y3:=HKRW.out.cellR 3 rfl;have c4:=hkj.cellR 4 rfl;have q4:=HKRW.out.free 4;have y4:=HKRW.out.cellR 4 rfl;have c5:=hkj.cellR 5 rfl;have q5:=HKRW.out.free 5;have y5:=HKRW.out.cellR 5 rfl;have c6:=hkj.cellR 6 rfl;have q6:=HKRW.out.free 6;have y6:=HKRW.out.cellR 6 rfl;have c7:=hkj.cellR 7 rfl;have q7:=HKRW.out.free 7;have y7:=HKRW.out.cellR 7 rfl;have c8:=hkj.cellR 8 rfl;have q8:=HKRW.out.free 8;have y8:=HKRW.out.cellR 8 rfl;clear hkj;go_wp2;have HR9:=Lib.hid (HKRW.out.set9 (.int .i64 t.l.limit) (.slice G0 n0 k0) (.slice G1 n1 k1) (.int .i64 t.r.limit) (.slice G2 n2 k2) (.slice G3 n3 k3) (.int .i64 t.lm) (.int .i64 t.rm) (.int .i64 t.seq));have HT9:=Lib.hid (turned_set9 wr (w.heap.size+1) (.int .i64 t.l.limit) (.slice G0 n0 k0) (.slice G1 n1 k1) (.int .i64 t.r.limit) (.slice G2 n2 k2) (.slice G3 n3 k3) (.int .i64 t.lm) (.int .i64 t.rm) (.int .i64 t.seq));have z0:=HR9.out.cellR 0 rfl;have z1:=HR9.out.cellR 1 rfl;have z2:=HR9.out.cellR 2 rfl;have z3:=HR9.out.cellR 3 rfl;have z4:=HR9.out.cellR 4 rfl;have z5:=HR9.out.cellR 5 rfl;have z6:=HR9.out.cellR 6 rfl;have z7:=HR9.out.cellR 7 rfl;have z8:=HR9.out.cellR 8 rfl;refine bodyPost_ret (v:= .tuple #[.agg #[.int .i64 t.l.limit,.slice G0 n0 k0,.slice G1 n1 k1,.int .i64 t.r.limit,.slice G2 n2 k2,.slice G3 n3 k3,.int .i64 t.lm,.int .i64 t.rm,.int .i64 t.seq],u10,u11,.int .i64 0]) (by simp[results,Tryz.results20,go_sem,z0,z1,z2,z3,z4,z5,z6,z7,z8]) rfl ?_;refine⟨t,u10,m,u11,?_,?_,?_,?_,?_⟩
   ·rw[HTA.out,HZ0.out]
   ·rw[HZ0.out]
   ·rw[HZ0.out]
   ·rw[HZ0.out]
    have hpo:=HPO.out.turned HT9.out (fun k hk=>by rw[hk];have h1:=HS1.out;have h2:=HSZ.out;omega);exact hpo.low (by have h1:=HS1.out;have h2:=HSZ.out;omega)
   ·exact below_turned HBWW.out HT9.out (fun k hk=>by rw[hk];omega)
end Go.Proofs.YtjodlngbiikgfaaGreatDoor
