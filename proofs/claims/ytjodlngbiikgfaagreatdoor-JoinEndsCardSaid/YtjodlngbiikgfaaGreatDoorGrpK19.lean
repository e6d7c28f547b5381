/-Plain law of joins: a step keeps a join right. Plain law of joins: rows stay fine; the way in which a join is looked at. Plain law of joins: what is e -/
import Derived.Test.YtjodlngbiikgfaaGreatDoorGrpK18
import Derived.Test.YtjodlngbiikgfaaGreatDoorGrpK7
import Derived.Test.YtjodlngbiikgfaaGreatDoorGrpK11
import Derived.Test.YtjodlngbiikgfaaGreatDoorGrpK5
set_option linter.unusedSimpArgs false
set_option linter.unusedVariables false
namespace Go.Proofs.YtjodlngbiikgfaaGreatDoor
open tm (fitsB fits_of)
def coreE (e:En):List UInt8×Int×Int×List Val:=(e.key,e.t,e.s,e.r)
structure Less (b b':Bu):Prop where
 good:GoodB b→GoodB b'
 limit:b'.limit=b.limit
 sub:(b'.all.map coreE).Sublist (b.all.map coreE)
theorem sift_sub (keep met:En→Bool): ∀l:List En,((l.flatMap (siftF keep met)).map coreE).Sublist (l.map coreE)
 |[]=>List.Sublist.slnil
 |e::l=>by
  rw[List.flatMap_cons,List.map_append,List.map_cons];by_cases h:keep e=true
  ·rw[show siftF keep met e=[{e with met:=met e}]from if_pos h]
   exact(sift_sub keep met l).cons_cons _
  ·rw[show siftF keep met e=[]from if_neg h]
   exact(sift_sub keep met l).cons _
theorem less_sift (b:Bu)(keep met:En→Bool):Less b (siftB b (siftF keep met)):=⟨sift_good,rfl,by rw[siftB_all];exact sift_sub _ _ _⟩
theorem Less.refl (b:Bu):Less b b:=⟨id,rfl,List.Sublist.refl _⟩
theorem Less.trans {a b c:Bu}(h:Less a b)(k:Less b c):Less a c:=⟨fun g=>k.good (h.good g),k.limit.trans h.limit,k.sub.trans h.sub⟩
theorem less_meet (b:Bu)(key:List UInt8)(t s:Int):Less b (meetB b key t s):=by rw[meetB_sift];exact less_sift _ _ _
theorem less_drop (b:Bu)(upto:Int):Less b (dropB b upto):=by rw[dropB_sift'];exact less_sift _ _ _
theorem less_touch: ∀(l:List En) (b:Bu),Less b (touchB b l)
 |[],b=>Less.refl b
 |e::l,b=>(less_meet b e.key e.t e.s).trans (less_touch l _)
theorem less_keep (b:Bu)(k:En→Bool):Less b (siftB b (keepF k)):=less_sift b k fun e=>e.met
theorem Less.mem {b b':Bu}(h:Less b b'){e:En}(he:e∈b'.all): ∃x∈b.all,coreE x=coreE e:=List.mem_map.1 (h.sub.subset (List.mem_map.2 ⟨e,he,rfl⟩))
theorem core_parts {x e:En}(h:coreE x=coreE e):x.key=e.key∧x.t=e.t∧x.s=e.s∧x.r=e.r:=by
 unfold coreE at h;injection h with h1 h2;injection h2 with h2 h3;injection h3 with h3 h4;exact⟨h1,h2,h3,h4⟩
theorem Less.fine {b b':Bu}(h:Less b b')(hf: ∀e∈b.all,FineE e): ∀e∈b'.all,FineE e:=by
 intro e he;obtain⟨x,hx,hc⟩:=h.mem he;obtain⟨h1,h2,h3,h4⟩:=core_parts hc;have:=hf x hx;exact⟨h4▸this.row,h2▸this.time,h3▸this.seq,h1▸this.key,h4▸this.len⟩
theorem entOk_core {p:Pl}{side seq:Int}{x e:En}(h:coreE x=coreE e):entOk p side seq x=entOk p side seq e:=by
 obtain⟨h1,h2,h3,h4⟩:=core_parts h;unfold entOk;rw[h1,h3,h4]
theorem entOk_mono {p:Pl}{side seq seq':Int}{e:En}(h:seq≤seq')(he:entOk p side seq e=true):entOk p side seq' e=true:=by
 unfold entOk at he⊢;simp only[Bool.and_eq_true,decide_eq_true_eq]at he⊢;exact⟨by omega,he.2⟩
theorem seqs_core (b:Bu):b.all.map (·.s)=(b.all.map coreE).map fun c=>c.2.2.1:=by rw[List.map_map];rfl
theorem Less.seqs {b b':Bu}(h:Less b b'):(b'.all.map (·.s)).Sublist (b.all.map (·.s)):=by
 rw[seqs_core,seqs_core];exact h.sub.map _
theorem GoodJ.less {p:Pl}{s s':Jn}(h:GoodJ p s)(hl:Less s.left s'.left)(hr:Less s.right s'.right)(hg:rangesJ s'=true)(hq:s.seq≤s'.seq):GoodJ p s':=
 ⟨h.plan,hl.good h.left,hr.good h.right,hg,hl.limit.trans h.ll,hr.limit.trans h.rl,
  fun e he=>by
   obtain⟨x,hx,hc⟩:=hl.mem he;rw[←entOk_core hc];exact entOk_mono hq (h.el x hx),
  fun e he=>by
   obtain⟨x,hx,hc⟩:=hr.mem he;rw[←entOk_core hc];exact entOk_mono hq (h.er x hx),
  h.seqs.sublist (hl.seqs.append hr.seqs)⟩
theorem rangesJ_of {s:Jn}(h:rangesJ s=true):(noM≤s.lm∧s.lm≤1099511627776)∧(noM≤s.rm∧s.rm≤1099511627776)∧0≤s.seq∧s.seq≤1099511627776:=by
 unfold rangesJ at h;simp only[Bool.and_eq_true]at h;exact⟨btw_of h.1,btw_of h.2.1,btw_of h.2.2⟩
theorem rangesJ_yes {s:Jn}(h1:noM≤s.lm∧s.lm≤1099511627776)(h2:noM≤s.rm∧s.rm≤1099511627776)(h3:0≤s.seq∧s.seq≤1099511627776):rangesJ s=true:=by
 unfold rangesJ;rw[btw_yes h1.1 h1.2,btw_yes h2.1 h2.2,btw_yes h3.1 h3.2];rfl
structure EvOk (p:Pl) (s:Jn) (v:Ev):Prop where
 kind:v.kind=1∨v.kind=2
 side:v.side=1∨v.side=2
 time:fitsB v.t=true
 mark:v.kind=2→v.r=[]∧s.mark v.side≤v.t
 row:v.kind=1→rowE p v.side v.r=0∧s.mark v.side<v.t∧s.seq≠1099511627776∧(s.buf v.side).all.length<4096
theorem event_ok {p:Pl}{s:Jn}{v:Ev}(h:eventE p s v=0):EvOk p s v:=by
 unfold eventE at h;by_cases h1:(btw v.kind 1 2&&btw v.side 1 2)=false
 ·rw[if_pos h1]at h;cases h
 ·rw[if_neg h1]at h
  have h1':btw v.kind 1 2=true∧btw v.side 1 2=true:=by simpa using h1
  have k1:=btw_of h1'.1;have k2:=btw_of h1'.2;by_cases h2:fitsB v.t=false
  ·rw[if_pos h2]at h;cases h
  ·rw[if_neg h2]at h
   have h2':fitsB v.t=true:=by simpa using h2
   by_cases h3:v.kind=2
   ·rw[if_pos h3]at h
    by_cases h4:v.r≠[]
    ·rw[if_pos h4]at h;cases h
    ·rw[if_neg h4]at h
     by_cases h5:v.t<s.mark v.side
     ·rw[if_pos h5]at h;cases h
     ·exact⟨.inr h3,by omega,h2',fun _=>⟨by simpa using h4,by omega⟩,fun e=>by omega⟩
   ·rw[if_neg h3]at h
    by_cases h4:rowE p v.side v.r≠0
    ·rw[if_pos h4]at h;exact absurd h h4
    ·rw[if_neg h4]at h
     by_cases h5:v.t≤s.mark v.side
     ·rw[if_pos h5]at h;cases h
     ·rw[if_neg h5]at h
      by_cases h6:s.seq=1099511627776∨4096≤(s.buf v.side).all.length
      ·rw[if_pos h6]at h;cases h
      ·exact⟨by omega,by omega,h2',fun e=>absurd e h3,fun _=>⟨by omega,by omega,by omega,by omega⟩⟩
theorem putE_new {p:Pl}{s:Jn}(h:GoodJ p s){e:En}{side:Int}(hs:side=1∨side=2)(ho:okE e=true)(hes:e.s=s.seq)(hl:(s.buf side).all.length<4096):putE (s.buf side) e=0:=by
 have hn:isE (s.buf side).all e=false:=by
  rw[isE_no];intro x hx e0
  have hq:x.s<s.seq:=by
   have:=(show entOk p side s.seq x=true by
    rcases hs with rfl|rfl
    ·exact h.el x hx
    ·exact h.er x hx)
   unfold entOk at this;simp only[Bool.and_eq_true,decide_eq_true_eq]at this;exact this.1
  have:=(cmpE_zero.1 e0).2.2;omega
 unfold putE;rw[ho,hn,if_neg (by simp),if_neg (by simp),if_neg (by omega)]
theorem GoodJ.put {p:Pl}{s:Jn}(h:GoodJ p s){e:En}{side:Int}(hs:side=1∨side=2)(ho:okE e=true)(he:entOk p side (s.seq+1) e=true)(hes:e.s=s.seq)(hl:(s.buf side).all.length<4096)(hq:s.seq≠1099511627776):
 GoodJ p (Jn.put ⟨s.left,s.right,s.lm,s.rm,s.seq+1⟩ side (putB (s.buf side) e)):=by
 have hp:=putE_new h hs ho hes hl;obtain⟨r1,r2,r3⟩:=rangesJ_of h.ranges
 have hseq: ∀x∈s.left.all++s.right.all,x.s<s.seq:=by
  intro x hx;rcases List.mem_append.1 hx with hx|hx
  ·have:=h.el x hx
   unfold entOk at this;simp only[Bool.and_eq_true,decide_eq_true_eq]at this;exact this.1
  ·have:=h.er x hx
   unfold entOk at this;simp only[Bool.and_eq_true,decide_eq_true_eq]at this;exact this.1
 have hnew:(s.seq::seqsJ s).Nodup:=by
  refine List.nodup_cons.2 ⟨fun hm=> ?_,h.seqs⟩;unfold seqsJ at hm;rw[←List.map_append]at hm;obtain⟨x,hx,e0⟩:=List.mem_map.1 hm;have:=hseq x hx;omega
 rcases hs with rfl|rfl
 ·have hg:=put_good h.left hp
  have hpm:=putB_perm s.left e;refine⟨h.plan,hg,h.right,rangesJ_yes r1 r2 ⟨by show 0≤s.seq+1;omega,by show s.seq+1≤_;omega⟩,(putB_limit _ _).trans h.ll,h.rl,fun x hx=> ?_,fun x hx=>entOk_mono (by show s.seq≤s.seq+1;omega) (h.er x hx),?_⟩
  ·rcases List.mem_cons.1 (hpm.subset hx)with rfl|hx
   ·exact he
   ·exact entOk_mono (by show s.seq≤s.seq+1;omega) (h.el x hx)
  ·have h1:(seqsJ (Jn.put ⟨s.left,s.right,s.lm,s.rm,s.seq+1⟩ 1 (putB (s.buf 1) e))).Perm (s.seq::seqsJ s):=by
    unfold seqsJ;have:=(hpm.map (·.s)).append_right (s.right.all.map (·.s));rw[List.map_cons,hes]at this;exact this
   exact h1.nodup_iff.2 hnew
 ·have hg:=put_good h.right hp
  have hpm:=putB_perm s.right e;refine⟨h.plan,h.left,hg,rangesJ_yes r1 r2 ⟨by show 0≤s.seq+1;omega,by show s.seq+1≤_;omega⟩,h.ll,(putB_limit _ _).trans h.rl,fun x hx=>entOk_mono (by show s.seq≤s.seq+1;omega) (h.el x hx),fun x hx=> ?_,?_⟩
  ·rcases List.mem_cons.1 (hpm.subset hx)with rfl|hx
   ·exact he
   ·exact entOk_mono (by show s.seq≤s.seq+1;omega) (h.er x hx)
  ·have h1:(seqsJ (Jn.put ⟨s.left,s.right,s.lm,s.rm,s.seq+1⟩ 2 (putB (s.buf 2) e))).Perm (s.seq::seqsJ s):=by
    unfold seqsJ;have:=(hpm.map (·.s)).append_left (s.left.all.map (·.s));rw[List.map_cons,hes]at this;exact this.trans List.perm_middle
   exact h1.nodup_iff.2 hnew
theorem key_new {p:Pl}{side:Int}{r:List Val}(hk:(keyFor p side r).2=true):(keyFor p side r).1=str (keyRow ((colsT p side).map (pickV r))):=by
 unfold keyFor at hk⊢;split at hk
 ·rename_i h;rw[if_pos h]
 ·cases hk
theorem picks_good {p:Pl}{side:Int}{r:List Val}(hz:checkP p=0)(hr:rowE p side r=0)(hf:Fine r):GoodR ((colsT p side).map (pickV r)):=by
 have hF:=rowE_fine hz hr;obtain⟨h1,h2⟩:=picked_fine hF hf;have h4:=hF.few;have h8:((colsT p side).map (pickV r)).length≤8:=by rw[List.length_map];omega
 rw[keyErr_few h8]at h2;exact⟨fun x hx=>⟨firstNZ_all h2 x hx,h1.nums x hx⟩,h8⟩
theorem ok_new {p:Pl}{side t s:Int}{r:List Val}{m:Bool}(hz:checkP p=0)(hr:rowE p side r=0)(hf:Fine r)(hk:(keyFor p side r).2=true)(ht:fitsB t=true)(h0:0≤s)(h1:s≤1099511627776):okE ⟨(keyFor p side r).1.toList,t,s,r,m⟩=true:=by
 have hF:=rowE_fine hz hr;have hG:=picks_good hz hr hf
 have hb:backR (keyFor p side r).1.toList=((colsT p side).map (pickV r),0):=by
  rw[key_new hk,str_toList];exact backR_yes (dec_make _ 8 hG.few fun x hx=>hG.good x hx)
 have ht':=fits_of ht;unfold okE;simp only[hb];rw[keyErr_okP (by have:=hF.len;omega) hF.good,inB_yes ht'.1 ht'.2,inB_yes h0 h1];rfl
theorem entOk_new {p:Pl}{side t s seq:Int}{r:List Val}{m:Bool}(hr:rowE p side r=0)(hk:(keyFor p side r).2=true)(h:s<seq):entOk p side seq ⟨(keyFor p side r).1.toList,t,s,r,m⟩=true:=by
 unfold entOk;simp[hr,hk,h]
theorem fine_new {p:Pl}{side t s:Int}{r:List Val}{m:Bool}(hz:checkP p=0)(hr:rowE p side r=0)(hf:Fine r)(hk:(keyFor p side r).2=true)(ht:fitsB t=true)(h0:0≤s)(h1:s≤1099511627776):FineE ⟨(keyFor p side r).1.toList,t,s,r,m⟩:=by
 have hF:=rowE_fine hz hr;have hs:=keyRow_short (picks_good hz hr hf);have ht':=fits_of ht;have h4:=hF.len;refine⟨hf,⟨by show-9223372036854775808≤t;omega,by show t≤_;omega⟩,⟨by show-9223372036854775808≤s;omega,by show s≤_;omega⟩,?_,by show r.length≤_;omega⟩;show(keyFor p side r).1.toList.length≤_;rw[key_new hk,str_toList];omega
theorem less_put {s:Jn}{F:Int}{b:Bu}(h:Less (s.buf F) b):Less s.left (s.put F b).left∧Less s.right (s.put F b).right:=by
 unfold Jn.buf at h;unfold Jn.put;split
 ·rw[if_pos (by assumption)]at h;exact⟨Less.refl _,h⟩
 ·rw[if_neg (by assumption)]at h;exact⟨h,Less.refl _⟩
theorem put_marksJ (s:Jn)(F:Int)(b:Bu):(s.put F b).lm=s.lm∧(s.put F b).rm=s.rm∧(s.put F b).seq=s.seq:=by unfold Jn.put;split<;>exact⟨rfl,rfl,rfl⟩
theorem far_sides {side:Int}(h:side=1∨side=2):farS side=1∨farS side=2:=by unfold farS;omega
def touchedJ (p:Pl) (s:Jn) (v:Ev):Jn:=
 ⟨(s.put (farS v.side) (touchB (s.buf (farS v.side)) (bringJ p s v).2.1)).left,(s.put (farS v.side) (touchB (s.buf (farS v.side)) (bringJ p s v).2.1)).right,s.lm,s.rm,s.seq+1⟩
theorem rowJ_is (p:Pl)(s:Jn)(v:Ev):rowJ p s v=(if(keyFor p v.side v.r).2=false∨(s.mark (farS v.side)≠noM∧v.t≤goneF p v.side (s.mark (farS v.side)))then touchedJ p s v
 else(touchedJ p s v).put v.side (putB ((touchedJ p s v).buf v.side) ⟨(keyFor p v.side v.r).1.toList,v.t,s.seq,v.r,(bringJ p s v).2.2⟩),(bringJ p s v).1):=by
 unfold rowJ touchedJ;have:=put_marksJ s (farS v.side) (touchB (s.buf (farS v.side)) (bringJ p s v).2.1);simp only[this.1,this.2.1,this.2.2]
theorem touched_own {p:Pl}{s:Jn}{v:Ev}(h:v.side=1∨v.side=2):(touchedJ p s v).buf v.side=s.buf v.side:=by
 unfold touchedJ Jn.buf Jn.put farS;rcases h with h|h<;>rw[h]<;>rfl
theorem row_goodJ {p:Pl}{s:Jn}{v:Ev}(h:GoodJ p s)(hf:Fine v.r)(hv:EvOk p s v)(hk:v.kind=1):GoodJ p (rowJ p s v).1:=by
 obtain⟨h1,h2,h3,h4⟩:=hv.row hk;obtain⟨r1,r2,r3⟩:=rangesJ_of h.ranges;have hl:=less_put (less_touch (bringJ p s v).2.1 (s.buf (farS v.side)));have hT:GoodJ p (touchedJ p s v):=h.less (s':=touchedJ p s v) hl.1 hl.2 (rangesJ_yes r1 r2 ⟨by show 0≤s.seq+1;omega,by show s.seq+1≤_;omega⟩) (by show s.seq≤s.seq+1;omega);have hT0:GoodJ p ⟨(touchedJ p s v).left,(touchedJ p s v).right,s.lm,s.rm,s.seq⟩:=h.less (s':=⟨(touchedJ p s v).left,(touchedJ p s v).right,s.lm,s.rm,s.seq⟩) hl.1 hl.2 (rangesJ_yes r1 r2 r3) (Int.le_refl _);rw[rowJ_is];by_cases hc:(keyFor p v.side v.r).2=false∨(s.mark (farS v.side)≠noM∧v.t≤goneF p v.side (s.mark (farS v.side)))
 ·simp only[if_pos hc];exact hT
 ·simp only[if_neg hc]
  have hk2:(keyFor p v.side v.r).2=true:=by
   have: ¬(keyFor p v.side v.r).2=false:=fun e=>hc (.inl e);simpa using this
  refine hT0.put hv.side (ok_new h.plan h1 hf hk2 hv.time r3.1 r3.2) (entOk_new h1 hk2 (by show s.seq<s.seq+1;omega)) rfl ?_ h3;have e0:(Jn.buf ⟨(touchedJ p s v).left,(touchedJ p s v).right,s.lm,s.rm,s.seq⟩ v.side)=(touchedJ p s v).buf v.side:=by unfold Jn.buf;rfl
  rw[e0,touched_own hv.side];exact h4
theorem less_dropJ (p:Pl)(s:Jn):Less s.left (dropJ p s).left∧Less s.right (dropJ p s).right:=by
 unfold dropJ;constructor
 ·show Less s.left (if s.rm=noM then s.left else dropB s.left (goneF p 1 s.rm))
  split
  ·exact Less.refl _
  ·exact less_drop _ _
 ·show Less s.right (if s.lm=noM then s.right else dropB s.right (goneF p 2 s.lm))
  split
  ·exact Less.refl _
  ·exact less_drop _ _
def markedJ (s:Jn) (v:Ev):Jn:=if v.side=2 then⟨s.left,s.right,s.lm,v.t,s.seq⟩else⟨s.left,s.right,v.t,s.rm,s.seq⟩
theorem mark_goodJ {p:Pl}{s:Jn}{v:Ev}(h:GoodJ p s)(hv:EvOk p s v):GoodJ p (markJ p s v):=by
 obtain⟨r1,r2,r3⟩:=rangesJ_of h.ranges;have ht:=fits_of hv.time
 have hM:GoodJ p (markedJ s v):=by
  unfold markedJ;split
  ·exact h.less (s':=⟨s.left,s.right,s.lm,v.t,s.seq⟩) (Less.refl _) (Less.refl _) (rangesJ_yes r1 ⟨by show noM≤v.t;unfold noM;omega,ht.2⟩ r3) (Int.le_refl _)
  ·exact h.less (s':=⟨s.left,s.right,v.t,s.rm,s.seq⟩) (Less.refl _) (Less.refl _) (rangesJ_yes ⟨by show noM≤v.t;unfold noM;omega,ht.2⟩ r2 r3) (Int.le_refl _)
 have hD:GoodJ p (dropJ p (markedJ s v)):=hM.less (less_dropJ p _).1 (less_dropJ p _).2 hM.ranges (Int.le_refl _);show GoodJ p (if p.kind=3∧(dropJ p (markedJ s v)).lm≠noM∧(dropJ p (markedJ s v)).rm≠noM then _ else _);split
 ·exact hD.less (Less.refl _) (less_keep _ _) hD.ranges (Int.le_refl _)
 ·exact hD
theorem step_goodJ {p:Pl}{s:Jn}{v:Ev}(hf:Fine v.r)(h0:(stepJ p s v).2.2=0):GoodJ p (stepJ p s v).1:=by
 unfold stepJ at h0⊢;by_cases h1:checkJ p s=0
 ·rw[if_neg (fun h=>h h1)]at h0⊢
  by_cases h2:eventE p s v=0
  ·rw[if_neg (fun h=>h h2)]at h0⊢
   have hG:=check_zeroJ.1 h1;have hv:=event_ok h2;by_cases h3:v.kind=2
   ·rw[if_pos h3];exact mark_goodJ hG hv
   ·rw[if_neg h3];exact row_goodJ hG hf hv (by have:=hv.kind;omega)
  ·rw[if_pos h2]at h0;exact absurd h0 h2
 ·rw[if_pos h1]at h0;exact absurd h0 h1
end Go.Proofs.YtjodlngbiikgfaaGreatDoor
namespace Go.Proofs.YtjodlngbiikgfaaGreatDoor
structure FineJ (s:Jn):Prop where
 l: ∀e∈s.left.all,FineE e
 r: ∀e∈s.right.all,FineE e
theorem FineJ.less {s s':Jn}(h:FineJ s)(hl:Less s.left s'.left)(hr:Less s.right s'.right):FineJ s':=⟨hl.fine h.l,hr.fine h.r⟩
theorem put_fineE {b:Bu}{x:En}(h: ∀e∈b.all,FineE e)(hx:FineE x): ∀e∈(putB b x).all,FineE e:=by
 intro e he;rcases List.mem_cons.1 ((putB_perm b x).mem_iff.1 he)with rfl|h2
 ·exact hx
 ·exact h e h2
theorem FineJ.put {s:Jn}(h:FineJ s){F:Int}{b:Bu}(hb: ∀e∈b.all,FineE e):FineJ (s.put F b):=by
 unfold Jn.put;split
 ·exact⟨h.l,hb⟩
 ·exact⟨hb,h.r⟩
theorem FineJ.buf {s:Jn}(h:FineJ s)(F:Int): ∀e∈(s.buf F).all,FineE e:=by
 unfold Jn.buf;split
 ·exact h.r
 ·exact h.l
theorem row_fineJ {p:Pl}{s:Jn}{v:Ev}(h:GoodJ p s)(hF:FineJ s)(hf:Fine v.r)(hv:EvOk p s v)(hk:v.kind=1):FineJ (rowJ p s v).1:=by
 obtain⟨h1,h2,h3,h4⟩:=hv.row hk;obtain⟨r1,r2,r3⟩:=rangesJ_of h.ranges;have hl:=less_put (less_touch (bringJ p s v).2.1 (s.buf (farS v.side)));have hT:FineJ (touchedJ p s v):=hF.less (s':=touchedJ p s v) hl.1 hl.2;rw[rowJ_is];by_cases hc:(keyFor p v.side v.r).2=false∨(s.mark (farS v.side)≠noM∧v.t≤goneF p v.side (s.mark (farS v.side)))
 ·simp only[if_pos hc];exact hT
 ·simp only[if_neg hc]
  have hk2:(keyFor p v.side v.r).2=true:=by
   have: ¬(keyFor p v.side v.r).2=false:=fun e=>hc (.inl e);simpa using this
  exact hT.put (put_fineE (hT.buf _) (fine_new h.plan h1 hf hk2 hv.time r3.1 r3.2))
theorem mark_fineJ {p:Pl}{s:Jn}{v:Ev}(hF:FineJ s):FineJ (markJ p s v):=by
 have hM:FineJ (markedJ s v):=by unfold markedJ;split<;>exact⟨hF.l,hF.r⟩
 have hD:FineJ (dropJ p (markedJ s v)):=hM.less (less_dropJ p _).1 (less_dropJ p _).2;show FineJ (if p.kind=3∧(dropJ p (markedJ s v)).lm≠noM∧(dropJ p (markedJ s v)).rm≠noM then _ else _);split
 ·exact hD.less (Less.refl _) (less_keep _ _)
 ·exact hD
theorem step_fineJ {p:Pl}{s:Jn}{v:Ev}(hF:FineJ s)(hf:Fine v.r)(h0:(stepJ p s v).2.2=0):FineJ (stepJ p s v).1:=by
 unfold stepJ at h0⊢;by_cases h1:checkJ p s=0
 ·rw[if_neg (fun h=>h h1)]at h0⊢
  by_cases h2:eventE p s v=0
  ·rw[if_neg (fun h=>h h2)]at h0⊢
   have hG:=check_zeroJ.1 h1;have hv:=event_ok h2;by_cases h3:v.kind=2
   ·rw[if_pos h3];exact mark_fineJ hF
   ·rw[if_neg h3];exact row_fineJ hG hF hf hv (by have:=hv.kind;omega)
  ·rw[if_pos h2]at h0;exact absurd h0 h2
 ·rw[if_pos h1]at h0;exact absurd h0 h1
theorem jchk_bad {p:Pl}{s:Jn}(h1:checkP p=0)(h2:checkB s.left=0)(h3:checkB s.right=0)(h4:rangesJ s=true)(h: ¬GoodJ p s):checkJ p s=1:=by
 have h0: ¬checkJ p s=0:=fun e=>h (check_zeroJ.1 e);unfold checkJ at h0⊢;rw[if_neg (fun e=>e h1),if_neg (fun e=>e h2),if_neg (fun e=>e h3),if_neg (by rw[h4];simp)]at h0⊢;by_cases h5:s.left.limit≠p.limit∨s.right.limit≠p.limit
 ·rw[if_pos h5]
 ·rw[if_neg h5]at h0⊢
  by_cases h6:sidesB p s=true
  ·rw[if_pos h6]at h0;exact absurd rfl h0
  ·rw[if_neg h6]
theorem chk_ranges {p:Pl}{s:Jn}(h1:checkP p=0)(h2:checkB s.left=0)(h3:checkB s.right=0)(h4:rangesJ s=false):checkJ p s=3:=by
 unfold checkJ;rw[if_neg (fun e=>e h1),if_neg (fun e=>e h2),if_neg (fun e=>e h3),if_pos h4]
theorem chk_right {p:Pl}{s:Jn}(h1:checkP p=0)(h2:checkB s.left=0)(h3: ¬checkB s.right=0):checkJ p s=checkB s.right:=by
 unfold checkJ;rw[if_neg (fun e=>e h1),if_neg (fun e=>e h2),if_pos h3]
theorem chk_left {p:Pl}{s:Jn}(h1:checkP p=0)(h2: ¬checkB s.left=0):checkJ p s=checkB s.left:=by
 unfold checkJ;rw[if_neg (fun e=>e h1),if_pos h2]
theorem chk_plan {p:Pl}{s:Jn}(h1: ¬checkP p=0):checkJ p s=checkP p:=by
 unfold checkJ;rw[if_pos h1]
def sideN (s:Jn) (d:Int):List Int:=(s.buf d).all.map (·.s)
structure Chk (p:Pl) (s:Jn) (left:Int→Bool) (S:List Int):Prop where
 ok: ∀d,d=1∨d=2→left d=false→(s.buf d).limit=p.limit∧ ∀e∈(s.buf d).all,entOk p d s.seq e=true
 nd:S.Nodup
 pm:S.Perm ((if left 1=true then[]else sideN s 1)++(if left 2=true then[]else sideN s 2))
theorem Chk.start {p:Pl}{s:Jn}{left:Int→Bool}(h1:left 1=true)(h2:left 2=true):Chk p s left []:=
 ⟨fun d hd h=>by rcases hd with rfl|rfl<;>simp[h1,h2]at h,List.nodup_nil,by rw[if_pos h1,if_pos h2];exact List.Perm.refl _⟩
theorem Chk.done {p:Pl}{s:Jn}{left:Int→Bool}{S:List Int}(h:Chk p s left S)(hl: ∀d,left d=false)(h1:checkP p=0)(h2:checkB s.left=0)(h3:checkB s.right=0)(h4:rangesJ s=true):checkJ p s=0:=by
 refine check_zeroJ.2 ⟨h1,check_zeroB.1 h2,check_zeroB.1 h3,h4,(h.ok 1 (.inl rfl) (hl 1)).1,(h.ok 2 (.inr rfl) (hl 2)).1,(h.ok 1 (.inl rfl) (hl 1)).2,(h.ok 2 (.inr rfl) (hl 2)).2,?_⟩;have hp:=h.pm;rw[if_neg (by rw[hl];simp),if_neg (by rw[hl];simp)]at hp;exact hp.nodup_iff.1 h.nd
theorem Chk.sub {p:Pl}{s:Jn}{left:Int→Bool}{S:List Int}(h:Chk p s left S){d:Int}(hd:d=1∨d=2)(hl:left d=true)(hG:GoodJ p s):(S++sideN s d).Nodup:=by
 have hn:(sideN s 1++sideN s 2).Nodup:=hG.seqs;rw[(h.pm.append_right _).nodup_iff];rcases hd with rfl|rfl
 ·rw[if_pos hl,List.nil_append]
  refine List.Nodup.sublist ?_ ((List.perm_append_comm).nodup_iff.1 hn);refine List.Sublist.append ?_ (List.Sublist.refl _);split
  ·exact List.nil_sublist _
  ·exact List.Sublist.refl _
 ·rw[if_pos hl,List.append_nil]
  refine List.Nodup.sublist ?_ hn;refine List.Sublist.append ?_ (List.Sublist.refl _);split
  ·exact List.nil_sublist _
  ·exact List.Sublist.refl _
theorem Chk.next {p:Pl}{s:Jn}{left left':Int→Bool}{S:List Int}(h:Chk p s left S){d:Int}(hd:d=1∨d=2)(hl:left d=true)(hl': ∀x,left' x=(left x&& !(x==d)))(hlim:(s.buf d).limit=p.limit){L:List En}(hL:L.Perm (s.buf d).all)(hok: ∀e∈L,entOk p d s.seq e=true)(hn:(S++L.map (·.s)).Nodup):
 Chk p s left' (S++L.map (·.s)):=by
 refine⟨fun x hx hf=> ?_,hn,?_⟩
 ·rw[hl']at hf
  by_cases e:x=d
  ·rw[e];exact⟨hlim,fun y hy=>hok y (hL.mem_iff.2 hy)⟩
  ·exact h.ok x hx (by simpa[e]using hf)
 ·have hm:(L.map (·.s)).Perm (sideN s d):=hL.map _
  refine(h.pm.append hm).trans ?_;rcases hd with rfl|rfl
  ·have a1:left' 1=false:=by rw[hl'];simp
   have a2:left' 2=left 2:=by rw[hl',show((2:Int)==1)=false from rfl,Bool.not_false,Bool.and_true]
   rw[if_pos hl,a1,a2,if_neg (c:=(false=true)) (by simp),List.nil_append];exact List.perm_append_comm
  ·have a1:left' 1=left 1:=by rw[hl',show((1:Int)==2)=false from rfl,Bool.not_false,Bool.and_true]
   have a2:left' 2=false:=by rw[hl'];simp
   rw[if_pos hl,a1,a2,if_neg (c:=(false=true)) (by simp),List.append_nil]
theorem bad_limit {p:Pl}{s:Jn}{d:Int}(hd:d=1∨d=2)(h: ¬(s.buf d).limit=p.limit): ¬GoodJ p s:=by
 intro hG;rcases hd with rfl|rfl
 ·exact h hG.ll
 ·exact h hG.rl
theorem bad_ent {p:Pl}{s:Jn}{d:Int}(hd:d=1∨d=2){e:En}(he:e∈(s.buf d).all)(h: ¬entOk p d s.seq e=true): ¬GoodJ p s:=by
 intro hG;rcases hd with rfl|rfl
 ·exact h (hG.el e he)
 ·exact h (hG.er e he)
theorem bad_seq {p:Pl}{s:Jn}{left:Int→Bool}{S:List Int}(h:Chk p s left S){d:Int}(hd:d=1∨d=2)(hl:left d=true){L:List En}(hL:L.Perm (s.buf d).all){k:Nat}{e:En}(hk:L[k]?=some e)(hm:e.s∈S++(L.take k).map (·.s)): ¬GoodJ p s:=by
 intro hG;have h1:(S++(s.buf d).all.map (·.s)).Nodup:=h.sub hd hl hG;rw[(((hL.map (·.s)).symm).append_left S).nodup_iff]at h1
 have h2:L=L.take k++e::L.drop (k+1):=by
  obtain⟨hlt,rfl⟩:=List.getElem?_eq_some_iff.1 hk;rw[←List.drop_eq_getElem_cons hlt,List.take_append_drop]
 rw[h2,List.map_append,List.map_cons,←List.append_assoc]at h1;have h3:=List.nodup_append.1 h1;exact h3.2.2 _ hm _ (List.mem_cons_self) rfl
end Go.Proofs.YtjodlngbiikgfaaGreatDoor
namespace Go.Proofs.YtjodlngbiikgfaaGreatDoor
theorem nullsR_len (n:Nat):(nullsR n).length=n:=List.length_replicate ..
def onlyAt (p:Pl) (c:Cg) (d:Option Cg):Prop:=
 c.2.length=p.left.length+p.right.length∧c.1≠2∧(c.1=3→(p.mode=1→p.kind=3)∧
  if p.kind=3 then ∃y,d=some y∧y.2.length=p.left.length+p.right.length∧y.2.take p.left.length=c.2.take p.left.length else c.2.take p.left.length=nullsR p.left.length∨c.2.drop p.left.length=nullsR p.right.length)
def OnlyC (p:Pl) (l:List Cg):Prop:= ∀i c,l[i]?=some c→onlyAt p c l[i+1]?
theorem onlyAt_more {p:Pl}{c:Cg}{d:Option Cg}(h:onlyAt p c d)(e:Option Cg)(he: ∀y,d=some y→e=some y):onlyAt p c e:=by
 refine⟨h.1,h.2.1,fun h3=>⟨(h.2.2 h3).1,?_⟩⟩;have h4:=(h.2.2 h3).2;split at h4
 ·rename_i hk
  rw[if_pos hk];obtain⟨y,h5,h6⟩:=h4;exact⟨y,he y h5,h6⟩
 ·rename_i hk
  rw[if_neg hk];exact h4
theorem OnlyC.nil (p:Pl):OnlyC p []:=fun i c h=>by simp at h
theorem OnlyC.app {p:Pl}{a b:List Cg}(ha:OnlyC p a)(hb:OnlyC p b):OnlyC p (a++b):=by
 intro i c h;by_cases hi:i<a.length
 ·rw[List.getElem?_append_left hi]at h
  refine onlyAt_more (ha i c h) _ fun y hy=> ?_;have:i+1<a.length:=(List.getElem?_eq_some_iff.1 hy).1;rw[List.getElem?_append_left this];exact hy
 ·rw[List.getElem?_append_right (by omega)]at h
  have:=hb (i-a.length) c h;rw[List.getElem?_append_right (by omega),show i+1-a.length=i-a.length+1 from by omega];exact this
theorem OnlyC.flat {p:Pl}{α:Type}{f:α→List Cg}: ∀ {l:List α},(∀x∈l,OnlyC p (f x))→OnlyC p (l.flatMap f)
 |[],_=>OnlyC.nil p
 |x::l,h=>by
  rw[List.flatMap_cons];exact(h x (by simp)).app (OnlyC.flat fun y hy=>h y (by simp[hy]))
theorem OnlyC.one {p:Pl}{r:List Val}(h:r.length=p.left.length+p.right.length):OnlyC p [(1,r)]:=by
 intro i c hc;cases i with
 |zero=>
  injection hc with hc;subst hc;exact⟨h,(show(1:Int)≠2 by decide),fun e=>absurd e (show ¬(1:Int)=3 by decide)⟩
 |succ i=>simp at hc
theorem OnlyC.two {p:Pl}{r q:List Val}(h:r.length=p.left.length+p.right.length)(hq:q.length=p.left.length+p.right.length)(hm:p.mode=1→p.kind=3)
 (ht:if p.kind=3 then q.take p.left.length=r.take p.left.length else r.take p.left.length=nullsR p.left.length∨r.drop p.left.length=nullsR p.right.length):OnlyC p [(3,r),(4,q)]:=by
 intro i c hc;cases i with
 |zero=>
  injection hc with hc;subst hc;refine⟨h,(show(3:Int)≠2 by decide),fun _=>⟨hm,?_⟩⟩;split
  ·rename_i hk
   rw[if_pos hk]at ht;exact⟨(4,q),rfl,hq,ht⟩
  ·rename_i hk
   rw[if_neg hk]at ht;exact ht
 |succ i=>
  cases i with
  |zero=>
   injection hc with hc;subst hc;exact⟨hq,(show(4:Int)≠2 by decide),fun e=>absurd e (show ¬(4:Int)=3 by decide)⟩
  |succ i=>simp at hc
theorem keeps_mode {p:Pl}{side:Int}(h:keepsB p side=true):p.mode≠1:=by
 intro e;unfold keepsB at h;rw[e]at h;split at h<;>cases h
theorem rowE_len {p:Pl}{side:Int}{r:List Val}(h:rowE p side r=0):r.length=(sideT p side).length:=by
 unfold rowE at h;by_cases h1:side=1∨side=2
 ·rw[if_pos h1]at h
  by_cases h2:r.length=(sideT p side).length
  ·exact h2
  ·rw[if_neg h2]at h;cases h
 ·rw[if_neg h1]at h;cases h
theorem entOk_row {p:Pl}{side seq:Int}{e:En}(h:entOk p side seq e=true):e.s<seq∧rowE p side e.r=0∧(keyFor p side e.r).2=true∧(keyFor p side e.r).1.toList=e.key:=by
 unfold entOk at h;simpa using h
theorem GoodJ.ent {p:Pl}{s:Jn}(h:GoodJ p s){F:Int}(hF:F=1∨F=2){e:En}(he:e∈(s.buf F).all):entOk p F s.seq e=true:=by
 rcases hF with rfl|rfl
 ·exact h.el e he
 ·exact h.er e he
theorem GoodJ.buf {p:Pl}{s:Jn}(h:GoodJ p s)(F:Int):GoodB (s.buf F):=by
 unfold Jn.buf;split
 ·exact h.right
 ·exact h.left
theorem metS_mem {p:Pl}{s:Jn}{v:Ev}(h:GoodJ p s){e:En}(he:e∈metS p s v):e∈(s.buf (farS v.side)).all:=by
 unfold metS at he;split at he
 ·exact scan_mem (h.buf _) he
 ·cases he
theorem metV_mem {p:Pl}{s:Jn}{v:Ev}(h:GoodJ p s){e:En}(he:e∈metV p s v):e∈s.left.all:=by
 unfold metV at he;split at he
 ·exact scan_mem h.left (List.mem_filter.1 he).1
 ·cases he
theorem latest_mem {b:Bu}(h:GoodB b){key:List UInt8}{t:Int}{m:En}(hm:latestB b key t=some m):m∈b.all:=by
 unfold latestB at hm;exact scan_mem h (List.mem_of_getLast? hm)
theorem joinedR_len {p:Pl}{side:Int}(hs:side=1∨side=2){a b:List Val}(ha:a.length=(sideT p side).length)(hb:b.length=(sideT p (farS side)).length):(joinedR side a b).length=p.left.length+p.right.length:=by
 rcases hs with rfl|rfl
 ·rw[show joinedR 1 a b=a++b from rfl,List.length_append,ha,hb,side_one,show farS 1=2 from rfl,side_two]
 ·rw[show joinedR 2 a b=b++a from rfl,List.length_append,ha,hb,side_two,show farS 2=1 from rfl,side_one]
theorem colsN_is (p:Pl)(side:Int):colsN p side=(sideT p side).length:=by unfold colsN sideT;split<;>rfl
theorem tellS_only {p:Pl}{v:Ev}{e:En}(hk:p.kind≠3)(hs:v.side=1∨v.side=2)(hv:rowE p v.side v.r=0)(he:rowE p (farS v.side) e.r=0):OnlyC p (tellS p v e):=by
 have h1:=rowE_len hv;have h2:=rowE_len he;unfold tellS;split
 ·rename_i hc
  have hm:p.mode≠1:=by
   simp only[Bool.and_eq_true]at hc;exact keeps_mode hc.1
  refine OnlyC.two (joinedR_len hs (by rw[nullsR_len,colsN_is]) h2) (joinedR_len hs h1 h2) (fun e=>absurd e hm) ?_;rw[if_neg hk];rcases hs with hs|hs
  ·rw[hs]
   left;rw[show joinedR 1 (nullsR (colsN p 1)) e.r=nullsR p.left.length++e.r from rfl,List.take_left' (nullsR_len _)]
  ·rw[hs]at h2⊢
   right;rw[show farS 2=1 from rfl,side_one]at h2;rw[show joinedR 2 (nullsR (colsN p 2)) e.r=e.r++nullsR p.right.length from rfl,List.drop_left' h2]
 ·exact OnlyC.one (joinedR_len hs h1 h2)
theorem aloneS_only {p:Pl}{v:Ev}(hs:v.side=1∨v.side=2)(hv:rowE p v.side v.r=0):OnlyC p (aloneS p v):=by
 have h1:=rowE_len hv;unfold aloneS;split
 ·exact OnlyC.one (joinedR_len hs h1 (by rw[nullsR_len,colsN_is]))
 ·exact OnlyC.nil p
theorem len_LR {p:Pl}{a b:List Val}(ha:a.length=p.left.length)(hb:b.length=p.right.length):(a++b).length=p.left.length+p.right.length:=by rw[List.length_append,ha,hb]
theorem bring_only {p:Pl}{s:Jn}{v:Ev}(h:GoodJ p s)(hv:EvOk p s v)(hk:v.kind=1):OnlyC p (bringJ p s v).1:=by
 have hr:=(hv.row hk).1;have hl:=rowE_len hr;unfold bringJ;by_cases h3:p.kind=3
 ·rw[if_pos h3]
  by_cases h2:v.side=2
  ·rw[if_pos h2]
   rw[h2,side_two]at hl;refine OnlyC.flat fun e he=> ?_
   have hel:e.r.length=p.left.length:=by
    have:=rowE_len (entOk_row (h.el e (metV_mem h he))).2.1;rwa[side_one]at this
   unfold tellV;split
   ·rename_i m hm
    have hml:m.r.length=p.right.length:=by
     have:=rowE_len (entOk_row (h.er m (latest_mem h.right hm))).2.1;rwa[side_two]at this
    refine OnlyC.two (len_LR hel hml) (len_LR hel hl) (fun _=>h3) ?_;rw[if_pos h3,List.take_left' hel,List.take_left' hel]
   ·split
    ·refine OnlyC.two (len_LR hel (nullsR_len _)) (len_LR hel hl) (fun _=>h3) ?_
     rw[if_pos h3,List.take_left' hel,List.take_left' hel]
    ·exact OnlyC.one (len_LR hel hl)
  ·rw[if_neg h2]
   have h1:v.side=1:=by have:=hv.side;omega
   rw[h1,side_one]at hl;split
   ·rename_i m hm
    have hm':latestB s.right (keyFor p v.side v.r).1.toList v.t=some m:=by
     split at hm
     ·exact hm
     ·cases hm
    have hml:m.r.length=p.right.length:=by
     have:=rowE_len (entOk_row (h.er m (latest_mem h.right hm'))).2.1;rwa[side_two]at this
    exact OnlyC.one (len_LR hl hml)
   ·show OnlyC p (if keepsB p 1=true then[(1,v.r++nullsR p.right.length)]else[])
    split
    ·exact OnlyC.one (len_LR hl (nullsR_len _))
    ·exact OnlyC.nil p
 ·rw[if_neg h3]
  show OnlyC p (if(metS p s v).isEmpty=true then aloneS p v else(metS p s v).flatMap (tellS p v));split
  ·exact aloneS_only hv.side hr
  ·exact OnlyC.flat fun e he=>tellS_only h3 hv.side hr (entOk_row (h.ent (far_sides hv.side) (metS_mem h he))).2.1
theorem step_only {p:Pl}{s:Jn}{v:Ev}:OnlyC p (stepJ p s v).2.1:=by
 unfold stepJ;by_cases h1:checkJ p s=0
 ·rw[if_neg (fun h=>h h1)]
  by_cases h2:eventE p s v=0
  ·rw[if_neg (fun h=>h h2)]
   have hG:=check_zeroJ.1 h1;have hv:=event_ok h2;by_cases h3:v.kind=2
   ·rw[if_pos h3];exact OnlyC.nil p
   ·rw[if_neg h3]
    show OnlyC p (rowJ p s v).2;rw[rowJ_is];exact bring_only hG hv (by have:=hv.kind;omega)
  ·rw[if_pos h2];exact OnlyC.nil p
 ·rw[if_pos h1];exact OnlyC.nil p
theorem play_only (p:Pl): ∀(l:List Ev) (s:Jn) (i:Nat),OnlyC p (playJ p s i l).2.1
 |[],_,_=>OnlyC.nil p
 |v::l,s,i=>by
  unfold playJ;split
  ·exact step_only.app (play_only p l _ _)
  ·exact play_only p l _ _
end Go.Proofs.YtjodlngbiikgfaaGreatDoor
namespace Go.Proofs.YtjodlngbiikgfaaGreatDoor
def PlayAt (p:Pl) (l:List Ev) (i:Nat) (s:Jn) (cs:List Cg) (no:List Int):Prop:=
 playJ p (startJ p) 0 l=((playJ p s i (l.drop i)).1,cs++(playJ p s i (l.drop i)).2.1,no++(playJ p s i (l.drop i)).2.2)
theorem PlayAt.start (p:Pl)(l:List Ev):PlayAt p l 0 (startJ p) [] []:=rfl
theorem PlayAt.good {p:Pl}{l:List Ev}{i:Nat}{s:Jn}{cs:List Cg}{no:List Int}{v:Ev}(h:PlayAt p l i s cs no)(hv:l[i]?=some v)(h0:(stepJ p s v).2.2=0):PlayAt p l (i+1) (stepJ p s v).1 (cs++(stepJ p s v).2.1) no:=by
 obtain⟨hlt,rfl⟩:=List.getElem?_eq_some_iff.1 hv;unfold PlayAt at h⊢;rw[h,List.drop_eq_getElem_cons hlt];simp only[playJ,if_pos h0,List.append_assoc]
theorem PlayAt.bad {p:Pl}{l:List Ev}{i:Nat}{s:Jn}{cs:List Cg}{no:List Int}{v:Ev}(h:PlayAt p l i s cs no)(hv:l[i]?=some v)(h0: ¬(stepJ p s v).2.2=0):PlayAt p l (i+1) s cs (no++[(i:Int)]):=by
 obtain⟨hlt,rfl⟩:=List.getElem?_eq_some_iff.1 hv;unfold PlayAt at h⊢;rw[h,List.drop_eq_getElem_cons hlt];simp only[playJ,if_neg h0,List.append_assoc,List.singleton_append]
theorem PlayAt.done {p:Pl}{l:List Ev}{s:Jn}{cs:List Cg}{no:List Int}(h:PlayAt p l l.length s cs no):playJ p (startJ p) 0 l=(s,cs,no):=by
 unfold PlayAt at h;rw[h,List.drop_length];simp[playJ]
theorem start_fineJ (p:Pl):FineJ (startJ p):=⟨nofun,nofun⟩
theorem tells_two (p:Pl)(v:Ev)(e:En):(tellS p v e).length≤2:=by unfold tellS;split<;>simp
theorem tellv_two (p:Pl)(s:Jn)(v:Ev)(e:En):(tellV p s v e).length≤2:=by
 unfold tellV;split
 ·simp
 ·split<;>simp
theorem flat_two {α β:Type}(f:α→List β)(h: ∀x,(f x).length≤2): ∀l:List α,(l.flatMap f).length≤2*l.length
 |[]=>by simp
 |x::l=>by
  have h1:=h x;have h2:=flat_two f h l;rw[List.flatMap_cons,List.length_append,List.length_cons];omega
theorem scan_few {b:Bu}(h:GoodB b)(key:List UInt8)(a c:Int):(scanL b key a c).length≤4096:=by
 have h1:(scanL b key a c).length≤(sortE b.all).length:=by unfold scanL;exact List.length_filter_le _ _
 have h2:=(sortE_perm h.alone).length_eq;have h3:=h.few;omega
theorem bring_len {p:Pl}{s:Jn}{v:Ev}(h:GoodJ p s):(bringJ p s v).1.length≤8193:=by
 have hS:(metS p s v).length≤4096:=by
  unfold metS;split
  ·exact scan_few (h.buf _) _ _ _
  ·simp
 have hV:(metV p s v).length≤4096:=by
  unfold metV;split
  ·exact Nat.le_trans (List.length_filter_le _ _) (scan_few h.left _ _ _)
  ·simp
 have h1:=flat_two (tellS p v) (tells_two p v) (metS p s v);have h2:=flat_two (tellV p s v) (tellv_two p s v) (metV p s v);have h3:(aloneS p v).length≤1:=by unfold aloneS;split<;>simp
 unfold bringJ;split
 ·split
  ·show((metV p s v).flatMap (tellV p s v)).length≤_
   omega
  ·split
   ·show([_]:List Cg).length≤_
    simp
   ·show(if _ then _ else _:List Cg).length≤_
    split<;>simp
 ·show(if _ then _ else _:List Cg).length≤_
  split<;>omega
theorem step_len {p:Pl}{s:Jn}(v:Ev):(stepJ p s v).2.1.length≤8193:=by
 unfold stepJ;split
 ·simp
 ·rename_i h0
  split
  ·simp
  ·split
   ·simp
   ·show(rowJ p s v).2.length≤_
    rw[rowJ_is];exact bring_len (check_zeroJ.1 (by simpa using h0))
end Go.Proofs.YtjodlngbiikgfaaGreatDoor
namespace Go.Proofs.YtjodlngbiikgfaaGreatDoor
open tm (fitsB fits_of winF untilF)
theorem okE_time {e:En}(h:okE e=true): -1099511627776≤e.t∧e.t≤1099511627776:=by
 unfold okE at h;simp only[Bool.and_eq_true]at h;have:=h.1.2;unfold inB at this;exact of_decide_eq_true this
def goneJ (d:Jn):Jn:=if d.lm≠noM∧d.rm≠noM then⟨d.left,siftB d.right (keepF fun e=> !oldE (sortE d.right.all) (min d.lm d.rm) e),d.lm,d.rm,d.seq⟩else d
theorem markJ_is (p:Pl)(s:Jn)(v:Ev):markJ p s v=if p.kind=3 then goneJ (dropJ p (markedJ s v))else dropJ p (markedJ s v):=by
 unfold markJ goneJ;simp only[←show markedJ s v=(if v.side=2 then(⟨s.left,s.right,s.lm,v.t,s.seq⟩:Jn)else⟨s.left,s.right,v.t,s.rm,s.seq⟩)from rfl];by_cases h:p.kind=3
 ·rw[if_pos h]
  by_cases h2:(dropJ p (markedJ s v)).lm≠noM∧(dropJ p (markedJ s v)).rm≠noM
  ·rw[if_pos ⟨h,h2⟩,if_pos h2]
  ·rw[if_neg (fun h3=>h2 h3.2),if_neg h2]
 ·rw[if_neg h,if_neg (fun h3=>h h3.1)]
end Go.Proofs.YtjodlngbiikgfaaGreatDoor
namespace Go.Proofs.YtjodlngbiikgfaaGreatDoor
open Go.RowKit Go.Maps
theorem catS_len (a:List Chn):(chnCells a).length=a.length*2:=by unfold chnCells;rw[flat_len Chn.cells_len]
theorem catV_len (a:List Val):(rowCells a).length=a.length*3:=rowCells_len a
theorem catV_app (a b:List Val):rowCells (a++b)=rowCells a++rowCells b:=List.flatMap_append
def catToV (a b:List Val):Nat→List Val
 |0=>[]
 |1=>a
 |_=>a++b
set_option maxHeartbeats 4000000 in
set_option maxRecDepth 100000 in
theorem grow_nilV (n:Nat)(w:World)(h1:1≤n)(hn:n≤1000):
 Calls Tryz.prog 119 #[.slice none 0 0,.int .i64 n] w fun e w'=> ∃u,e= .returned u∧w'.ownsRow w.heap.size 114 3 u 0 []∧Below w.heap.size w w':=by
 have hinfo:(Tryz.prog.info? 114).map (fun i=>(i.zero,i.size,i.bytes))=some (some (.agg #[.int .i64 0,.int .i64 0,.string ⟨#[]⟩]),3,32):=by kernel_rfl
 obtain⟨i0,hi0,hz0,hs0,hb0⟩:=info_parts hinfo
 have hold:(Builtin.firstCells i0.size 0 (.slice none 0 0)).run Tryz.prog w.drew= .ok ([]:List Value).toArray w.drew:=by
  exact run_firstCells_none w.drew i0.size 0 0 0
 have hrz: ∀ty,(Builtin.append_ #[41,3] ty #[.slice none 0 0,.int .i64 (n:Int)]).run Tryz.prog w=
  .ok (.slice (some ⟨w.heap.size,0,none⟩) (0+n) (grownCap w (0+n) 0 114)) (w.drew.alloc (.cells (([]:List Value).toArray++Builtin.zeroCells (Value.cells (Value.agg #[.int .i64 0,.int .i64 0,.string ⟨#[]⟩])) n++Builtin.zeroCells (Value.cells (Value.agg #[.int .i64 0,.int .i64 0,.string ⟨#[]⟩])) (grownCap w (0+n) 0 114-(0+n))) 114)):=fun ty=>by
  exact Lib.run_append_grow_zeros w 41 3 ty 114 i0 (.agg #[.int .i64 0,.int .i64 0,.string ⟨#[]⟩]) .i64 .i64 Tryz.underlying41 Tryz.underlying3 hi0 hz0 none 0 0 [] hold n (by omega) (by omega) (by omega) (by omega)
   (by rw[hb0];omega)
   (growslice_fits (by omega) (by rw[hb0];omega))
 have hGn:0+n≤grownCap w (0+n) 0 114:=grownCap_ge w _ _ _;have hG63:=grownCap_le_maxLen w (0+n) 0 114 (by unfold maxLen;omega);rw[Nat.zero_add]at hrz hGn hG63;generalize grownCap w n 0 114=G at hrz hGn hG63;have HG:=Lib.hid hG63
 have hsz:(([]:List Value).toArray++Builtin.zeroCells (Value.cells (Value.agg #[.int .i64 0,.int .i64 0,.string ⟨#[]⟩])) n++Builtin.zeroCells (Value.cells (Value.agg #[.int .i64 0,.int .i64 0,.string ⟨#[]⟩])) (G-n)).size=G*3:=by
  simp[Builtin.zeroCells,Value.cells];omega
 generalize ([]:List Value).toArray++Builtin.zeroCells (Value.cells (Value.agg #[.int .i64 0,.int .i64 0,.string ⟨#[]⟩])) n++Builtin.zeroCells (Value.cells (Value.agg #[.int .i64 0,.int .i64 0,.string ⟨#[]⟩])) (G-n)=cur at hrz hsz;have HZ:=Lib.hid hsz;clear hsz hold hinfo hi0 hz0 hs0 hb0;unfold maxLen at hG63;go_enter Tryz.func119,Tryz.ntmps119
 go_wp2_with (at_builtin;refine Lib.wpList_append_run _ rfl _ _ _ _ rfl _ _ rfl rfl _ _ (hrz _) ?_)
 all_goals
  go_ret;refine⟨_,rfl,⟨rfl,.inr ⟨_,G,cur,rfl,Nat.le_refl _,?_,Nat.zero_le _,HG.out,by rw[HZ.out],by simp⟩⟩,?_⟩
  ·exact heap_alloc_new w.drew _
  ·exact(Below.refl _ _).drew.alloc (Nat.le_refl _) _
set_option maxHeartbeats 1000000 in
set_option maxRecDepth 10000 in
theorem grow_zeroV (w:World):Calls Tryz.prog 119 #[.slice none 0 0,.int .i64 0] w fun e w'=>e= .returned (.slice none 0 0)∧w=w':=by
 go_enter Tryz.func119,Tryz.ntmps119
 go_wp2;go_ret;exact⟨rfl,rfl⟩
theorem grow_allV (n:Nat)(w:World)(hn:n≤1000):Calls Tryz.prog 119 #[.slice none 0 0,.int .i64 n] w fun e w'=> ∃u,e= .returned u∧w'.ownsRow w.heap.size 114 3 u 0 []∧Below w.heap.size w w':=by
 by_cases h:1≤n
 ·exact grow_nilV n w h hn
 ·obtain rfl:n=0:=by omega
  refine(grow_zeroV w).mono ?_;rintro e w' ⟨rfl,rfl⟩;exact⟨_,rfl,⟨rfl,.inl ⟨rfl,rfl⟩⟩,Below.refl _ _⟩
set_option maxHeartbeats 4000000 in
set_option maxRecDepth 10000 in
theorem concat_anyV (v va vb:Value)(a b:List Val)(w:World)(hv:Sl w v 2 [va,vb])(ha:Sl w va a.length (rowCells a))(hb:Sl w vb b.length (rowCells b))(h2:a.length+b.length≤1000):
 Calls Tryz.prog 71 #[v] w fun e w'=> ∃v',e= .returned v'∧w'.ownsRow w.heap.size 114 3 v' (a++b).length (rowCells (a++b))∧Below w.heap.size w w':=by
 have HA:=Lib.hid ha;have HB:=Lib.hid hb;obtain⟨A,c,rfl,q1,q2,-,q3⟩:=hv;obtain⟨g,off,rfl,hc⟩:=q3 (by simp);have z0:w.cell? ⟨g,off,none⟩=some va:=hc 0 va rfl;have z1:w.cell? ⟨g,off+1,none⟩=some vb:=hc 1 vb rfl;obtain⟨A0,c0,rfl,n0,m0,-⟩:=ha;obtain⟨A1,c1,rfl,n1,m1,-⟩:=hb;have ZB:=Lib.hid (fun(W:World) (h:Below w.heap.size w W)=>And.intro (cell_below h z0) (cell_below h z1));unfold maxLen at m0 m1 q2;clear hc;go_enter Tryz.func71,Tryz.ntmps71
 go_wp2
 go_loop [3,5,11] (fun s _ i=> ∃k:Nat,k≤2∧i= .int .i64 k∧s= .int .i64 ((catToV a b k).length:Nat)) (fun _ _ i=>2-(intOf i).toNat)
 case atStart=>exact⟨0,by omega,rfl,rfl⟩
 case round=>
  obtain⟨k,hk,rfl,rfl⟩:=hrel;have hk3:k=0∨k=1∨k=2:=by omega
  rcases hk3 with rfl|rfl|rfl
  ·have e:((catToV a b 0).length:Int)=0:=rfl
   rw[e];clear e;go_wp2
   go_round
   case rel=>exact⟨1,by omega,by go_num,by simp[catToV]⟩
   case measure=>simp[intOf]
  ·have e:(catToV a b 1).length=a.length:=rfl
   rw[e];go_wp2
   go_round
   case rel=>exact⟨2,by omega,by go_num,by simp[catToV]⟩
   case measure=>simp[intOf]
  ·have e:(catToV a b 2).length=a.length+b.length:=by simp[catToV]
   rw[e];clear e;generalize hn:a.length+b.length=n at h2;have HN:=Lib.hid hn;clear hn
   go_wp2_with fail
   refine(grow_allV n _ h2).mono ?_;rintro e w1 ⟨u0,rfl,hown1,hb1⟩;obtain⟨Au0,cu0,hu0,-⟩:=Sl.of_own hown1;rw[hu0]at hown1;rw[hu0];clear hu0;have HO:=Lib.hid hown1;clear hown1 z0 z1
   go_wp2_with fail
   go_loopw[6,8,27] (fun t _ i wr=> ∃(k:Nat) (u:Value),u=t∧k≤2∧i= .int .i64 k∧wr.ownsRow w.heap.size 114 3 u (catToV a b k).length (rowCells (catToV a b k))∧Below w.heap.size w wr) (fun _ _ i _=>2-(intOf i).toNat)
   case atStart=>exact⟨0,_,rfl,by omega,rfl,HO.out,hb1⟩
   case round=>
    obtain⟨k,u,rfl,hk,rfl,hown,hbw⟩:=hrel;obtain⟨z0,z1⟩:=ZB.out _ hbw;obtain⟨Au,cu,hu,-⟩:=Sl.of_own hown;have hk3:k=0∨k=1∨k=2:=by omega
    rcases hk3 with rfl|rfl|rfl
    ·subst hu
     go_wp2_with (at_builtin;refine wpList_app rfl (.tmp 31) (.tmp 32) 41 rfl w.heap.size 114 3 32 Tryz.underlying41 valJ _ (catToV a b 0).length _ rfl hown _ a.length (rowCells a) rfl (HA.out.below hbw) (catV_len a) (rowCells_one a) ?_ ?_ ?_ ?_)
     ·have:=HN.out;unfold maxLen;simp[catToV];omega
     ·have:=HN.out;simp[catToV];omega
     ·exact hbw.size
     ·intro v2 w3 hown3 hg3 hat3
      have hbw3:=below_grown hbw hg3 (own_ge hown)
      have O3:Hid (w3.ownsRow w.heap.size 114 3 v2 (catToV a b 1).length (rowCells (catToV a b 1))):=by
       have e:(catToV a b 0).length+a.length=(catToV a b 1).length:=by simp[catToV]
       rw[e]at hown3;exact hown3
      clear hown3 hg3 hat3 hown;go_wp2;go_roundw
      case rel=>exact⟨1,_,rfl,by omega,by go_num,O3.out,hbw3⟩
      case measure=>simp[intOf]
    ·subst hu
     go_wp2_with (at_builtin;refine wpList_app rfl (.tmp 31) (.tmp 32) 41 rfl w.heap.size 114 3 32 Tryz.underlying41 valJ _ (catToV a b 1).length _ rfl hown _ b.length (rowCells b) rfl (HB.out.below hbw) (catV_len b) (rowCells_one b) ?_ ?_ ?_ ?_)
     ·have:=HN.out;unfold maxLen;simp[catToV];omega
     ·have:=HN.out;simp[catToV];omega
     ·exact hbw.size
     ·intro v2 w3 hown3 hg3 hat3
      have hbw3:=below_grown hbw hg3 (own_ge hown)
      have O3:Hid (w3.ownsRow w.heap.size 114 3 v2 (catToV a b 2).length (rowCells (catToV a b 2))):=by
       have e:(catToV a b 1).length+b.length=(catToV a b 2).length:=by simp[catToV]
       rw[e,←catV_app]at hown3;exact hown3
      clear hown3 hg3 hat3 hown;go_wp2;go_roundw
      case rel=>exact⟨2,_,rfl,by omega,by go_num,O3.out,hbw3⟩
      case measure=>simp[intOf]
    ·have HO2:=Lib.hid hown
     clear hown hu;go_wp2;go_ret;exact⟨_,rfl,HO2.out,hbw⟩
end Go.Proofs.YtjodlngbiikgfaaGreatDoor
