/-Small words on worlds that every later text uses: a slice whose cells are known, how that is kept, and append onto a row of the call's own. Plain law  -/
import Derived.Test.YtjodlngbiikgfaaGreatDoorGrpK1
import Derived.Test.YtjodlngbiikgfaaGreatDoorRows
import Derived.WalkKit
import Derived.WalkSpells
import Derived.WalkLawsBesides
import Derived.Deep.QuietTactic
import Derived.BigQuiet
import Derived.Lib.Hide
import Derived.Deep.Draws
import Derived.Deep.AppendLies
import Derived.Laws.OwnMore
import Derived.Laws.AppendOwnNone
import Derived.Deep.RegionHeld3
import Derived.Deep.RegionLaw
import Derived.Deep.LoopGhost
import Derived.Deep.DeepCutAuto
import Derived.Test.YtjodlngbiikgfaaGreatDoorGrpK18
import Derived.Test.YtjodlngbiikgfaaGreatDoorGrpK17
import Derived.Test.YtjodlngbiikgfaaGreatDoorGrpK6
import Derived.Test.YtjodlngbiikgfaaGreatDoorGrpK19
import Derived.Test.YtjodlngbiikgfaaGreatDoorGrpK21
set_option linter.unusedSimpArgs false
set_option linter.unusedVariables false
namespace Go.Proofs.YtjodlngbiikgfaaGreatDoor
open Go.RowKit
section
variable {P:Program} {w:World}
theorem step_app {ops:Array Oper}{o:Oper}{a:Act}{K:Act→World→Prop}{Q:Exit→Act→World→Prop}{E:Prop}(hgd:o.guard=none)(s x:Operand)(t:TypeId)
 (ho:o.op= .call {callee:= .builtin .append,args:= #[s,x],argTypes:= #[t,t]})
 (base:Nat) (e:TypeId) (size bytes:Nat) (ht:P.underlying t=some (.slice e)) (hi:EInfo P e size bytes)
 (v:Value) (n:Nat) (xs:List Value) (hv:a.eval s=v) (hown:w.ownsRow base e size v n xs) (sv:Value) (m:Nat) (news:List Value) (hx:a.eval x=sv) (hs:Sl w sv m news) (hl:news.length=m*size) (h1: ∀u∈news,u.oneCell'=true)
 (h63:n+m≤maxLen) (hbytes:(n+m)*bytes≤140737488355328) (hbase:base≤w.heap.size)
 (h: ∀v' w',w'.ownsRow base e size v' (n+m) (xs++news)→w.grownBy w' v.ownBlock→(v'.ownBlock=v.ownBlock∨v'.ownBlock=some w.heap.size)→K (a.put o.dst v') w'):
 if Region.wanted o (yielded ops a.tmps)=true then Oper.wp P o a w K Q else E:=by
 rw[if_pos (by simp[Region.wanted,hgd])];exact wp_app s x t ho base e size bytes ht hi v n xs hv hown sv m news hx hs hl h1 h63 hbytes hbase h
end
end Go.Proofs.YtjodlngbiikgfaaGreatDoor
namespace Go.Proofs.YtjodlngbiikgfaaGreatDoor
theorem drop_good {b:Bu}(h:GoodB b)(upto:Int):GoodB (dropB b upto):=by rw[dropB_sift'];exact sift_good h
end Go.Proofs.YtjodlngbiikgfaaGreatDoor
namespace Go.Proofs.YtjodlngbiikgfaaGreatDoor
open tm (fitsB fits_of winF untilF)
def maxT:Int:=1099511627776
theorem drop_mem {b:Bu}{u:Int}{e:En}(h:e∈(dropB b u).all):e∈b.all∧u<e.t:=by
 unfold dropB at h;rw[siftB_all]at h;obtain⟨x,hx,hy⟩:=List.mem_flatMap.1 h;by_cases hc:u<x.t
 ·rw[if_pos hc]at hy
  rw[List.mem_singleton.1 hy];exact⟨hx,hc⟩
 ·rw[if_neg hc]at hy
  cases hy
theorem drop_max {b:Bu}(h:GoodB b):(dropB b maxT).all=[]:=by
 cases hc:(dropB b maxT).all with
 |nil=>rfl
 |cons e l=>
  obtain⟨h1,h2⟩:=drop_mem (show e∈(dropB b maxT).all by rw[hc];simp);have:=okE_time (h.ok e h1);unfold maxT at h2;omega
theorem gone_left (p:Pl)(h:checkP p=0):goneF p 1 maxT=maxT:=by
 unfold goneF untilF maxT;rcases check_kind h with⟨h1,-⟩|⟨h1,-⟩|h1<;>simp[h1]
theorem gone_right (p:Pl)(h:checkP p=0)(h3:p.kind≠3):goneF p 2 maxT=maxT:=by
 unfold goneF untilF maxT;rcases check_kind h with⟨h1,-⟩|⟨h1,-⟩|h1
 ·simp[h1]
 ·simp[h1]
 ·exact absurd h1 h3
theorem old_unlike {b:Bu}(h:GoodB b):((b.all.filter fun e=> !oldE (sortE b.all) maxT e)).Pairwise fun x y=>x.key≠y.key:=by
 have hA:=h.alone;have hmem: ∀e∈b.all,e∈sortE b.all:=fun e he=>(sortE_perm hA).mem_iff.2 he
 have hkey: ∀x∈b.all,∀y∈b.all,(!oldE (sortE b.all) maxT x)=true→x.key=y.key→ ¬0<cmpE y x:=by
  intro x hx y hy ho hk hc
  have:oldE (sortE b.all) maxT x=true:=by
   unfold oldE;rw[List.any_eq_true];have t1:=okE_time (h.ok x hx);have t2:=okE_time (h.ok y hy);refine⟨y,hmem y hy,?_⟩;unfold maxT;simp[hk,hc,t1.2,t2.2]
  rw[this]at ho;cases ho
 have h2:(b.all.filter fun e=> !oldE (sortE b.all) maxT e).Pairwise fun x y=>cmpE x y≠0:=hA.filter _;refine List.Pairwise.imp_of_mem ?_ h2;intro x y hx hy hc hk;obtain⟨x1,x2⟩:=List.mem_filter.1 hx;obtain⟨y1,y2⟩:=List.mem_filter.1 hy;have k1:=hkey x x1 y y1 x2 hk;have k2:=hkey y y1 x x1 y2 hk.symm;have k3:=cmpE_flip x y;omega
theorem sift_alone {b:Bu}(h:GoodB b){k:En→Bool}(hu:(b.all.filter k).Pairwise fun x y=>x.key≠y.key):(sortE (siftB b (keepF k)).all).Pairwise fun x y=>x.key≠y.key:=by
 have h1:=(less_keep b k).good h;have h2:=sortE_perm h1.alone;have h3:(siftB b (keepF k)).all=b.all.filter k:=by rw[siftB_all,keep_flat]
 rw[h3]at h2⊢;exact h2.symm.pairwise hu fun h e=>h e.symm
def endJ (p:Pl) (s:Jn) (side:Int):Jn:=markJ p s ⟨2,side,maxT,[]⟩
theorem end_marks (p:Pl)(s:Jn)(v:Ev):(markJ p s v).lm=(markedJ s v).lm∧(markJ p s v).rm=(markedJ s v).rm:=by
 show(if p.kind=3∧(dropJ p (markedJ s v)).lm≠noM∧(dropJ p (markedJ s v)).rm≠noM then _ else _:Jn).lm=_∧(if p.kind=3∧(dropJ p (markedJ s v)).lm≠noM∧(dropJ p (markedJ s v)).rm≠noM then _ else _:Jn).rm=_;split<;>exact⟨rfl,rfl⟩
theorem ends_join {p:Pl}{s:Jn}(h:GoodJ p s):(endJ p (endJ p s 1) 2).left.all=[]∧(p.kind≠3→(endJ p (endJ p s 1) 2).right.all=[])∧(sortE (endJ p (endJ p s 1) 2).right.all).Pairwise (fun a b=>a.key≠b.key)∧(endJ p (endJ p s 1) 2).lm=maxT:=by
 have hv: ∀side s',side=1∨side=2→GoodJ p s'→EvOk p s' ⟨2,side,maxT,[]⟩:=by
  intro side s' hs hg;obtain⟨r1,r2,r3⟩:=rangesJ_of hg.ranges;refine⟨.inr rfl,hs,(show fitsB maxT=true by decide),fun _=>⟨rfl,?_⟩,fun e=>absurd e (show ¬(2:Int)=1 by decide)⟩;show Jn.mark s' side≤maxT;unfold Jn.mark maxT;split
  ·exact r2.2
  ·exact r1.2
 have h1:GoodJ p (endJ p s 1):=mark_goodJ h (hv 1 s (.inl rfl) h);have h2:GoodJ p (endJ p (endJ p s 1) 2):=mark_goodJ h1 (hv 2 _ (.inr rfl) h1);have m1:(endJ p s 1).lm=maxT:=(end_marks p s ⟨2,1,maxT,[]⟩).1;have m2:(endJ p (endJ p s 1) 2).lm=maxT:=(end_marks p (endJ p s 1) ⟨2,2,maxT,[]⟩).1.trans m1;generalize endJ p s 1=t at h1 h2 m1 m2⊢;have hn: ¬maxT=noM:=by decide
 have hd:dropJ p (markedJ t ⟨2,2,maxT,[]⟩)=⟨dropB t.left maxT,dropB t.right (goneF p 2 maxT),maxT,maxT,t.seq⟩:=by
  unfold dropJ markedJ;simp only[if_true,m1];rw[if_neg hn,if_neg hn,gone_left p h.plan]
 have hl:GoodB (dropB t.left maxT):=drop_good h1.left _;have hr:GoodB (dropB t.right (goneF p 2 maxT)):=drop_good h1.right _;by_cases h3:p.kind=3
 ·have he:endJ p t 2=⟨dropB t.left maxT,siftB (dropB t.right (goneF p 2 maxT)) (keepF fun e=> !oldE (sortE (dropB t.right (goneF p 2 maxT)).all) (min maxT maxT) e),maxT,maxT,t.seq⟩:=by
   unfold endJ;rw[markJ_is,if_pos h3,hd];unfold goneJ;rw[if_pos ⟨hn,hn⟩]
  rw[he];refine⟨drop_max h1.left,fun e=>absurd h3 e,?_,rfl⟩;rw[Int.min_self];exact sift_alone hr (old_unlike hr)
 ·have he:endJ p t 2=⟨dropB t.left maxT,dropB t.right (goneF p 2 maxT),maxT,maxT,t.seq⟩:=by
   unfold endJ;rw[markJ_is,if_neg h3,hd]
  have hz:(dropB t.right maxT).all=[]:=drop_max h1.right;rw[he,gone_right p h.plan h3];refine⟨drop_max h1.left,fun _=>hz,?_,rfl⟩;rw[hz];exact List.Pairwise.nil
end Go.Proofs.YtjodlngbiikgfaaGreatDoor
namespace Go.Proofs.YtjodlngbiikgfaaGreatDoor
open tm (fitsB fits_of)
theorem play_goodJ {p:Pl}: ∀(l:List Ev) (s:Jn) (i:Nat),GoodJ p s→FineJ s→(∀v∈l,Fine v.r)→GoodJ p (playJ p s i l).1∧FineJ (playJ p s i l).1
 |[],_,_,hG,hF,_=>⟨hG,hF⟩
 |v::l,s,i,hG,hF,hf=>by
  have hf2: ∀x∈l,Fine x.r:=fun x hx=>hf x (List.mem_cons_of_mem _ hx);unfold playJ;split
  ·rename_i h0
   exact play_goodJ l _ _ (step_goodJ (hf v List.mem_cons_self) h0) (step_fineJ hF (hf v List.mem_cons_self) h0) hf2
  ·exact play_goodJ l _ _ hG hF hf2
theorem step_max {p:Pl}{s:Jn}(h:GoodJ p s){side:Int}(hs:side=1∨side=2):stepJ p s ⟨2,side,maxT,[]⟩=(endJ p s side,[],0):=by
 obtain⟨r1,r2,r3⟩:=rangesJ_of h.ranges
 have he:eventE p s ⟨2,side,maxT,[]⟩=0:=by
  refine ev_mark rfl hs (show fitsB maxT=true by decide) rfl ?_;show ¬maxT<s.mark side;unfold Jn.mark maxT;split
  ·have:=r2.2;omega
  ·have:=r1.2;omega
 unfold stepJ;rw[check_zeroJ.2 h,if_neg (by simp),he,if_neg (by simp),if_pos rfl];rfl
theorem end_good {p:Pl}{s:Jn}(h:GoodJ p s)(hF:FineJ s){side:Int}(hs:side=1∨side=2):GoodJ p (endJ p s side)∧FineJ (endJ p s side):=by
 have h0:=step_max h hs;have h1:=step_goodJ (p:=p) (s:=s) (v:=⟨2,side,maxT,[]⟩) ⟨nofun,nofun⟩ (by rw[h0]);have h2:=step_fineJ (p:=p) (s:=s) (v:=⟨2,side,maxT,[]⟩) hF ⟨nofun,nofun⟩ (by rw[h0]);rw[h0]at h1 h2;exact⟨h1,h2⟩
theorem step_late {p:Pl}{s:Jn}(h:s.lm=maxT)(t:Int)(r:List Val):(stepJ p s ⟨1,1,t,r⟩).2.2≠0:=by
 unfold stepJ;by_cases h1:checkJ p s=0
 ·rw[if_neg (fun e=>e h1)]
  by_cases h2:eventE p s ⟨1,1,t,r⟩=0
  ·exfalso
   have hv:=event_ok h2;have h3:=(hv.row rfl).2.1;have h4:=(fits_of hv.time).2;have h5:s.lm<t:=h3;rw[h]at h5;unfold maxT at h5;have h6:t≤1099511627776:=h4;omega
  ·rw[if_pos h2];exact h2
 ·rw[if_pos h1];exact h1
end Go.Proofs.YtjodlngbiikgfaaGreatDoor
