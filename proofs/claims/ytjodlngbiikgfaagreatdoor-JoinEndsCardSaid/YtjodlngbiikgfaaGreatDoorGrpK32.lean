/-Plans: the reference's OutOf; sameInts. Plans: the reference's KeyFor. Plans: planBegun. Plain law of joins: what joinBegun plays. Fold. Joins: what j -/
import Derived.Test.YtjodlngbiikgfaaGreatDoorGrpK8
import Derived.Test.YtjodlngbiikgfaaGreatDoorGrpK9
import Derived.Test.YtjodlngbiikgfaaGreatDoorGrpK10
import Derived.Test.YtjodlngbiikgfaaGreatDoorGrpK21
import Derived.Test.YtjodlngbiikgfaaGreatDoorGrpK31
import Derived.Test.YtjodlngbiikgfaaGreatDoorGrpK11
import Derived.Test.YtjodlngbiikgfaaGreatDoorGrpK2
set_option linter.unusedSimpArgs false
set_option linter.unusedVariables false
namespace Go.Proofs.YtjodlngbiikgfaaGreatDoor
open Go.RowKit Go.Maps
end Go.Proofs.YtjodlngbiikgfaaGreatDoor
namespace Go.Proofs.YtjodlngbiikgfaaGreatDoor
open Go.RowKit Go.Maps
end Go.Proofs.YtjodlngbiikgfaaGreatDoor
namespace Go.Proofs.YtjodlngbiikgfaaGreatDoor
open Go.RowKit Go.Maps
theorem two_vals (W:World)(a b:Int):Sl (W.alloc (.cells #[.int .i64 2,.int .i64 a,.string ⟨#[]⟩,.int .i64 2,.int .i64 b,.string ⟨#[]⟩] 114)) (.slice (some ⟨W.heap.size,0,none⟩) 2 2) 2 (rowCells [numV a,numV b]):=
 Sl.block (Blk.new W 114 #[.int .i64 2,.int .i64 a,.string ⟨#[]⟩,.int .i64 2,.int .i64 b,.string ⟨#[]⟩]) 2 2 (Nat.le_refl _) (by decide)
set_option maxHeartbeats 400000 in
set_option maxRecDepth 10000 in
theorem lawRow_any (a b:Int)(w:World):Calls Tryz.prog 81 #[.int .i64 a,.int .i64 b] w fun e w'=> ∃v,e= .returned v∧Sl w' v 2 (rowCells [numV a,numV b])∧Below w.heap.size w w':=by
 go_enter Tryz.func81,Tryz.ntmps81
 go_wp2_with fail
 refine(num_any _ _).mono ?_;rintro e w1 ⟨rfl,hb1⟩
 go_wp2_with fail
 refine(num_any _ _).mono ?_;rintro e w2 ⟨rfl,hb2⟩;have hB:=below_trans hb1 hb2;have HS:=Lib.hid (two_vals w2 a b);go_wp2;go_ret;exact⟨_,rfl,HS.out,hB.alloc hB.size _⟩
def simpleP (vl vr vk vq:Value):Pl:=⟨1,4,-5,5,0,2,vl,vr,vk,vq,false,.slice none 0 0,.slice none 0 0,[2,2],[2,2],[0],[0],[],[]⟩
theorem simple_fit (vl vr vk vq:Value):(simpleP vl vr vk vq).fit:=⟨by simp[simpleP,I64],by simp[simpleP,I64],by simp[simpleP,I64],by simp[simpleP,I64],by simp[simpleP,I64],by simp[simpleP]⟩
theorem simple_check (vl vr vk vq:Value):checkP (simpleP vl vr vk vq)=0:=by rfl
theorem lit_sl (W:World)(l:List Int)(hl:l.length≤1000)(cs:Array Value)(h:cs.toList=intCells l):Sl (W.alloc (.cells cs 3)) (.slice (some ⟨W.heap.size,0,none⟩) l.length l.length) l.length (intCells l):=by
 rw[←h];exact Sl.block (Blk.new W 3 cs) _ _ (Nat.le_refl _) (by unfold maxLen;omega)
set_option maxHeartbeats 4000000 in
set_option maxRecDepth 10000 in
theorem simple_any (w:World):Calls Tryz.prog 40 #[] w fun e w'=> ∃vl vr vk vq,e= .returned (.agg #[.int .i64 1,.int .i64 4,.int .i64 (-5),.int .i64 5,.int .i64 0,.int .i64 2,vl,vr,vk,vq,.bool false,.slice none 0 0,.slice none 0 0])∧(simpleP vl vr vk vq).ok w'∧(∀k,vl.ownBlock=some k→w.heap.size≤k)∧(∀k,vr.ownBlock=some k→w.heap.size≤k)∧(∀k,vk.ownBlock=some k→w.heap.size≤k)∧(∀k,vq.ownBlock=some k→w.heap.size≤k)∧Below w.heap.size w w':=by
 go_enter Tryz.func40,Tryz.ntmps40
 go_wp2;have S1:=lit_sl (w.alloc (.cells #[.int .i64 1,.int .i64 4,.int .i64 (-5),.int .i64 5,.int .i64 0,.int .i64 2,.slice (some ⟨w.heap.size+1,0,none⟩) 2 2,.slice (some ⟨w.heap.size+1,0,none⟩) 2 2,.slice (some ⟨w.heap.size+1+1,0,none⟩) 1 1,.slice (some ⟨w.heap.size+1+1+1,0,none⟩) 1 1,.bool false,.slice none 0 0,.slice none 0 0] 25)) [2,2] (by decide) #[.int .i64 2,.int .i64 2] rfl;have S2:=lit_sl ((w.alloc (.cells #[.int .i64 1,.int .i64 4,.int .i64 (-5),.int .i64 5,.int .i64 0,.int .i64 2,.slice (some ⟨w.heap.size+1,0,none⟩) 2 2,.slice (some ⟨w.heap.size+1,0,none⟩) 2 2,.slice (some ⟨w.heap.size+1+1,0,none⟩) 1 1,.slice (some ⟨w.heap.size+1+1+1,0,none⟩) 1 1,.bool false,.slice none 0 0,.slice none 0 0] 25)).alloc (.cells #[.int .i64 2,.int .i64 2] 3)) [0] (by decide) #[.int .i64 0] rfl;have S3:=lit_sl (((w.alloc (.cells #[.int .i64 1,.int .i64 4,.int .i64 (-5),.int .i64 5,.int .i64 0,.int .i64 2,.slice (some ⟨w.heap.size+1,0,none⟩) 2 2,.slice (some ⟨w.heap.size+1,0,none⟩) 2 2,.slice (some ⟨w.heap.size+1+1,0,none⟩) 1 1,.slice (some ⟨w.heap.size+1+1+1,0,none⟩) 1 1,.bool false,.slice none 0 0,.slice none 0 0] 25)).alloc (.cells #[.int .i64 2,.int .i64 2] 3)).alloc (.cells #[.int .i64 0] 3)) [0] (by decide) #[.int .i64 0] rfl;have hB:=below_trans (below_trans (below_trans (below_alloc w (.cells #[.int .i64 1,.int .i64 4,.int .i64 (-5),.int .i64 5,.int .i64 0,.int .i64 2,.slice (some ⟨w.heap.size+1,0,none⟩) 2 2,.slice (some ⟨w.heap.size+1,0,none⟩) 2 2,.slice (some ⟨w.heap.size+1+1,0,none⟩) 1 1,.slice (some ⟨w.heap.size+1+1+1,0,none⟩) 1 1,.bool false,.slice none 0 0,.slice none 0 0] 25)) (below_alloc _ (.cells #[.int .i64 2,.int .i64 2] 3))) (below_alloc _ (.cells #[.int .i64 0] 3))) (below_alloc _ (.cells #[.int .i64 0] 3));have S1':=(S1.below (below_alloc _ (.cells #[.int .i64 0] 3))).below (below_alloc _ (.cells #[.int .i64 0] 3));have S2':=S2.below (below_alloc _ (.cells #[.int .i64 0] 3));simp only[World.size_alloc]at S1' S2' S3;refine bodyPost_ret (v:= .agg #[.int .i64 1,.int .i64 4,.int .i64 (-5),.int .i64 5,.int .i64 0,.int .i64 2,.slice (some ⟨w.heap.size+1,0,none⟩) 2 2,.slice (some ⟨w.heap.size+1,0,none⟩) 2 2,.slice (some ⟨w.heap.size+1+1,0,none⟩) 1 1,.slice (some ⟨w.heap.size+1+1+1,0,none⟩) 1 1,.bool false,.slice none 0 0,.slice none 0 0]) (by simp[results,Tryz.results40,go_sem]) rfl ?_;refine⟨_,_,_,_,rfl,⟨S1',S1',S2',S3,Sl.nil_ _,Sl.nil_ _⟩,fresh_some (by omega),fresh_some (by omega),fresh_some (by omega),fresh_some (by omega),hB⟩
end Go.Proofs.YtjodlngbiikgfaaGreatDoor
namespace Go.Proofs.YtjodlngbiikgfaaGreatDoor
open tm (fitsB fits_of)
def kl (p:Pl) (side:Int) (r:List Val):List UInt8:=(keyFor p side r).1.data.toList
theorem kl_is (p:Pl)(side:Int)(r:List Val):(keyFor p side r).1.toList=kl p side r:=ByteArray.toList_eq _
def metSK (p:Pl) (s:Jn) (v:Ev):List En:=if(keyFor p v.side v.r).2=true then scanL (s.buf (farS v.side)) (kl p v.side v.r) (spanT p.kind p.low p.high p.size v.side v.t).1 (spanT p.kind p.low p.high p.size v.side v.t).2 else[]
def bringSK (p:Pl) (s:Jn) (v:Ev):List Cg×List En×Bool:=(if(metSK p s v).isEmpty=true then aloneS p v else(metSK p s v).flatMap (tellS p v),metSK p s v, !(metSK p s v).isEmpty)
def rowJK (p:Pl) (s:Jn) (v:Ev):Jn×List Cg:=
 let r:=bringSK p s v
 let s1:=s.put (farS v.side) (touchB (s.buf (farS v.side)) r.2.1)
 let s2:Jn:=⟨s1.left,s1.right,s1.lm,s1.rm,s1.seq+1⟩
 (if(keyFor p v.side v.r).2=false∨(s.mark (farS v.side)≠noM∧v.t≤goneF p v.side (s.mark (farS v.side)))then s2
  else s2.put v.side (putB (s2.buf v.side) ⟨kl p v.side v.r,v.t,s.seq,v.r,r.2.2⟩),r.1)
theorem rowJK_is {p:Pl}(h:p.kind≠3)(s:Jn)(v:Ev):rowJ p s v=rowJK p s v:=by
 have h1:metS p s v=metSK p s v:=by unfold metS metSK;rw[kl_is]
 have h2:bringJ p s v=bringSK p s v:=by unfold bringJ bringSK;rw[if_neg h,h1]
 unfold rowJ rowJK;simp only[h2,kl_is]
def storyL:List Ev:=[⟨1,1,1,[numV 7,numV 1]⟩,⟨1,2,2,[numV 7,numV 2]⟩,⟨2,1,4,[]⟩,⟨1,1,4,[numV 7,numV 3]⟩,⟨1,1,5,[numV 7,numV 4]⟩]
def begC:List Cg:=[(1,[numV 7,numV 1,nullV,nullV]),(3,[numV 7,numV 1,nullV,nullV]),(4,[numV 7,numV 1,numV 7,numV 2]),(1,[numV 7,numV 4,numV 7,numV 2])]
theorem begj_row (vl vr vk vq:Value)(a b side:Int)(hs:side=1∨side=2):rowE (simpleP vl vr vk vq) side [numV a,numV b]=0:=by
 rcases hs with rfl|rfl
 all_goals
  unfold rowE;rw[if_pos (by decide)];simp[simpleP,sideT,numV,checkV,firstNZ,allB,fitOne]
theorem story_row {vl vr vk vq:Value}{s:Jn}{side t a b:Int}(hG:GoodJ (simpleP vl vr vk vq) s)(hs:side=1∨side=2)(ht:fitsB t=true)(hb:s.mark side<t)(hq:s.seq≠1099511627776)(hn:(s.buf side).all.length<4096)(hf:Fine [numV a,numV b]):
 stepJ (simpleP vl vr vk vq) s ⟨1,side,t,[numV a,numV b]⟩=((rowJK (simpleP vl vr vk vq) s ⟨1,side,t,[numV a,numV b]⟩).1,(rowJK (simpleP vl vr vk vq) s ⟨1,side,t,[numV a,numV b]⟩).2,0)∧GoodJ (simpleP vl vr vk vq) (rowJK (simpleP vl vr vk vq) s ⟨1,side,t,[numV a,numV b]⟩).1:=by
 have he:eventE (simpleP vl vr vk vq) s ⟨1,side,t,[numV a,numV b]⟩=0:=
  ev_fine rfl hs ht (begj_row vl vr vk vq a b side hs) (by show ¬t≤s.mark side;omega) (by show ¬(s.seq=1099511627776∨4096≤(s.buf side).all.length);omega)
 have h1:=step_row (p:=simpleP vl vr vk vq) (s:=s) (v:=⟨1,side,t,[numV a,numV b]⟩) (check_zeroJ.2 hG) he rfl;have h2:=step_goodJ (p:=simpleP vl vr vk vq) (s:=s) (v:=⟨1,side,t,[numV a,numV b]⟩) hf (by rw[h1]);rw[rowJK_is (p:=simpleP vl vr vk vq) (show(1:Int)≠3 by decide)]at h1;rw[h1]at h2;exact⟨h1,h2⟩
def bJ1 (p:Pl):Jn:=(rowJK p (startJ p) ⟨1,1,1,[numV 7,numV 1]⟩).1
def bJ2 (p:Pl):Jn:=(rowJK p (bJ1 p) ⟨1,2,2,[numV 7,numV 2]⟩).1
def bJ3 (p:Pl):Jn:=markJ p (bJ2 p) ⟨2,1,4,[]⟩
def bJ4 (p:Pl):Jn:=(rowJK p (bJ3 p) ⟨1,1,5,[numV 7,numV 4]⟩).1
def bC1 (p:Pl):List Cg:=(rowJK p (startJ p) ⟨1,1,1,[numV 7,numV 1]⟩).2
def bC2 (p:Pl):List Cg:=(rowJK p (bJ1 p) ⟨1,2,2,[numV 7,numV 2]⟩).2
def bC4 (p:Pl):List Cg:=(rowJK p (bJ3 p) ⟨1,1,5,[numV 7,numV 4]⟩).2
theorem playJ_good {p:Pl}{s s':Jn}{v:Ev}{cs:List Cg}{i:Nat}{l:List Ev}(h:stepJ p s v=(s',cs,0)):playJ p s i (v::l)=((playJ p s' (i+1) l).1,cs++(playJ p s' (i+1) l).2.1,(playJ p s' (i+1) l).2.2):=by
 rw[playJ,h];rfl
theorem playJ_bad {p:Pl}{s x:Jn}{v:Ev}{y:List Cg}{n:Int}{i:Nat}{l:List Ev}(h:stepJ p s v=(x,y,n))(hn:n≠0):playJ p s i (v::l)=((playJ p s (i+1) l).1,(playJ p s (i+1) l).2.1,(i:Int)::(playJ p s (i+1) l).2.2):=by
 rw[playJ,h];exact if_neg hn
theorem bC1_is (vl vr vk vq:Value):bC1 (simpleP vl vr vk vq)=[(1,[numV 7,numV 1,nullV,nullV])]:=by rfl
theorem bC2_is (vl vr vk vq:Value):bC2 (simpleP vl vr vk vq)=[(3,[numV 7,numV 1,nullV,nullV]),(4,[numV 7,numV 1,numV 7,numV 2])]:=by rfl
theorem bC4_is (vl vr vk vq:Value):bC4 (simpleP vl vr vk vq)=[(1,[numV 7,numV 4,numV 7,numV 2])]:=by rfl
theorem beg_play (vl vr vk vq:Value):(playS (simpleP vl vr vk vq) storyL).2.1=begC∧(playS (simpleP vl vr vk vq) storyL).2.2.1=[3]∧(playS (simpleP vl vr vk vq) storyL).2.2.2=0∧(playS (simpleP vl vr vk vq) storyL).1.lm=4∧(playS (simpleP vl vr vk vq) storyL).1.seq=3:=by
 have hf: ∀a b:Int,(-9223372036854775808≤a∧a≤9223372036854775807)→(-9223372036854775808≤b∧b≤9223372036854775807)→Fine [numV a,numV b]:=fun a b ha hb=>nums_fine a b ha hb;have g0:GoodJ (simpleP vl vr vk vq) (startJ (simpleP vl vr vk vq)):=start_goodJ (simple_check vl vr vk vq);obtain⟨e1,g1⟩:=story_row (side:=1) (t:=1) (a:=7) (b:=1) g0 (.inl rfl) (by decide) (by show noM<1;decide) (by show(0:Int)≠_;decide) (by show 0<4096;decide) (hf 7 1 (by omega) (by omega));obtain⟨e2,g2⟩:=story_row (s:=bJ1 (simpleP vl vr vk vq)) (side:=2) (t:=2) (a:=7) (b:=2) g1 (.inr rfl) (by decide) (by show noM<2;decide) (by show(1:Int)≠_;decide) (by show 0<4096;decide) (hf 7 2 (by omega) (by omega))
 have e3:stepJ (simpleP vl vr vk vq) (bJ2 (simpleP vl vr vk vq)) ⟨2,1,4,[]⟩=(bJ3 (simpleP vl vr vk vq),[],0):=
  step_mark (check_zeroJ.2 g2) (ev_mark rfl (.inl rfl) (by decide) rfl (by show ¬(4:Int)<noM;decide)) rfl
 have g3:GoodJ (simpleP vl vr vk vq) (bJ3 (simpleP vl vr vk vq)):=by
  have h:=step_goodJ (p:=simpleP vl vr vk vq) (s:=bJ2 (simpleP vl vr vk vq)) (v:=⟨2,1,4,[]⟩) ⟨nofun,nofun⟩ (by rw[e3]);rw[e3]at h;exact h
 have e4:stepJ (simpleP vl vr vk vq) (bJ3 (simpleP vl vr vk vq)) ⟨1,1,4,[numV 7,numV 3]⟩=(zJ,[],7):=
  step_event (check_zeroJ.2 g3) (ev_late rfl (.inl rfl) (by decide) (begj_row vl vr vk vq 7 3 1 (.inl rfl)) (by show(4:Int)≤4;omega)) (by decide)
 obtain⟨e5,g5⟩:=story_row (s:=bJ3 (simpleP vl vr vk vq)) (side:=1) (t:=5) (a:=7) (b:=4) g3 (.inl rfl) (by decide) (by show(4:Int)<5;omega) (by show(2:Int)≠_;decide) (by show 1<4096;decide) (hf 7 4 (by omega) (by omega));have f1:stepJ (simpleP vl vr vk vq) (startJ (simpleP vl vr vk vq)) ⟨1,1,1,[numV 7,numV 1]⟩=(bJ1 (simpleP vl vr vk vq),bC1 (simpleP vl vr vk vq),0):=e1;have f2:stepJ (simpleP vl vr vk vq) (bJ1 (simpleP vl vr vk vq)) ⟨1,2,2,[numV 7,numV 2]⟩=(bJ2 (simpleP vl vr vk vq),bC2 (simpleP vl vr vk vq),0):=e2;have f5:stepJ (simpleP vl vr vk vq) (bJ3 (simpleP vl vr vk vq)) ⟨1,1,5,[numV 7,numV 4]⟩=(bJ4 (simpleP vl vr vk vq),bC4 (simpleP vl vr vk vq),0):=e5
 have hp:playJ (simpleP vl vr vk vq) (startJ (simpleP vl vr vk vq)) 0 storyL=(bJ4 (simpleP vl vr vk vq),bC1 (simpleP vl vr vk vq)++(bC2 (simpleP vl vr vk vq)++([]++(bC4 (simpleP vl vr vk vq)++[]))),[3]):=by
  unfold storyL;rw[playJ_good f1,playJ_good f2,playJ_good e3,playJ_bad e4 (by decide),playJ_good f5];rfl
 rw[playS_run (simple_check vl vr vk vq) (show ¬120<storyL.length by decide) hp];refine⟨?_,rfl,rfl,?_,?_⟩
 ·rw[bC1_is,bC2_is,bC4_is];rfl
 ·rfl
 ·rfl
end Go.Proofs.YtjodlngbiikgfaaGreatDoor
namespace Go.Proofs.YtjodlngbiikgfaaGreatDoor
open Go.RowKit Go.Maps
theorem ac_at {m:List Chn}{k:Nat}{x:Chn}(h:m[k]?=some x):(ac m).drop k=(x.k,x.r)::(ac m).drop (k+1):=by
 have h':(ac m)[k]?=some (x.k,x.r):=by unfold ac;rw[List.getElem?_map,h];rfl
 obtain⟨hk,e⟩:=List.getElem?_eq_some_iff.1 h';rw[List.drop_eq_getElem_cons hk,e]
theorem ac_end (m:List Chn):(ac m).drop m.length=[]:=List.drop_of_length_le (by unfold ac;rw[List.length_map];exact Nat.le_refl _)
set_option maxHeartbeats 4000000 in
set_option maxRecDepth 10000 in
theorem cfold_any (v vm:Value)(l:List Cnt)(m:List Chn)(w:World)(h:View w v l)(hf:FineV l)(hs:Chs w vm m)(hfm:FineC m)(hm:Mx w):
 Calls Tryz.prog 29 #[v,vm] w fun e w'=> ∃v' l',e= .returned (.tuple #[v',.int .i64 (foldS l m).2.1,.int .i64 (foldS l m).2.2])∧View w' v' l'∧av l'=(foldS l m).1∧Below w.heap.size w w':=by
 have HV:=Lib.hid h;have HF:=Lib.hid hf;have HS:=Lib.hid hs;have HFM:=Lib.hid hfm;have HM:=Lib.hid hm;have HE:Hid (foldS l m=if chkV l≠0 then([],0,chkV l)else if formC m≠0 then([],0,formC m)else foldR (av l) 0 (ac m)):=Lib.hid rfl;have HCZ:=Lib.hid (chk_zero hf);have HFZ:=Lib.hid (form_zero hfm);generalize foldS l m=R at HE⊢;obtain⟨Av,cv,rfl,-⟩:=id h.sl;obtain⟨Am,cm,rfl,hm1,hm2,-⟩:=id hs.sl;unfold maxLen at hm2;clear h hf hs hfm hm;generalize hk:chkV l=c at HE HCZ;have HK:=Lib.hid hk;generalize hy:formC m=y at HE HFZ;have HY:=Lib.hid hy;clear hk hy;go_enter Tryz.func29,Tryz.ntmps29
 go_wp2_with fail
 refine(checkView_any _ l _ HV.out HF.out HM.out).mono ?_;rw[HK.out];rintro e w1 ⟨rfl,hb1⟩;by_cases hc:c=0
 ·have HE1:=Lib.hid (HE.out.trans (if_neg (fun h=>h hc)))
  have HG:=Lib.hid (HCZ.out hc);have hc':=beqT hc;clear HE HCZ hc
  go_wp2_with fail
  refine(cform_any _ m _ (HS.out.below hb1) HFM.out (HM.out.below hb1)).mono ?_;rw[HY.out];rintro e w2 ⟨rfl,hb2⟩;have hb12:=below_trans hb1 hb2;by_cases hy:y=0
  ·have HE2:=Lib.hid (HE1.out.trans (if_neg (fun h=>h hy)))
   have HGC:=Lib.hid (HFZ.out hy);have hy':=beqT hy;clear HE1 HFZ hy
   go_wp2_with fail
   refine(of_any _ l _ (HV.out.below hb12) HF.out HG.out (HM.out.below hb12)).mono ?_;rintro e w3 ⟨M,rfl,hM,hP,hb3⟩;have hb13:=below_trans hb12 hb3;have hM2:w.heap.size≤M:=by have:=hb12.size;omega
   have hml:m.length≤4096:=HGC.out.few
   go_wp2_with fail
   go_loopw[10,11,12,13,14,29] (fun _ _ _ _ _ i wr=> ∃(k:Nat) (B:AV),k≤m.length∧i= .int .i64 k∧Hid (R=foldR B k ((ac m).drop k))∧Hid (GoodA B)∧Hid (Pile wr M (4096+k) B)∧Below w.heap.size w wr) (fun _ _ _ _ _ i _=>m.length-(intOf i).toNat)
   case atStart=>exact⟨0,av l,by omega,rfl,HE2.out,HG.out.a,hP,hb13⟩
   case round=>
    obtain⟨k,B,hk,rfl,HR,HGA,HP,hbw⟩:=hrel;by_cases hlt:k<m.length
    ·have hx:=List.getElem?_eq_getElem (l:=m) hlt
     generalize m[k]=x at hx;obtain⟨g,off,rfl,-,hcc⟩:=chn_at HS.out.sl rfl hx;obtain⟨d1,d2⟩:=hcc _ hbw;have hmem:=List.mem_of_getElem? hx;have HRW:=Lib.hid (HS.out.rows x hmem);have HFX:=Lib.hid (HFM.out.rows x hmem);have HGX:=Lib.hid (HGC.out.good x hmem).1;have hx1:=(HGC.out.good x hmem).2.1;have hx4:=(HGC.out.good x hmem).2.2;have HR1:Hid (R=foldR B k ((x.k,x.r)::(ac m).drop (k+1))):=Lib.hid (by rw[HR.out,ac_at hx]);clear hx hcc hmem HR;obtain⟨xv,xr,xk⟩:=x;simp only at d1 d2 HRW HFX HGX hx1 hx4 HR1;obtain⟨Ax,cx,rfl,-⟩:=id HRW.out;have hbw2:=hbw.alloc hbw.size (.cells #[.int .i64 xk,.slice Ax xr.length cx] 55);have HSX:=Lib.hid (HRW.out.below hbw2);have kb:=(Blk.new wr 55 #[.int .i64 xk,.slice Ax xr.length cx]);have HP2:=Lib.hid (HP.out.below (below_alloc wr (.cells #[.int .i64 xk,.slice Ax xr.length cx] 55)))
     have HKE:=Lib.hid (keyErr_ok (r:=xr) (by
      have hz:firstNZ (xr.map checkV)=0:=firstNZ_none (by intro y hy;obtain⟨z,hz,rfl⟩:=List.mem_map.1 hy;exact(HGX.out.good z hz).1);unfold keyErr;rw[if_neg (by have:=HGX.out.few;omega),hz]))
     go_wp2_with fail
     refine(key_any _ xr _ HSX.out HFX.out (HM.out.below hbw2)).mono ?_;rw[HKE.out];rintro e w4 ⟨rfl,hb4⟩;have y0:=(kb.below hb4).cell 0 _ rfl;have y1:=(kb.below hb4).cell 1 _ rfl;have HP4:=Lib.hid (HP2.out.below hb4);have hbw4:=below_trans hbw2 hb4;clear HP HP2
     go_wp2_with fail
     refine(cstep_any xk _ _ hx1 hx4).mono ?_;rintro e w5 ⟨rfl,hb5⟩;have HP5:=Lib.hid (HP4.out.below hb5);have hbw5:=below_trans hbw4 hb5;have hs2:=stepI_two xk;have hln:=look_num xr HGA.out.nums
     go_wp2_with fail
     refine(add_any (n:=stepI xk) _ HP5.out (by omega) HGA.out.rises HGX.out (by omega) (by omega)).mono ?_;rintro e w6 ⟨rfl,hP6,hg6⟩;have hb6:Below w.heap.size w w6:=hbw5.grown hg6 hbw5.size (fun j hj=>by cases hj;exact hM2);have HADD:=Lib.hid (fun h0=>GoodA.add (n:=stepI xk) HGA.out HGX.out h0);have HR2:Hid (R=if(addR B xr (stepI xk)).2=0 then foldR (addR B xr (stepI xk)).1 (k+1) ((ac m).drop (k+1))else([],k,(addR B xr (stepI xk)).2)):=HR1;have HP6:=Lib.hid hP6;clear hP6 hg6 HR1 hs2 hln;generalize addR B xr (stepI xk)=P at HADD HR2 HP6;obtain⟨B2,d⟩:=P;simp only at HADD HR2 HP6;by_cases hd:d=0
     ·have HR3:=Lib.hid (HR2.out.trans (if_pos hd))
      have HG3:=Lib.hid (HADD.out hd);have hd':=beqT hd;clear HR2 HADD hd;go_wp2;go_roundw
      case rel=>exact⟨k+1,B2,by omega,by go_num,HR3.out,HG3.out,HP6.out,hb6⟩
      case measure=>simp[intOf];omega
     ·have EE:=Lib.hid (HR2.out.trans (if_neg hd))
      have hd':=beqF hd;clear HR2 HADD hd;go_wp2
      go_ret3
      first
       |exact⟨.slice none 0 0,[],by rw[EE.out];rfl,View.nil _,by rw[EE.out];rfl,hb6⟩
       |exact⟨.slice none 0 0,by rw[EE.out];rfl,[],View.nil _,by rw[EE.out];rfl,hb6⟩
    ·obtain rfl:k=m.length:=by omega
     have EE:Hid (R=(B,0,0)):=Lib.hid (by rw[HR.out,ac_end];rfl);clear HR
     go_wp2_with fail
     refine(view_any _ HP.out HGA.out.rises (by have:=HGA.out.few;omega)).mono ?_;rintro e w5 ⟨v5,l5,rfl,hO5,ha5,hb5⟩;have HO5:=Lib.hid hO5.view;have HA5:=Lib.hid ha5;have hb6:=below_trans hbw hb5;clear hO5 ha5;go_wp2
     go_ret3
     first
      |exact⟨v5,l5,by rw[EE.out];rfl,HO5.out,by rw[EE.out];exact HA5.out,hb6⟩
      |exact⟨v5,by rw[EE.out];rfl,l5,HO5.out,by rw[EE.out];exact HA5.out,hb6⟩
  ·have EE:=Lib.hid (HE1.out.trans (if_pos hy))
   have hy':=beqF hy;clear HE1 HFZ hy;go_wp2
   go_ret3
   first
    |exact⟨.slice none 0 0,[],by rw[EE.out];rfl,View.nil _,by rw[EE.out];rfl,hb12⟩
    |exact⟨.slice none 0 0,by rw[EE.out];rfl,[],View.nil _,by rw[EE.out];rfl,hb12⟩
 ·have EE:=Lib.hid (HE.out.trans (if_pos hc))
  have hc':=beqF hc;clear HE HCZ hc;go_wp2
  go_ret3
  first
   |exact⟨.slice none 0 0,[],by rw[EE.out];rfl,View.nil _,by rw[EE.out];rfl,hb1⟩
   |exact⟨.slice none 0 0,by rw[EE.out];rfl,[],View.nil _,by rw[EE.out];rfl,hb1⟩
end Go.Proofs.YtjodlngbiikgfaaGreatDoor
namespace Go.Proofs.YtjodlngbiikgfaaGreatDoor
open Go.RowKit Go.Maps
def begN:List Chn:=begC.map fun q=>⟨.slice none 0 0,q.2,q.1⟩
theorem at_ac {m m':List Chn}(h:ac m=ac m')(i:Nat):(m[i]?).map (fun c=>(c.k,c.r))=(m'[i]?).map (fun c=>(c.k,c.r)):=by
 rw[←List.getElem?_map,←List.getElem?_map];exact congrArg (·[i]?) h
theorem kAt_ac {m m':List Chn}(h:ac m=ac m')(i:Nat):kAt m i=kAt m' i:=by
 have h1:=at_ac h i;unfold kAt;cases e:m[i]?<;>cases e':m'[i]?<;>rw[e,e']at h1<;>first|rfl|cases h1|skip
 simp only[Option.map_some,Option.some.injEq,Prod.mk.injEq]at h1;exact h1.1
theorem errAt_ac {m m':List Chn}(h:ac m=ac m')(i:Nat):errAt m i=errAt m' i:=by
 have h1:=at_ac h i;unfold errAt;rw[kAt_ac h,kAt_ac h];cases e:m[i]?<;>cases e':m'[i]?<;>rw[e,e']at h1<;>first|rfl|cases h1|skip
 simp only[Option.map_some,Option.some.injEq,Prod.mk.injEq]at h1;simp only[h1.1,h1.2]
theorem formC_ac {m m':List Chn}(h:ac m=ac m'):formC m=formC m':=by
 have hl:m.length=m'.length:=by
  have:=congrArg List.length h;unfold ac at this;rwa[List.length_map,List.length_map]at this
 unfold formC;rw[hl]
 congr 3
 funext i
 exact errAt_ac h i
theorem fold_ac {m m':List Chn}(h:ac m=ac m'):foldS [] m=foldS [] m':=by
 unfold foldS;rw[formC_ac h,h]
theorem begN_ac:ac begN=begC:=by
 unfold ac begN;rw[List.map_map];exact List.map_id' _
theorem fine_cells {l:List Val}(h: ∀x∈l,x=nullV∨ ∃n:Int,x=numV n∧(-9223372036854775808≤n∧n≤9223372036854775807)):Fine l:=by
 have hn: ∀n:Int,(-9223372036854775808≤n∧n≤9223372036854775807)→Fine [numV n,numV n]:=fun n hn=>nums_fine n n hn hn;refine⟨fun x hx=> ?_,fun x hx=> ?_⟩
 ·rcases h x hx with rfl|⟨n,rfl,hb⟩
  ·show(nullV:Val).s.size≤_
   decide
  ·exact(hn n hb).small _ (by simp)
 ·rcases h x hx with rfl|⟨n,rfl,hb⟩
  ·exact⟨by decide,by decide⟩
  ·exact(hn n hb).nums _ (by simp)
theorem begC_fine {m:List Chn}(h:ac m=begC):FineC m:=by
 have hmem: ∀c∈m,(c.k,c.r)∈begC:=fun c hc=>by rw[←h];exact List.mem_map.2 ⟨c,hc,rfl⟩
 have N: ∀n:Int,(-9223372036854775808≤n∧n≤9223372036854775807)→numV n=nullV∨ ∃k:Int,numV n=numV k∧(-9223372036854775808≤k∧k≤9223372036854775807):=fun n hn=> .inr ⟨n,rfl,hn⟩;refine⟨fun c hc=> ?_,fun c hc=> ?_⟩
 ·have hm:=hmem c hc
  simp only[begC,List.mem_cons,List.not_mem_nil,or_false,Prod.mk.injEq]at hm;refine fine_cells fun x hx=> ?_;rcases hm with⟨-,hr⟩|⟨-,hr⟩|⟨-,hr⟩|⟨-,hr⟩<;>rw[hr]at hx<;>simp only[List.mem_cons,List.not_mem_nil,or_false]at hx<;>rcases hx with rfl|rfl|rfl|rfl<;>first|exact .inl rfl|exact N _ (by omega)
 ·have hm:=hmem c hc
  simp only[begC,List.mem_cons,List.not_mem_nil,or_false,Prod.mk.injEq]at hm;rcases hm with⟨hr,-⟩|⟨hr,-⟩|⟨hr,-⟩|⟨hr,-⟩<;>rw[hr]<;>omega
theorem begv_num (n:Int):checkV (numV n)=0:=by unfold checkV numV;simp[ByteArray.toList_eq]
theorem begv_null:checkV nullV=0:=by unfold checkV nullV;simp[ByteArray.toList_eq]
theorem beg_kerr (a b c d:Val)(ha:checkV a=0)(hb:checkV b=0)(hc:checkV c=0)(hd:checkV d=0):keyErr [a,b,c,d]=0:=by
 unfold keyErr;rw[if_neg (show ¬8<[a,b,c,d].length by simp)];refine firstNZ_none fun x hx=> ?_;obtain⟨y,hy,rfl⟩:=List.mem_map.1 hx;simp only[List.mem_cons,List.not_mem_nil,or_false]at hy;rcases hy with rfl|rfl|rfl|rfl<;>assumption
theorem beg_form:formC begN=0:=by
 refine form_good (by decide) fun j hj=> ?_;have hj4:j<4:=hj;have n:=begv_num;have z:=begv_null;have hc:j=0∨j=1∨j=2∨j=3:=by omega
 rcases hc with rfl|rfl|rfl|rfl
 ·show(if btw 1 1 4=false then(4:Int)else if keyErr [numV 7,numV 1,nullV,nullV]≠0 then keyErr [numV 7,numV 1,nullV,nullV]else _)=0
  rw[beg_kerr _ _ _ _ (n 7) (n 1) z z];rfl
 ·show(if btw 3 1 4=false then(4:Int)else if keyErr [numV 7,numV 1,nullV,nullV]≠0 then keyErr [numV 7,numV 1,nullV,nullV]else _)=0
  rw[beg_kerr _ _ _ _ (n 7) (n 1) z z];rfl
 ·show(if btw 4 1 4=false then(4:Int)else if keyErr [numV 7,numV 1,numV 7,numV 2]≠0 then keyErr [numV 7,numV 1,numV 7,numV 2]else _)=0
  rw[beg_kerr _ _ _ _ (n 7) (n 1) (n 7) (n 2)];rfl
 ·show(if btw 1 1 4=false then(4:Int)else if keyErr [numV 7,numV 4,numV 7,numV 2]≠0 then keyErr [numV 7,numV 4,numV 7,numV 2]else _)=0
  rw[beg_kerr _ _ _ _ (n 7) (n 4) (n 7) (n 2)];rfl
theorem begR_one:rowsF [numV 7,numV 1,nullV,nullV] [numV 7,numV 1,nullV,nullV]=0:=by
 refine rowsF_self ⟨fun x hx=> ?_,by decide⟩;simp only[List.mem_cons,List.not_mem_nil,or_false]at hx;rcases hx with rfl|rfl|rfl|rfl
 ·exact⟨begv_num 7,by decide⟩
 ·exact⟨begv_num 1,by decide⟩
 ·exact⟨begv_null,by decide⟩
 ·exact⟨begv_null,by decide⟩
theorem begR_cell (n:Int):cmpV (numV n) (numV n)=0:=by
 unfold cmpV numV;simp[firstNZ,ordI,cmpB_self]
theorem begR_two:rowsF [numV 7,numV 1,numV 7,numV 2] [numV 7,numV 4,numV 7,numV 2]= -1:=by
 have h:cmpV (numV 1) (numV 4)= -1:=by rfl
 rw[rowsF,begR_cell,if_neg (by simp),rowsF,h,if_pos (by decide)]
theorem beg_foldR:(foldR [] 0 begC).1.length=2∧(foldR [] 0 begC).2.2=0:=by
 have e:foldR [] 0 begC=([([numV 7,numV 1,numV 7,numV 2],1),([numV 7,numV 4,numV 7,numV 2],1)],0,0):=by
  simp[begC,foldR,addR,stepI,lookA,hasA,putA,delA,begR_one,begR_two]
 rw[e];exact⟨rfl,rfl⟩
theorem beg_fold {m:List Chn}(h:ac m=begC):(foldS [] m).1.length=2∧(foldS [] m).2.2=0:=by
 rw[fold_ac (h.trans begN_ac.symm)];unfold foldS;rw[if_neg (show ¬chkV []≠0 from fun e=>e rfl),beg_form,if_neg (by simp),begN_ac];exact beg_foldR
def storyV (a b c d:Value):List Evv:=[⟨1,1,1,a,[numV 7,numV 1]⟩,⟨1,2,2,b,[numV 7,numV 2]⟩,⟨2,1,4,.slice none 0 0,[]⟩,⟨1,1,4,c,[numV 7,numV 3]⟩,⟨1,1,5,d,[numV 7,numV 4]⟩]
theorem storyV_ev (a b c d:Value):(storyV a b c d).map Evv.ev=storyL:=rfl
theorem ev_fit (k s u:Int)(v:Value)(r:List Val)(hk: -9223372036854775808≤k∧k≤9223372036854775807)(hs: -9223372036854775808≤s∧s≤9223372036854775807)(hu: -9223372036854775808≤u∧u≤9223372036854775807)(hf:Fine r):(⟨k,s,u,v,r⟩:Evv).fit:=⟨hk,hs,hu,hf⟩
theorem storyV_fit (a b c d:Value): ∀x∈storyV a b c d,x.fit:=by
 intro x hx;simp only[storyV,List.mem_cons,List.not_mem_nil,or_false]at hx;rcases hx with rfl|rfl|rfl|rfl|rfl
 ·exact ev_fit 1 1 1 _ _ (by omega) (by omega) (by omega) (nums_fine 7 1 (by omega) (by omega))
 ·exact ev_fit 1 2 2 _ _ (by omega) (by omega) (by omega) (nums_fine 7 2 (by omega) (by omega))
 ·exact ev_fit 2 1 4 _ _ (by omega) (by omega) (by omega) ⟨nofun,nofun⟩
 ·exact ev_fit 1 1 4 _ _ (by omega) (by omega) (by omega) (nums_fine 7 3 (by omega) (by omega))
 ·exact ev_fit 1 1 5 _ _ (by omega) (by omega) (by omega) (nums_fine 7 4 (by omega) (by omega))
set_option maxHeartbeats 8000000 in
set_option maxRecDepth 10000 in
theorem story_any (w:World):Calls Tryz.prog 41 #[] w fun e w'=> ∃v a b c d,e= .returned v∧Evs w' v (storyV a b c d)∧Below w.heap.size w w':=by
 go_enter Tryz.func41,Tryz.ntmps41
 go_wp2_with fail
 refine(lawRow_any 7 1 _).mono ?_;rintro e w1 ⟨v1,rfl,hs1,hb1⟩;obtain⟨A1,c1,rfl,-⟩:=id hs1;have HS1:=Lib.hid hs1;have HB1:=Lib.hid hb1;clear hs1 hb1
 go_wp2_with fail
 refine(lawRow_any 7 2 _).mono ?_;rintro e w2 ⟨v2,rfl,hs2,hb2⟩;obtain⟨A2,c2,rfl,-⟩:=id hs2;have HS2:=Lib.hid hs2;have HB2:=Lib.hid hb2;clear hs2 hb2
 go_wp2_with fail
 refine(lawRow_any 7 3 _).mono ?_;rintro e w3 ⟨v3,rfl,hs3,hb3⟩;obtain⟨A3,c3,rfl,-⟩:=id hs3;have HS3:=Lib.hid hs3;have HB3:=Lib.hid hb3;clear hs3 hb3
 go_wp2_with fail
 refine(lawRow_any 7 4 _).mono ?_;rintro e w4 ⟨v4,rfl,hs4,hb4⟩;obtain⟨A4,c4,rfl,-⟩:=id hs4;have HS4:=Lib.hid hs4;have HB4:=Lib.hid hb4;clear hs4 hb4;go_wp2;go_ret;have hn:=below_alloc w4 (.cells #[.int .i64 1,.int .i64 1,.int .i64 1,.slice A1 2 c1,.int .i64 1,.int .i64 2,.int .i64 2,.slice A2 2 c2,.int .i64 2,.int .i64 1,.int .i64 4,.slice none 0 0,.int .i64 1,.int .i64 1,.int .i64 4,.slice A3 2 c3,.int .i64 1,.int .i64 1,.int .i64 5,.slice A4 2 c4] 43);have hb34:=below_trans HB4.out hn;have hb24:=below_trans HB3.out hb34;have hb14:=below_trans HB2.out hb24;refine⟨_,.slice A1 2 c1,.slice A2 2 c2,.slice A3 2 c3,.slice A4 2 c4,rfl,⟨Sl.block (Blk.new w4 43 #[.int .i64 1,.int .i64 1,.int .i64 1,.slice A1 2 c1,.int .i64 1,.int .i64 2,.int .i64 2,.slice A2 2 c2,.int .i64 2,.int .i64 1,.int .i64 4,.slice none 0 0,.int .i64 1,.int .i64 1,.int .i64 4,.slice A3 2 c3,.int .i64 1,.int .i64 1,.int .i64 5,.slice A4 2 c4]) 5 5 (Nat.le_refl _) (by decide),fun x hx=> ?_⟩,below_trans HB1.out hb14⟩;simp only[storyV,List.mem_cons,List.not_mem_nil,or_false]at hx;rcases hx with rfl|rfl|rfl|rfl|rfl
 ·exact⟨HS1.out.below hb14⟩
 ·exact⟨HS2.out.below hb24⟩
 ·exact⟨Sl.nil_ _⟩
 ·exact⟨HS3.out.below hb34⟩
 ·exact⟨HS4.out.below hn⟩
theorem ac_len' (l:List Chn):(ac l).length=l.length:=List.length_map _
set_option maxHeartbeats 8000000 in
set_option maxRecDepth 10000 in
theorem joinBegun_any (w:World)(hm:Mx w):Calls Tryz.prog 13 #[] w fun e w'=>e= .returned (.bool true)∧Below w.heap.size w w':=by
 have HM:=Lib.hid hm;clear hm;go_enter Tryz.func13,Tryz.ntmps13
 go_wp2_with fail
 refine(simple_any _).mono ?_;rintro e w1 ⟨pl,pr,pk,pq,rfl,hok,-,-,-,-,hb1⟩;have HOK:=Lib.hid hok;have HB1:=Lib.hid hb1;clear hok hb1
 go_wp2_with fail
 refine(story_any _).mono ?_;rintro e w2 ⟨sv,a,b,c,d,rfl,hev,hb2⟩;have HB2:=Lib.hid (below_trans HB1.out hb2);have hp:=play_any (simpleP pl pr pk pq) sv (storyV a b c d) w2 (HOK.out.below hb2) (simple_fit pl pr pk pq) hev (storyV_fit a b c d) (HM.out.below HB2.out);obtain⟨p1,p2,p3,p4,p5⟩:=beg_play pl pr pk pq;rw[storyV_ev,p1,p2,p3]at hp;have HJ1:=Lib.hid p4;have HJ2:=Lib.hid p5;obtain⟨J,hJ⟩: ∃q,(playS (simpleP pl pr pk pq) storyL).1=q:=⟨_,rfl⟩;rw[hJ]at hp HJ1 HJ2;simp only[simpleP]at hp;have HP:=Lib.hid hp;clear hev hb2 hp p1 p2 p3 p4 p5 hJ
 go_wp2_with fail
 refine Calls.mono (by with_reducible exact HP.out) ?_;rintro e w3 ⟨t,vo,m,nv,rfl,htj,hac,hpo,hb3⟩;have hL:t.lm=4:=by rw[←HJ1.out,←htj];rfl
 have hS:t.seq=3:=by rw[←HJ2.out,←htj];rfl
 obtain⟨G0,n0,k0,u0⟩:=own_slice hpo.jn.l.mem.own;obtain⟨G1,n1,k1,u1⟩:=own_slice hpo.jn.l.sl;obtain⟨G2,n2,k2,u2⟩:=own_slice hpo.jn.r.mem.own;obtain⟨G3,n3,k3,u3⟩:=own_slice hpo.jn.r.sl;have hta:t.agg= .agg #[.int .i64 t.l.limit,.slice G0 n0 k0,.slice G1 n1 k1,.int .i64 t.r.limit,.slice G2 n2 k2,.slice G3 n3 k3,.int .i64 4,.int .i64 t.rm,.int .i64 3]:=by unfold Jv.agg;rw[u0,u1,u2,u3,hL,hS]
 rw[hta];have hml:m.length=4:=by rw[←ac_len' m,hac];rfl
 obtain⟨Av,cv,hvo,-⟩:=id (Sl.of_own hpo.out.own);rw[hml]at hvo;obtain⟨Bv,bv,hnv,-⟩:=id (Sl.of_own hpo.nos);have hnv':nv= .slice Bv 1 bv:=hnv;subst hvo hnv';have HB3:=Lib.hid (below_trans HB2.out hb3);have HMC:Hid (∀V,Below w3.heap.size w3 V→Chs V (.slice Av 4 cv) m):=Lib.hid (fun V hV=>hpo.out.chs.below hV);have HFC:Hid (FineC m):=Lib.hid (begC_fine hac);have HBG:=Lib.hid (beg_fold hac);obtain⟨bn,off,hbn,-,hcn⟩:=int_at (l:=[3]) (Sl.of_own hpo.nos) rfl (k:=0) (by decide);subst hbn;have HCN:Hid (∀V,Below w3.heap.size w3 V→V.cell? ⟨bn,off+0,none⟩=some (.int .i64 3)):=Lib.hid hcn;have HB23:=Lib.hid hb3
 have HFL:Hid (∀V,Below w3.heap.size w3 V→Calls Tryz.prog 29 #[.slice none 0 0,.slice Av 4 cv] V fun e w'=> ∃Bf cf i0,e= .returned (.tuple #[.slice Bf 2 cf,.int .i64 i0,.int .i64 0])∧Below V.heap.size V w'):=Lib.hid (fun V hV=>by
  have h:=cfold_any (.slice none 0 0) (.slice Av 4 cv) [] m V ⟨Sl.nil_ V,nofun⟩ ⟨nofun,nofun⟩ (HMC.out V hV) HFC.out (HM.out.below (below_trans HB3.out hV));refine Calls.mono h ?_;rintro e w' ⟨v',l',rfl,hv,ha,hb⟩
  have hl:l'.length=2:=by
   have h2:=congrArg List.length ha;rw[HBG.out.1]at h2;unfold av at h2;rwa[List.length_map]at h2
  obtain⟨Bf,cf,e1,-⟩:=hv.sl;rw[hl]at e1;exact⟨Bf,cf,_,by rw[e1,HBG.out.2],hb⟩)
 have HS3:=Lib.hid (Blk.new w3 31 #[.int .i64 t.l.limit,.slice G0 n0 k0,.slice G1 n1 k1,.int .i64 t.r.limit,.slice G2 n2 k2,.slice G3 n3 k3,.int .i64 4,.int .i64 t.rm,.int .i64 3]);have HB34:Hid (Below w3.heap.size w3 (w3.alloc (.cells #[.int .i64 t.l.limit,.slice G0 n0 k0,.slice G1 n1 k1,.int .i64 t.r.limit,.slice G2 n2 k2,.slice G3 n3 k3,.int .i64 4,.int .i64 t.rm,.int .i64 3] 31))):=Lib.hid (below_alloc w3 _);clear hb3 hpo hac htj u0 u1 u2 u3 hta hml hcn HJ1 HJ2 HP
 go_wp2_with fail
 refine Calls.mono (by with_reducible exact HFL.out _ HB34.out) ?_;rintro e w5 ⟨Bf,cf,i0,rfl,hb5⟩;have HB35:Hid (Below w3.heap.size w3 w5):=Lib.hid (below_trans HB34.out hb5);have c6:=(HS3.out.below hb5).cellR 6 rfl;have c8:=(HS3.out.below hb5).cellR 8 rfl;have cn:=HCN.out w5 HB35.out;rw[Nat.add_zero]at cn;have HF:Hid (Below w.heap.size w w5):=Lib.hid (below_trans HB3.out HB35.out);clear hb5;go_wp2;go_ret;exact⟨rfl,HF.out⟩
end Go.Proofs.YtjodlngbiikgfaaGreatDoor
namespace Go.Proofs.YtjodlngbiikgfaaGreatDoor
open Go.RowKit Go.Maps
set_option maxHeartbeats 1000000 in
set_option maxRecDepth 10000 in
theorem rnulls_any (n:Nat)(w:World)(hn:n≤4096):Calls Tryz.prog 24 #[.int .i64 n] w fun e w'=> ∃v',e= .returned v'∧w'.ownsRow w.heap.size 114 3 v' (nullsR n).length (rowCells (nullsR n))∧Below w.heap.size w w':=by
 obtain⟨zs,hzs,hmk⟩:=val_make n hn;have n0:(0:Int)≤(n:Int):=by omega
 have HO:Hid ((w.alloc (.cells zs 114)).ownsRow w.heap.size 114 3 (.slice (some ⟨w.heap.size,0,none⟩) n n) (nullsR n).length (rowCells (nullsR n))):=Lib.hid (by
  rw[nulls_len,hzs];have hl:(rowCells (nullsR n)).length=n*3:=by rw[rowCells_len,nulls_len]
  exact⟨hl,.inr ⟨w.heap.size,n,_,rfl,Nat.le_refl _,Blk.new w 114 (rowCells (nullsR n)).toArray,Nat.le_refl _,by unfold maxLen;omega,by rw[List.size_toArray];exact hl,by rw[List.toList_toArray,←hl];exact List.take_length⟩⟩)
 have HB:=Lib.hid (below_alloc w (.cells zs 114));clear hzs;go_enter Tryz.func24,Tryz.ntmps24
 go_wp2;go_ret;exact⟨_,rfl,HO.out,HB.out⟩
end Go.Proofs.YtjodlngbiikgfaaGreatDoor
namespace Go.Proofs.YtjodlngbiikgfaaGreatDoor
open Go.RowKit Go.Maps
theorem playS_only (p:Pl)(l:List Ev):OnlyC p (playS p l).2.1:=by
 unfold playS;split
 ·exact OnlyC.nil p
 ·split
  ·exact OnlyC.nil p
  ·exact play_only p l _ _
theorem playS_plan0 {p:Pl}{l:List Ev}(h:(playS p l).2.2.2=0):checkP p=0:=by
 unfold playS at h;split at h
 ·rename_i h1;exact absurd h h1
 ·rename_i h1;simpa using h1
set_option maxHeartbeats 16000000 in
set_option maxRecDepth 10000 in
theorem joinOnly_walk (p:Pl)(v:Value)(le:List Evv)(w:World)(hp:p.ok w)(hf:p.fit)(he:Evs w v le)(hef: ∀e∈le,e.fit)(hm:Mx w):
 Calls Tryz.prog 6 #[.agg #[.int .i64 p.kind,.int .i64 p.mode,.int .i64 p.low,.int .i64 p.high,.int .i64 p.size,.int .i64 p.limit,p.vl,p.vr,p.vk,p.vq,.bool p.grouped,p.vg,p.va],v] w fun r w'=>r= .returned (.bool true)∧Below w.heap.size w w':=by
 obtain⟨A0,c0,h0,-⟩:=id hp.l;obtain⟨A1,c1,h1,-⟩:=id hp.r;obtain⟨A2,c2,h2,-⟩:=id hp.k;obtain⟨A3,c3,h3,-⟩:=id hp.q;obtain⟨A4,c4,h4,-⟩:=id hp.g;obtain⟨A5,c5,h5,-⟩:=id hp.a;have hB1:=below_alloc w (.cells #[.int .i64 p.kind,.int .i64 p.mode,.int .i64 p.low,.int .i64 p.high,.int .i64 p.size,.int .i64 p.limit,.slice A0 p.left.length c0,.slice A1 p.right.length c1,.slice A2 p.lkeys.length c2,.slice A3 p.rkeys.length c3,.bool p.grouped,.slice A4 p.group.length c4,.slice A5 p.aggs.length c5] 25);have HKP:=Lib.hid (Blk.new w 25 #[.int .i64 p.kind,.int .i64 p.mode,.int .i64 p.low,.int .i64 p.high,.int .i64 p.size,.int .i64 p.limit,.slice A0 p.left.length c0,.slice A1 p.right.length c1,.slice A2 p.lkeys.length c2,.slice A3 p.rkeys.length c3,.bool p.grouped,.slice A4 p.group.length c4,.slice A5 p.aggs.length c5]);obtain⟨ST,hST⟩: ∃q,playS p (le.map Evv.ev)=q:=⟨_,rfl⟩;have hon:=playS_only p (le.map Evv.ev);have hpl:ST.2.2.2=0→checkP p=0:=fun h=>playS_plan0 (by rw[hST];exact h);rw[hST]at hon;have HPZ:=Lib.hid hpl;obtain⟨W1,hW1⟩: ∃V,w.alloc (.cells #[.int .i64 p.kind,.int .i64 p.mode,.int .i64 p.low,.int .i64 p.high,.int .i64 p.size,.int .i64 p.limit,.slice A0 p.left.length c0,.slice A1 p.right.length c1,.slice A2 p.lkeys.length c2,.slice A3 p.rkeys.length c3,.bool p.grouped,.slice A4 p.group.length c4,.slice A5 p.aggs.length c5] 25)=V:=⟨_,rfl⟩;rw[hW1]at hB1 HKP;have hpy:=play_any p v le W1 (hp.below hB1) hf (he.below hB1) hef (hm.below hB1);rw[h0,h1,h2,h3,h4,h5,hST]at hpy;obtain⟨J,cs,ns,E⟩:=ST;simp only at hpy hon HPZ;have HPY:=Lib.hid hpy;have HON:=Lib.hid hon;have HB1:=Lib.hid hB1;have HMX:=Lib.hid hm;rw[h0,h1,h2,h3,h4,h5];have p0:=HKP.out.cellR 0 rfl;have p1:=HKP.out.cellR 1 rfl;have p2:=HKP.out.cellR 2 rfl;have p3:=HKP.out.cellR 3 rfl;have p4:=HKP.out.cellR 4 rfl;have p5:=HKP.out.cellR 5 rfl;have p6:=HKP.out.cellR 6 rfl;have p7:=HKP.out.cellR 7 rfl;have p8:=HKP.out.cellR 8 rfl;have p9:=HKP.out.cellR 9 rfl;have p10:=HKP.out.cellR 10 rfl;have p11:=HKP.out.cellR 11 rfl;have p12:=HKP.out.cellR 12 rfl;clear hp hf he hef hm h0 h1 h2 h3 h4 h5 hB1 hpy hon hST hpl;go_enter Tryz.func6,Tryz.ntmps6
 go_upto_region 1 with fail
 try rw[hW1]
 clear hW1
 go_wp2_with fail
 refine Calls.mono (by with_reducible exact HPY.out) ?_;rintro r x2 ⟨t,vo,m,nv,rfl,htj,hac,hpo,hb2⟩;obtain⟨G0,n0,k0,u0⟩:=own_slice hpo.jn.l.mem.own;obtain⟨G1,n1,k1,u1⟩:=own_slice hpo.jn.l.sl;obtain⟨G2,n2,k2,u2⟩:=own_slice hpo.jn.r.mem.own;obtain⟨G3,n3,k3,u3⟩:=own_slice hpo.jn.r.sl;have hta:t.agg= .agg #[.int .i64 t.l.limit,.slice G0 n0 k0,.slice G1 n1 k1,.int .i64 t.r.limit,.slice G2 n2 k2,.slice G3 n3 k3,.int .i64 t.lm,.int .i64 t.rm,.int .i64 t.seq]:=by unfold Jv.agg;rw[u0,u1,u2,u3]
 rw[hta];obtain⟨Av,cv,hvo,hmc1,hmc2,-⟩:=id (Sl.of_own hpo.out.own);have hmax:m.length≤9223372036854775807:=by unfold maxLen at hmc2;omega
 subst hvo;have HCH:Hid (∀V,Below x2.heap.size x2 V→Chs V (.slice Av m.length cv) m):=Lib.hid (fun V hV=>hpo.out.chs.below hV);have HAC:=Lib.hid hac;have HX2:=Lib.hid hb2;clear hmc1 hmc2 u0 u1 u2 u3 hta htj hac hpo hb2 HPY p0 p1 p2 p3 p4 p5 p6 p7 p8 p9 p10 p11 p12;have HX3:Hid (Below W1.heap.size W1 (x2.alloc (.cells #[.int .i64 t.l.limit,.slice G0 n0 k0,.slice G1 n1 k1,.int .i64 t.r.limit,.slice G2 n2 k2,.slice G3 n3 k3,.int .i64 t.lm,.int .i64 t.rm,.int .i64 t.seq] 31))):=Lib.hid (HX2.out.alloc HX2.out.size _);have HX23:Hid (Below x2.heap.size x2 (x2.alloc (.cells #[.int .i64 t.l.limit,.slice G0 n0 k0,.slice G1 n1 k1,.int .i64 t.r.limit,.slice G2 n2 k2,.slice G3 n3 k3,.int .i64 t.lm,.int .i64 t.rm,.int .i64 t.seq] 31))):=Lib.hid (below_alloc x2 _);obtain⟨W3,hW3⟩: ∃V,x2.alloc (.cells #[.int .i64 t.l.limit,.slice G0 n0 k0,.slice G1 n1 k1,.int .i64 t.r.limit,.slice G2 n2 k2,.slice G3 n3 k3,.int .i64 t.lm,.int .i64 t.rm,.int .i64 t.seq] 31)=V:=⟨_,rfl⟩;rw[hW3]at HX3 HX23;have HCH3:Hid (∀V,Below W3.heap.size W3 V→Chs V (.slice Av m.length cv) m):=Lib.hid (fun V hV=>HCH.out V (below_trans HX23.out hV));have HKP3:Hid (∀V,Below W3.heap.size W3 V→Blk V w.heap.size 25 #[.int .i64 p.kind,.int .i64 p.mode,.int .i64 p.low,.int .i64 p.high,.int .i64 p.size,.int .i64 p.limit,.slice A0 p.left.length c0,.slice A1 p.right.length c1,.slice A2 p.lkeys.length c2,.slice A3 p.rkeys.length c3,.bool p.grouped,.slice A4 p.group.length c4,.slice A5 p.aggs.length c5]):=Lib.hid (fun V hV=>HKP.out.below (below_trans HX3.out hV))
 have HMB:Hid (∀V,Below W3.heap.size W3 V→Mx V∧Below w.heap.size w V):=Lib.hid (fun V hV=>by
  have h:=below_trans HB1.out (below_trans HX3.out hV);exact⟨HMX.out.below h,h⟩)
 go_upto_region 2 with fail
 try rw[hW3]
 clear hW3 HCH HX2 HX3 HX23 HKP;by_cases hE:E=0
 case' neg=>
  have hEb:(E != 0)=true:=by simpa using hE
  clear hE
  go_wp2_with fail
  refine(joinBegun_any W3 (HMB.out W3 (Below.refl _ _)).1).mono ?_;rintro r x5 ⟨rfl,hb5⟩;have HF:=Lib.hid (HMB.out x5 hb5).2;go_wp2;go_ret;exact⟨rfl,HF.out⟩
 have hEb:(E != 0)=false:=by rw[hE];rfl
 have HP0:Hid (checkP p=0):=Lib.hid (HPZ.out hE);have hl4:p.left.length≤4:=plan_cols HP0.out 1;have hr4:p.right.length≤4:=plan_cols HP0.out 2;clear hE;have p6:=(HKP3.out W3 (Below.refl _ _)).cellR 6 rfl
 go_upto_region 6 with fail
 clear p6 hEb
 go_loopw[10,11] (fun iv _ wr=> ∃k:Nat,k≤m.length∧iv= .int .i64 k∧Below W3.heap.size W3 wr) (fun iv _ _=>m.length-(intOf iv).toNat)
 case atStart=>exact⟨0,by omega,rfl,Below.refl _ _⟩
 case round=>
  rename World=>wr
  obtain⟨k,hk,rfl,hbw⟩:=hrel;by_cases hlt:k<m.length
  ·have hc:=List.getElem?_eq_getElem (l:=m) hlt
   generalize m[k]=c at hc;have hch:=HCH3.out wr hbw;obtain⟨Ax,cx,hvx,hx1,hx2,-⟩:=id (hch.rows c (List.mem_of_getElem? hc));obtain⟨bo,oo,hA,-,hcs⟩:=chn_at hch.sl rfl hc;subst hA;have hc01:=hcs wr (Below.refl _ wr);rw[hvx]at hc01;obtain⟨f0,f1⟩:=hc01
   have HXS:Hid (∀V,Below wr.heap.size wr V→Sl V (.slice Ax c.r.length cx) c.r.length (rowCells c.r)):=Lib.hid (fun V hV=>by
    have h:=(hch.rows c (List.mem_of_getElem? hc)).below hV;rwa[hvx]at h)
   have hon:=HON.out k (c.k,c.r) (by rw[←HAC.out];unfold ac;rw[List.getElem?_map,hc];rfl);have hlen:c.r.length=p.left.length+p.right.length:=hon.1;have hlb:((c.r.length:Int) !=(p.left.length:Int)+(p.right.length:Int))=false:=by rw[hlen];simp
   have h2b:(c.k==2)=false:=by have:=hon.2.1;simpa using this
   have k0:(0:Int)≤(k:Int):=by omega
   have k1:(k:Int)<(m.length:Int):=by omega
   have hcn:p.left.length≤cx:=by omega
   have hci:(p.left.length:Int)≤(cx:Int):=by omega
   have hlx:(p.left.length:Int)≤(c.r.length:Int):=by omega
   have HLEN:=Lib.hid hlen;have HB:=Lib.hid hbw;have hkp:=HKP3.out wr hbw;have p0:=hkp.cellR 0 rfl;have p1:=hkp.cellR 1 rfl;have p7:=hkp.cellR 7 rfl;have HC:=Lib.hid hc;by_cases hk3:c.k=3
   case' neg=>
    have hk3b:(c.k==3)=false:=by simpa using hk3
    have hk3c:(c.k != 3)=true:=by simpa using hk3
    clear hk3 hon hch hvx hcs hc hlen hkp hbw;go_wp2;go_roundw
    case rel=>exact⟨k+1,by omega,by go_num,HB.out⟩
    case measure=>simp[intOf];omega
   have hk3b:(c.k==3)=true:=by rw[hk3];rfl
   have hk3c:(c.k != 3)=false:=by rw[hk3];rfl
   have hon3:=hon.2.2 hk3
   have HTX:Hid (∀V,Below wr.heap.size wr V→Sl V (.slice Ax p.left.length cx) (c.r.take p.left.length).length (rowCells (c.r.take p.left.length))):=Lib.hid (fun V hb=>by
    have h1:=(HXS.out V hb).take (size:=3) (k:=p.left.length) (by omega);rw[show(rowCells c.r).take (p.left.length*3)=rowCells (c.r.take p.left.length)from flat_take Val.cells_len c.r p.left.length]at h1;rwa[List.length_take,Nat.min_eq_left (by omega)])
   by_cases hkind:p.kind=3
   case' pos=>
    have hkb:(p.kind==3)=true:=by rw[hkind];rfl
    have hkc:(p.kind != 3)=false:=by rw[hkind];rfl
    have hy2:=hon3.2;rw[if_pos hkind]at hy2;obtain⟨yd,hyd,hyl,hyt⟩:=hy2;rw[←HAC.out]at hyd;unfold ac at hyd;rw[List.getElem?_map]at hyd;obtain⟨y,hym,hye⟩:=Option.map_eq_some_iff.1 hyd;subst hye;have hkl:k+1<m.length:=(List.getElem?_eq_some_iff.1 hym).1;obtain⟨Ay,cy,hvy,hy1,-,-⟩:=id (hch.rows y (List.mem_of_getElem? hym));obtain⟨bo2,oo2,hA2,-,hcs2⟩:=chn_at hch.sl rfl hym;injection hA2 with hA2;injection hA2 with e1 e2;subst e1 e2;have gy1:=(hcs2 wr.drew (Below.refl _ wr).drew).2;have gy0:=(hcs2 wr (Below.refl _ wr)).2;rw[hvy]at gy0 gy1;have hyc:p.left.length≤cy:=by have:y.r.length=_:=hyl;omega
    have hyi:(p.left.length:Int)≤(cy:Int):=by omega
    have hyx:(p.left.length:Int)≤(y.r.length:Int):=by have:y.r.length=_:=hyl;omega
    have hne:((k:Int)+1==(m.length:Int))=false:=by
     rw[beq_eq_false_iff_ne];omega
    have k2:(k:Int)+1<(m.length:Int):=by omega
    have k2b:(0:Int)≤(k:Int)+1:=by omega
    have hwk:IntKind.i64.wrap ((k:Int)+1)=(k:Int)+1:=by rw[IntKind.wrap_i64];omega
    have hkn:((k:Int)+1).toNat=k+1:=by omega
    have HTY:Hid (∀V,Below wr.heap.size wr V→Sl V (.slice Ay p.left.length cy) (y.r.take p.left.length).length (rowCells (y.r.take p.left.length))):=Lib.hid (fun V hb=>by
     have h0:=(hch.rows y (List.mem_of_getElem? hym)).below hb;rw[hvy]at h0;have hyl2:y.r.length=p.left.length+p.right.length:=hyl;have h1:=h0.take (size:=3) (k:=p.left.length) (by omega);rw[show(rowCells y.r).take (p.left.length*3)=rowCells (y.r.take p.left.length)from flat_take Val.cells_len y.r p.left.length]at h1;rwa[List.length_take,Nat.min_eq_left (by omega)])
    have HSM:Hid (Calls Tryz.prog 23 #[.slice Ay p.left.length cy,.slice Ax p.left.length cx] wr.drew fun e w'=>e= .returned (.bool true)∧Below wr.drew.heap.size wr.drew w'):=Lib.hid (by
     have h:=same_any (.slice Ay p.left.length cy) (.slice Ax p.left.length cx) (y.r.take p.left.length) (c.r.take p.left.length) wr.drew (HTY.out _ (Below.refl _ wr).drew) (HTX.out _ (Below.refl _ wr).drew);rw[show y.r.take p.left.length=c.r.take p.left.length from hyt,(sameR_iff _ _).2 rfl]at h;exact h)
    have HBWD:Hid (Below W3.heap.size W3 wr.drew):=Lib.hid hbw.drew;clear hk3 hon hon3 hch hvx hcs hc hlen hkp hbw hyd hyl hyt hym hvy hcs2 hkind HTX HTY;by_cases hmo:p.mode=1
    case' pos=>have hmb:(p.mode==1)=true:=by rw[hmo];rfl
    case' neg=>have hmb:(p.mode==1)=false:=by simpa using hmo
    all_goals
     clear hmo
     go_upto_region 13 with fail
     refine tr (S:=(fun w'=>w'.cell? ⟨bo,oo+(k+1)*2+1,none⟩=some (.slice Ay y.r.length cy))) gy1 (fun hHeld=> ?_);refine tk 0 ?_;refine tk 1 ?_;refine tk 2 ?_;refine tk 3 ?_;refine tk 4 ?_;refine tk 5 ?_;refine tk 6 ?_;refine tk 7 ?_;refine tk 8 ?_;refine tk 9 ?_;refine tk 10 ?_;refine tk 11 ?_;refine tk 12 ?_;refine tk 13 ?_;refine tk 14 ?_;refine tk 15 ?_;refine tk 16 ?_;refine tc 17 ?_;intro K hK;go_simp;refine Calls.mono (by with_reducible exact HSM.out) ?_;rintro r x6 ⟨rfl,hb6⟩;have HX6:Hid (Below W3.heap.size W3 x6):=Lib.hid (below_trans HBWD.out hb6);have gy:x6.cell? ⟨bo,oo+(k+1)*2+1,none⟩=some (.slice Ay y.r.length cy):=cell_below hb6 gy0;clear hb6
     go_wp2_with fail
     refine hK.out _ _ gy (fun hHeld17=> ?_);clear hK K;refine tk 18 ?_;refine tk 19 ?_;refine td ?_;go_wp2;go_roundw
     case rel=>exact⟨k+1,by omega,by go_num,HX6.out⟩
     case measure=>simp[intOf];omega
   have hkb:(p.kind==3)=false:=by simpa using hkind
   have hkc:(p.kind != 3)=true:=by simpa using hkind
   have hmo: ¬p.mode=1:=fun h=>hkind (hon3.1 h);have hmb:(p.mode==1)=false:=by simpa using hmo
   have hor:=hon3.2;rw[if_neg hkind]at hor;have hr1:1≤p.right.length:=(counts_short (check_ok HP0.out).2.2.1).r1;have hrl:p.left.length<c.r.length:=by omega
   obtain⟨Ax',cx',ex,-,-,-,hx3⟩:=HXS.out wr (Below.refl _ _);injection ex with ex1 _ ex2;subst ex1 ex2;obtain⟨ba,oa,hAx,-⟩:=hx3 (by intro h0;have:=rowCells_len c.r;rw[h0]at this;simp at this;omega);subst hAx;have hcn2: ¬cx=p.left.length:=by omega
   have hnle: ¬(c.r.length:Int)<(p.left.length:Int):=by omega
   have HDX:Hid (∀V,Below wr.heap.size wr V→Sl V (.slice (some ⟨ba,oa+p.left.length*3,none⟩) (c.r.length-p.left.length) (cx-p.left.length)) (c.r.drop p.left.length).length (rowCells (c.r.drop p.left.length))):=Lib.hid (fun V hb=>by
    have h1:=(HXS.out V hb).drop (size:=3) (rowCells_len c.r) (Nat.le_of_lt hrl);rw[show(rowCells c.r).drop (p.left.length*3)=rowCells (c.r.drop p.left.length)from flat_drop Val.cells_len c.r p.left.length]at h1;rw[if_neg hcn2,Option.map_some,Addr.add_lit]at h1;rwa[List.length_drop])
   have HSMX:Hid (∀V vn,Below wr.heap.size wr V→Sl V vn (nullsR p.left.length).length (rowCells (nullsR p.left.length))→Calls Tryz.prog 23 #[.slice (some ⟨ba,oa,none⟩) p.left.length cx,vn] V fun e w'=>e= .returned (.bool (sameR (c.r.take p.left.length) (nullsR p.left.length)))∧Below V.heap.size V w'):=Lib.hid (fun V vn hV hs=>same_any _ vn _ _ V (HTX.out V hV) hs);have HSMD:Hid (∀V vn,Below wr.heap.size wr V→Sl V vn (nullsR p.right.length).length (rowCells (nullsR p.right.length))→Calls Tryz.prog 23 #[.slice (some ⟨ba,oa+p.left.length*3,none⟩) (c.r.length-p.left.length) (cx-p.left.length),vn] V fun e w'=>e= .returned (.bool (sameR (c.r.drop p.left.length) (nullsR p.right.length)))∧Below V.heap.size V w'):=Lib.hid (fun V vn hV hs=>same_any _ vn _ _ V (HDX.out V hV) hs);have HBWD:Hid (Below wr.heap.size wr wr.drew):=Lib.hid (Below.refl _ wr).drew;have g7:=(hkp.below HBWD.out).cellR 7 rfl;clear hk3 hon hon3 hch hvx hcs hc hlen hkp hbw hkind hmo HTX HDX HXS hx3;obtain⟨SA,hSA⟩: ∃q,sameR (c.r.take p.left.length) (nullsR p.left.length)=q:=⟨_,rfl⟩;rw[hSA]at HSMX;cases SA with
   |true=>
    clear hor hSA
    go_upto_region 15 with fail
    refine tr (S:=(fun w'=>w'.cell? ⟨w.heap.size,7,none⟩=some (.slice A1 p.right.length c1))) g7 (fun hHeld=> ?_);refine tk 0 ?_;refine tk 1 ?_;refine tk 2 ?_;refine tk 3 ?_;refine tc 4 ?_;intro K hK;go_simp;refine(rnulls_any p.left.length _ (by omega)).mono ?_;rintro r x6 ⟨vn,rfl,hown6,hb6⟩;have HX6:Hid (Below wr.heap.size wr x6):=Lib.hid (below_trans HBWD.out hb6);obtain⟨An,cn,hvn,-⟩:=id (Sl.of_own hown6);subst hvn;have HS6:=Lib.hid (HSMX.out x6 _ HX6.out (Sl.of_own hown6));have g7b:=cell_below hb6 g7;clear hb6 hown6
    go_wp2_with fail
    refine hK.out _ _ g7b (fun hHeld4=> ?_);clear hK K;refine tc 5 ?_;intro K hK;go_simp;refine Calls.mono (by with_reducible exact HS6.out) ?_;rintro r x7 ⟨rfl,hb7⟩;have HX7:Hid (Below wr.heap.size wr x7):=Lib.hid (below_trans HX6.out hb7);have g7c:=cell_below hb7 g7b;clear hb7 HS6
    go_wp2_with fail
    refine hK.out _ _ g7c (fun hHeld5=> ?_);clear hK K;refine tk 6 ?_;refine tk 7 ?_;refine tn 8 ?_;refine tn 9 ?_;refine tn 10 ?_;refine tn 11 ?_;refine tn 12 ?_;refine tn 13 ?_;refine tn 14 ?_;refine tn 15 ?_;refine tn 16 ?_;refine tk 17 ?_;refine td ?_;go_wp2;go_roundw
    case rel=>exact⟨k+1,by omega,by go_num,below_trans HB.out HX7.out⟩
    case measure=>simp[intOf];omega
   |false=>
    have hdn:sameR (c.r.drop p.left.length) (nullsR p.right.length)=true:=by
     rcases hor with h|h
     ·rw[h,(sameR_iff _ _).2 rfl]at hSA;cases hSA
     ·rw[h];exact(sameR_iff _ _).2 rfl
    rw[hdn]at HSMD;clear hor hSA hdn
    go_upto_region 15 with fail
    refine tr (S:=(fun w'=>w'.cell? ⟨w.heap.size,7,none⟩=some (.slice A1 p.right.length c1))) g7 (fun hHeld=> ?_);refine tk 0 ?_;refine tk 1 ?_;refine tk 2 ?_;refine tk 3 ?_;refine tc 4 ?_;intro K hK;go_simp;refine(rnulls_any p.left.length _ (by omega)).mono ?_;rintro r x6 ⟨vn,rfl,hown6,hb6⟩;have HX6:Hid (Below wr.heap.size wr x6):=Lib.hid (below_trans HBWD.out hb6);obtain⟨An,cn,hvn,-⟩:=id (Sl.of_own hown6);subst hvn;have HS6:=Lib.hid (HSMX.out x6 _ HX6.out (Sl.of_own hown6));have g7b:=cell_below hb6 g7;clear hb6 hown6
    go_wp2_with fail
    refine hK.out _ _ g7b (fun hHeld4=> ?_);clear hK K;refine tc 5 ?_;intro K hK;go_simp;refine Calls.mono (by with_reducible exact HS6.out) ?_;rintro r x7 ⟨rfl,hb7⟩;have HX7:Hid (Below wr.heap.size wr x7):=Lib.hid (below_trans HX6.out hb7);have g7c:=cell_below hb7 g7b;clear hb7 HS6
    go_wp2_with fail
    refine hK.out _ _ g7c (fun hHeld5=> ?_);clear hK K;refine tk 6 ?_;refine tk 7 ?_;refine tk 8 ?_;refine tk 9 ?_;refine tk 10 ?_;refine tk 11 ?_;refine tk 12 ?_;refine tk 13 ?_;refine tc 14 ?_;intro K hK;go_simp;refine(rnulls_any p.right.length _ (by omega)).mono ?_;rintro r x8 ⟨vm,rfl,hown8,hb8⟩;have HX8:Hid (Below wr.heap.size wr x8):=Lib.hid (below_trans HX7.out hb8);obtain⟨Am,cm,hvm,-⟩:=id (Sl.of_own hown8);subst hvm;have HS8:=Lib.hid (HSMD.out x8 _ HX8.out (Sl.of_own hown8));have g7d:=cell_below hb8 g7c;clear hb8 hown8
    go_wp2_with fail
    refine hK.out _ _ g7d (fun hHeld14=> ?_);clear hK K;refine tc 15 ?_;intro K hK;go_simp;refine Calls.mono (by with_reducible exact HS8.out) ?_;rintro r x9 ⟨rfl,hb9⟩;have HX9:Hid (Below wr.heap.size wr x9):=Lib.hid (below_trans HX8.out hb9);have g7e:=cell_below hb9 g7d;clear hb9 HS8
    go_wp2_with fail
    refine hK.out _ _ g7e (fun hHeld15=> ?_);clear hK K;refine tk 16 ?_;refine tk 17 ?_;refine td ?_;go_wp2;go_roundw
    case rel=>exact⟨k+1,by omega,by go_num,below_trans HB.out HX9.out⟩
    case measure=>simp[intOf];omega
  ·obtain rfl:k=m.length:=by omega
   have hge: ¬(m.length:Int)<(m.length:Int):=by omega
   have HMW:=Lib.hid (HMB.out wr hbw);clear hbw
   go_wp2_with fail
   refine(joinBegun_any wr HMW.out.1).mono ?_;rintro r x5 ⟨rfl,hb5⟩;have HF:Hid (Below w.heap.size w x5):=Lib.hid (below_trans HMW.out.2 hb5);clear hb5;go_wp2;go_ret;exact⟨rfl,HF.out⟩
end Go.Proofs.YtjodlngbiikgfaaGreatDoor
namespace Go.Proofs.YtjodlngbiikgfaaGreatDoor
open Go.RowKit Go.Maps
end Go.Proofs.YtjodlngbiikgfaaGreatDoor
namespace Go.Proofs.YtjodlngbiikgfaaGreatDoor
open Go.RowKit Go.Maps
end Go.Proofs.YtjodlngbiikgfaaGreatDoor
namespace Go.Proofs.YtjodlngbiikgfaaGreatDoor
open Go.RowKit Go.Maps
end Go.Proofs.YtjodlngbiikgfaaGreatDoor
