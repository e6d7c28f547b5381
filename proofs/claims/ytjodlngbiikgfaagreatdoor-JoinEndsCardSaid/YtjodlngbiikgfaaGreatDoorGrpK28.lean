/-Joins: what comes, and what goes, of either kind. -/
import Derived.Test.YtjodlngbiikgfaaGreatDoorGrpK21
import Derived.Test.YtjodlngbiikgfaaGreatDoorGrpK22
import Derived.Test.YtjodlngbiikgfaaGreatDoorGrpK23
import Derived.Test.YtjodlngbiikgfaaGreatDoorGrpK25
import Derived.Test.YtjodlngbiikgfaaGreatDoorGrpK26
import Derived.Test.YtjodlngbiikgfaaGreatDoorGrpK27
set_option linter.unusedSimpArgs false
set_option linter.unusedVariables false
namespace Go.Proofs.YtjodlngbiikgfaaGreatDoor
open Go.RowKit Go.Maps
open tm (fitsB fits_of)
theorem plan_cols {p:Pl}(h:checkP p=0)(side:Int):colsN p side≤4:=by
 have h2:p.left.length≤4:=(counts_short (check_ok h).2.2.1).l2;have h3:p.right.length≤4:=(counts_short (check_ok h).2.2.1).r2;unfold colsN;split
 ·exact h3
 ·exact h2
theorem ent_short {p:Pl}{s:Jn}(h:GoodJ p s){F:Int}(hF:F=1∨F=2): ∀x∈(s.buf F).all,x.r.length≤4:=fun x hx=>by
 have h1:=rowE_len (entOk_row (h.ent hF hx)).2.1;rw[h1,←colsN_is];exact plan_cols h.plan F
theorem fitJ_wk {p:Pl}{s:Jv}(h:GoodJ p s.jn)(hl: ∀e∈s.l.bu.all,FineE e)(hr: ∀e∈s.r.bu.all,FineE e):WkG s:=⟨h.left,h.right,hl,hr⟩
theorem metV_is (p:Pl)(s:Jv)(e:Evv)(key:ByteArray)(has:Bool)(hk:keyFor p e.side e.r=(key,has)):
 metV p s.jn e.ev=if has=true then(scanL s.l.bu key.toList e.t 1099511627776).filter (meetsV p s.r.bu key.toList e.t)else[]:=by
 unfold metV;rw[show keyFor p e.ev.side e.ev.r=(key,has)from hk];rfl
theorem tellV_is (p:Pl)(s:Jv)(e:Evv)(key:ByteArray)(has:Bool)(hk:keyFor p e.side e.r=(key,has))(x:En):tellV p s.jn e.ev x=tellVK p s.r.bu key.toList e.r x:=by
 unfold tellV;rw[show keyFor p e.ev.side e.ev.r=(key,has)from hk];rfl
theorem metS_is (p:Pl)(s:Jv)(e:Evv)(key:ByteArray)(has:Bool)(hk:keyFor p e.side e.r=(key,has)):
 metS p s.jn e.ev=if has=true then scanL (s.buf (3-e.side)).bu key.toList (spanT p.kind p.low p.high p.size e.side e.t).1 (spanT p.kind p.low p.high p.size e.side e.t).2 else[]:=by
 unfold metS;rw[show keyFor p e.ev.side e.ev.r=(key,has)from hk,←Jv.buf_bu];rfl
theorem comes_any (w0:World)(g:Nat)(p:Pl)(e:Evv)(lm rm:Int)(s:Jv)(key:ByteArray)(has:Bool)(vo0:Value)(w:World)(hI:WkI w g w0.heap.size p e lm rm ⟨s,key,has,vo0,[],false⟩)(hW:WkB w0 w g)(hG:WkG s)(hJ:GoodJ p s.jn)(hv:EvOk p s.jn e.ev)(hk:e.kind=1)(hkey:keyFor p e.side e.r=(key,has))(he:e.ok w0)(hm:Mx w0):
 Calls Tryz.prog (if p.kind=3 then 249 else 262) #[.agg #[],.pointer (some ⟨g,0,none⟩)] w fun r w'=>r= .returned (.tuple #[])∧ ∃(b:Buf) (vo:Value) (m:List Chn),b.bu=touchB (s.buf (farS e.side)).bu (bringJ p s.jn e.ev).2.1∧ac m=(bringJ p s.jn e.ev).1∧
  WkI w' g w0.heap.size p e lm rm ⟨s.put (farS e.side) b,key,has,vo,m,(bringJ p s.jn e.ev).2.2⟩∧Turned (wkF g vo0) w w':=by
 have hs:e.side=1∨e.side=2:=hv.side;have hr0:rowE p e.side e.r=0:=(hv.row hk).1
 have hel:e.r.length≤4:=by
  have h1:=rowE_len hr0;rw[h1,←colsN_is];exact plan_cols hJ.plan _
 by_cases h3:p.kind=3
 ·rw[if_pos h3]
  rcases hs with h1|h2
  ·have HT:=tleft_any w0 g p e lm rm s key has vo0 w hI hW hG h1 he hel (ent_short hJ (F:=2) (.inr rfl)) (plan_cols hJ.plan 2) hm
   refine Calls.mono HT ?_;rintro r w' ⟨hr,vo,m,hm2,hI2,hT2⟩;have hne: ¬e.ev.side=2:=by show ¬e.side=2;omega
   have hbr:bringJ p s.jn e.ev=(tellL p (if has=true then latestB s.r.bu key.toList e.t else none) e.r,[],(if has=true then latestB s.r.bu key.toList e.t else none).isSome):=by
    unfold bringJ;rw[if_pos h3,if_neg hne,show keyFor p e.ev.side e.ev.r=(key,has)from hkey]
    show(match(if has=true then latestB s.r.bu key.toList e.t else none)with
     |some m=>_
     |none=>_)=_
    cases (if has=true then latestB s.r.bu key.toList e.t else none)<;>rfl
   rw[hbr];refine⟨hr,s.buf (farS e.side),vo,m,rfl,hm2,?_,hT2⟩;rw[Jv.put_same];exact hI2
  ·have HT:=tright_any w0 g p e lm rm s key has vo0 w hI hW hG h2 he hel (ent_short hJ (F:=1) (.inl rfl)) (ent_short hJ (F:=2) (.inr rfl)) (plan_cols hJ.plan 2) hm
   refine Calls.mono HT ?_;rintro r w' ⟨hr,b,hb,vo,m,hm2,hI2,hT2⟩
   have hbr:bringJ p s.jn e.ev=((metV p s.jn e.ev).flatMap (tellV p s.jn e.ev),metV p s.jn e.ev,false):=by
    unfold bringJ;rw[if_pos h3,if_pos (show e.ev.side=2 from h2)]
   have hf:farS e.side=1:=by rw[h2];rfl
   have htell:tellV p s.jn e.ev=tellVK p s.r.bu key.toList e.r:=funext fun x=>tellV_is p s e key has hkey x;rw[hbr,hf,metV_is p s e key has hkey,htell];exact⟨hr,b,vo,m,hb,hm2,hI2,hT2⟩
 ·rw[if_neg h3]
  have HT:=scomes_any w0 g p e lm rm s key has vo0 w hI hW hG hJ.plan h3 hs hv.time he hel (by have h:=ent_short hJ (F:=farS e.side) (far_sides hs);rw[←Jv.buf_bu]at h;exact h) (plan_cols hJ.plan _) (plan_cols hJ.plan _) hm;refine Calls.mono HT ?_;rintro r w' ⟨hr,b,hb,vo,m,hm2,hI2,hT2⟩
  have hbr:bringJ p s.jn e.ev=(if(metS p s.jn e.ev).isEmpty=true then aloneS p e.ev else(metS p s.jn e.ev).flatMap (tellS p e.ev),metS p s.jn e.ev, !(metS p s.jn e.ev).isEmpty):=by
   unfold bringJ;rw[if_neg h3]
  rw[hbr,metS_is p s e key has hkey];exact⟨hr,b,vo,m,hb,hm2,hI2,hT2⟩
theorem goes_any (w0:World)(g:Nat)(p:Pl)(e:Evv)(lm rm:Int)(X:Wk)(w:World)(hI:WkI w g w0.heap.size p e lm rm X)(hW:WkB w0 w g)(hG:WkG X.s)(hp:p.ok w0)(hf:p.fit)(hz:checkP p=0)(hk:MarksOk X.s)(hr:noM≤X.s.lm∧noM≤X.s.rm)(hm:Mx w0):
 Calls Tryz.prog (if p.kind=3 then 250 else 263) #[.agg #[],.pointer (some ⟨g,0,none⟩)] w fun r w'=>r= .returned (.tuple #[])∧ ∃s':Jv,s'.jn=(if p.kind=3 then goneJ (dropJ p X.s.jn)else dropJ p X.s.jn)∧WkI w' g w0.heap.size p e lm rm ⟨s',X.key,X.has,X.vo,X.m,X.met⟩∧Turned (fun k=>k=g) w w':=by
 by_cases h3:p.kind=3
 ·rw[if_pos h3,if_pos h3]
  exact tgoes_any w0 g p e lm rm X w hI hW hG hp hf hz hk hr hm
 ·rw[if_neg h3,if_neg h3]
  exact sgoes_any w0 g p e lm rm X w hI hW hG hp hf hz hk hm
end Go.Proofs.YtjodlngbiikgfaaGreatDoor
