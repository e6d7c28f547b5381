/-Joins: none, say. Joins: touch. (Printed by genjn3.py.) Joins: drop. (Printed by genjn4.py.) -/
import Derived.Test.YtjodlngbiikgfaaGreatDoorGrpK17
import Derived.Test.YtjodlngbiikgfaaGreatDoorGrpK19
import Derived.Test.YtjodlngbiikgfaaGreatDoorGrpK18
import Derived.Test.YtjodlngbiikgfaaGreatDoorGrpK6
set_option linter.unusedSimpArgs false
set_option linter.unusedVariables false
namespace Go.Proofs.YtjodlngbiikgfaaGreatDoor
open Go.RowKit Go.Maps
set_option maxHeartbeats 1000000 in
set_option maxRecDepth 10000 in
theorem none_any (n:Nat)(w:World)(hn:n≤4096):Calls Tryz.prog 253 #[.int .i64 n] w fun e w'=> ∃v',e= .returned v'∧w'.ownsRow w.heap.size 114 3 v' (nullsR n).length (rowCells (nullsR n))∧Below w.heap.size w w':=by
 obtain⟨zs,hzs,hmk⟩:=val_make n hn;have n0:(0:Int)≤(n:Int):=by omega
 have HO:=Lib.hid (made_own (w:=w) hn hzs);have HB:=Lib.hid (below_alloc w (.cells zs 114));clear hzs;go_enter Tryz.func253,Tryz.ntmps253
 go_wp2;go_ret;exact⟨_,rfl,HO.out,HB.out⟩
theorem own_cases (side:Int):ownS side=1∨ownS side=2:=by unfold ownS;split<;>omega
theorem WkI.outs {w w':World}{g base:Nat}{p:Pl}{e:Evv}{lm rm:Int}{X:Wk}{vo:Value}{m:List Chn}(h:WkI w g base p e lm rm X)(hw:Turned (fun k=>X.vo.ownBlock=some k) w w')(ho:OwnC w' base vo m)(hv:vo.ownBlock=X.vo.ownBlock∨ ∀k,vo.ownBlock=some k→w.heap.size≤k)(hr: ∀c∈m,∀k,c.v.ownBlock=some k→k≠g)
 :WkI (w'.setCell ⟨g,38,none⟩ vo) g base p e lm rm ⟨X.s,X.key,X.has,vo,m,X.met⟩:=by
 have hgl:=h.blk.lt
 have hog: ∀k,vo.ownBlock=some k→k≠g:=fun k hk=>by
  rcases hv with hv|hv
  ·exact h.og k (hv▸hk)
  ·have:=hv k hk;omega
 have hb:Blk w' g 103 (wkA p g e lm rm X):=blk_turned h.blk hw (fun e=>h.og g e rfl);have ht:=turned_set w' ⟨g,38,none⟩ vo;have hl:=h.l.turned hw fun k e=>h.lo k (.inr e);have hrr:=h.r.turned hw fun k e=>h.ro k (.inr e);refine⟨hb.set_ 38 vo,?_,ho.turned ht (fun k hk e=>hog k hk e) (fun c hc k hk e=>hr c hc k hk e),hog,hr,hl.turned ht (fun k e=>h.lo k (.inl e)),hrr.turned ht (fun k e=>h.ro k (.inl e)),fun k hk=> ?_,fun k hk=> ?_⟩
 ·rw[World.size_setCell];exact Nat.le_trans h.size hw.size
 ·rcases hk with hk|hk
  ·exact h.lo k (.inl hk)
  ·rcases hv with hv|hv
   ·exact h.lo k (.inr (hv▸hk))
   ·exact h.l.off (hv k hk)
 ·rcases hk with hk|hk
  ·exact h.ro k (.inl hk)
  ·rcases hv with hv|hv
   ·exact h.ro k (.inr (hv▸hk))
   ·exact h.r.off (hv k hk)
set_option maxHeartbeats 4000000 in
set_option maxRecDepth 10000 in
theorem say_any (g base:Nat)(p:Pl)(e:Evv)(lm rm:Int)(X:Wk)(kind:Int)(va vb:Value)(a b:List Val)(w:World)(hI:WkI w g base p e lm rm X)(ha:Sl w va a.length (rowCells a))(hb:Sl w vb b.length (rowCells b))(hl:a.length+b.length≤1000)(hm:X.m.length≤1000000):
 Calls Tryz.prog 252 #[.pointer (some ⟨g,0,none⟩),.int .i64 kind,va,vb] w fun x w'=>x= .returned (.tuple #[])∧ ∃vo' vr,WkI w' g base p e lm rm ⟨X.s,X.key,X.has,vo',X.m++[⟨vr,joinedR (ownS e.side) a b,kind⟩],X.met⟩∧(vo'.ownBlock=X.vo.ownBlock∨ ∀k,vo'.ownBlock=some k→w.heap.size≤k)∧Turned (wkF g X.vo) w w':=by
 have HI:=Lib.hid hI;have HA:=Lib.hid ha;have HB:=Lib.hid hb;have HML:=Lib.hid hm;obtain⟨Aa,ca,rfl,na,ma,-⟩:=id ha;obtain⟨Ab,cb,rfl,nb,mb,-⟩:=id hb;obtain⟨Ao,no,co,hvo⟩:=own_slice hI.out.own;have HVO:=Lib.hid hvo;obtain⟨O,hO⟩: ∃O,ownS e.side=O:=⟨_,rfl⟩;have hO2:=own_cases e.side;rw[hO]at hO2;have HO:=Lib.hid hO;have HBX:=Lib.hid (below_alloc w (.cells #[.slice Aa a.length ca,.slice Ab b.length cb] 41));have HTW:Hid (Sl (w.alloc (.cells #[.slice Aa a.length ca,.slice Ab b.length cb] 41)) (.slice (some ⟨w.heap.size,0,none⟩) 2 2) 2 [.slice Aa a.length ca,.slice Ab b.length cb]):=Lib.hid (Sl.block (Blk.new w 41 #[.slice Aa a.length ca,.slice Ab b.length cb]) 2 2 (Nat.le_refl _) (by decide));have HCAT:=Lib.hid (concat_anyV (.slice (some ⟨w.heap.size,0,none⟩) 2 2) (.slice Aa a.length ca) (.slice Ab b.length cb) a b _ HTW.out (ha.below HBX.out) (hb.below HBX.out) hl);clear ha hb hI hm hvo hO HTW;go_enter Tryz.func252,Tryz.ntmps252
 go_wp2_with fail
 refine Calls.mono (by with_reducible exact HCAT.out) ?_;rintro x w2 ⟨v2,rfl,ho2,hb2⟩;obtain⟨A2,n2,c2,hv2⟩:=own_slice ho2;subst hv2;have hbw2:=below_trans HBX.out hb2;have HI2:=Lib.hid (HI.out.below hbw2);have HOW2:=Lib.hid ho2;have HS2:=Lib.hid hbw2.size;have y28:w2.cell? ⟨g,28,none⟩=some (.int .i64 O):=by rw[←HO.out];exact HI2.out.blk.cellR 28 rfl
 clear ho2 hb2 HCAT;obtain⟨Z,hZ⟩: ∃Z,joinedR (ownS e.side) a b=Z:=⟨_,rfl⟩;have HZ:=Lib.hid hZ;have hzz:=hZ;rw[HO.out]at hzz;rcases hO2 with rfl|rfl
 ·have HOWy:Hid (w2.ownsRow w.heap.size 114 3 (.slice A2 n2 c2) Z.length (rowCells Z)):=Lib.hid (by
   rw[←hzz];exact own_low HOW2.out (by rw[World.size_alloc];exact Nat.le_succ _))
  have HIy:=HI2;have hbwy:=hbw2;clear HI2 HOW2 hbw2 hZ hzz HBX;have hml:=HML.out;have hgl:=HI.out.blk.lt;have HOX:=Lib.hid (HIy.out.out.alloc (.cells #[.int .i64 kind,.slice A2 n2 c2] 55));have HKX:=Lib.hid (HIy.out.blk.alloc (.cells #[.int .i64 kind,.slice A2 n2 c2] 55));have HWX:=Lib.hid (HIy.out.below (below_alloc w2 (.cells #[.int .i64 kind,.slice A2 n2 c2] 55)));have HSZ:Hid (base≤(w2.alloc (.cells #[.int .i64 kind,.slice A2 n2 c2] 55)).heap.size):=Lib.hid HWX.out.size;have y38:w2.cell? ⟨g,38,none⟩=some (.slice Ao no co):=by rw[←HVO.out];exact HIy.out.blk.cellR 38 rfl
  have HCH:=Lib.hid (one_chn w2 ⟨.slice A2 n2 c2,Z,kind⟩);have HROW:=Lib.hid (Sl.of_own HOWy.out);rw[HVO.out]at HOX
  go_wp2_with (at_builtin;refine wpList_app rfl (.tmp 27) (.tmp 31) 44 rfl base 55 2 32 Tryz.underlying44 chgI _ X.m.length _ rfl HOX.out.own _ 1 (Chn.cells ⟨.slice A2 n2 c2,Z,kind⟩) rfl HCH.out rfl (chn_one HROW.out) ?_ ?_ HSZ.out ?_)
  ·unfold maxLen;omega
  ·omega
  ·intro v3 w3 hown3 hg3 hat3
   have HNW:=Lib.hid (HOX.out.snoc (c:=⟨.slice A2 n2 c2,Z,kind⟩) hown3 hg3 (by rw[World.size_alloc];exact hat3) (HROW.out.below (below_alloc w2 (.cells #[.int .i64 kind,.slice A2 n2 c2] 55))) (fun k hk=>by
    have h1:=own_ge HOWy.out k hk;have h2:=own_lt HOWy.out k hk;have h3:=HI.out.size;refine⟨by omega,by rw[World.size_alloc];omega,fun e=> ?_⟩;have h4:=own_lt HI.out.out.own k (by rw[HVO.out];exact e);omega))
   have hK3:Blk w3 g 103 (wkA p g e lm rm X):=blk_turned HKX.out (turned_grown hg3) (fun e=>HI.out.og g (by rw[HVO.out];exact e) rfl);have y3:=hK3.cellR 38 rfl;have f3:=hK3.free 38;have HG3:=Lib.hid hg3;have HA3:Hid (v3.ownBlock=(Value.slice Ao no co).ownBlock∨v3.ownBlock=some (w2.alloc (.cells #[.int .i64 kind,.slice A2 n2 c2] 55)).heap.size):=Lib.hid (by rw[World.size_alloc];exact hat3)
   have HAT:Hid (v3.ownBlock=X.vo.ownBlock∨ ∀k,v3.ownBlock=some k→w.heap.size≤k):=Lib.hid (by
    rcases hat3 with h|h
    ·exact .inl (by rw[h,HVO.out])
    ·refine .inr fun k hk=> ?_
     rw[h]at hk;injection hk with hk;have:=hbwy.size;omega)
   obtain⟨A3,n3,c3,hv3⟩:=own_slice hown3;subst hv3;rw[HVO.out]at y3;have HBY:=Lib.hid hbwy;clear hown3 hg3 hat3 hK3 y38;go_wp2
   first|go_end0|((try simp only[Exit.inBlock,Exit.then]);refine bodyPost_ret (results_none rfl _ _ _) rfl ?_)
   have hT1:Turned (fun k=>X.vo.ownBlock=some k) (w2.alloc (.cells #[.int .i64 kind,.slice A2 n2 c2] 55)) w3:=by rw[HVO.out];exact turned_grown HG3.out
   refine⟨rfl,.slice A3 n3 c3,.slice A2 n2 c2,?_,HAT.out,?_⟩
   ·refine HWX.out.outs hT1 (by rw[HZ.out];exact HNW.out) ?_ ?_
    ·rcases HAT.out with h|h
     ·exact .inl h
     ·refine .inr fun k hk=> ?_
      have h5:=HOX.out.own;rcases HA3.out with h6|h6
      ·rw[h6]at hk
       have h7:=own_lt HI.out.out.own k (by rw[HVO.out];exact hk);have h8:=h k (by rw[h6];exact hk);omega
      ·rw[h6]at hk
       injection hk with hk;omega
    ·intro c hc k hk
     rcases List.mem_append.1 hc with hc|hc
     ·exact HI.out.rg c hc k hk
     ·rw[List.mem_singleton.1 hc]at hk
      have h1:=own_ge HOWy.out k hk;omega
   ·exact((turned_below (F:=wkF g X.vo) (HBY.out.alloc HBY.out.size (.cells #[.int .i64 kind,.slice A2 n2 c2] 55))).transN hT1 (fun k _ e=> .inr e)).trans ((turned_set w3 ⟨g,38,none⟩ (.slice A3 n3 c3)).imp (fun k _ e=> .inl e))
 ·have HBY2:=Lib.hid (below_trans hbw2 (below_alloc w2 (.cells #[.slice Ab b.length cb,.slice Aa a.length ca] 41)))
  have HTW:Hid (Sl (w2.alloc (.cells #[.slice Ab b.length cb,.slice Aa a.length ca] 41)) (.slice (some ⟨w2.heap.size,0,none⟩) 2 2) 2 [.slice Ab b.length cb,.slice Aa a.length ca]):=Lib.hid (Sl.block (Blk.new w2 41 #[.slice Ab b.length cb,.slice Aa a.length ca]) 2 2 (Nat.le_refl _) (by decide));have HCAT:=Lib.hid (concat_anyV (.slice (some ⟨w2.heap.size,0,none⟩) 2 2) (.slice Ab b.length cb) (.slice Aa a.length ca) b a _ HTW.out (HB.out.below HBY2.out) (HA.out.below HBY2.out) (by omega));clear HTW HOW2
  go_wp2_with fail
  refine Calls.mono (by with_reducible exact HCAT.out) ?_;rintro x wy ⟨v4,rfl,ho4,hb4⟩;obtain⟨A2,n2,c2,hv4⟩:=own_slice ho4;subst hv4;have hbwy:=below_trans HBY2.out hb4;have HIy:=Lib.hid (HI.out.below hbwy)
  have HOWy:Hid (wy.ownsRow w.heap.size 114 3 (.slice A2 n2 c2) Z.length (rowCells Z)):=Lib.hid (by
   rw[←hzz];exact own_low ho4 (by rw[World.size_alloc];have:=hbw2.size;omega))
  clear ho4 hb4 HCAT HI2 hbw2 y28 HBX HBY2 hZ hzz;have hml:=HML.out;have hgl:=HI.out.blk.lt;have HOX:=Lib.hid (HIy.out.out.alloc (.cells #[.int .i64 kind,.slice A2 n2 c2] 55));have HKX:=Lib.hid (HIy.out.blk.alloc (.cells #[.int .i64 kind,.slice A2 n2 c2] 55));have HWX:=Lib.hid (HIy.out.below (below_alloc wy (.cells #[.int .i64 kind,.slice A2 n2 c2] 55)));have HSZ:Hid (base≤(wy.alloc (.cells #[.int .i64 kind,.slice A2 n2 c2] 55)).heap.size):=Lib.hid HWX.out.size;have y38:wy.cell? ⟨g,38,none⟩=some (.slice Ao no co):=by rw[←HVO.out];exact HIy.out.blk.cellR 38 rfl
  have HCH:=Lib.hid (one_chn wy ⟨.slice A2 n2 c2,Z,kind⟩);have HROW:=Lib.hid (Sl.of_own HOWy.out);rw[HVO.out]at HOX
  go_wp2_with (at_builtin;refine wpList_app rfl (.tmp 27) (.tmp 31) 44 rfl base 55 2 32 Tryz.underlying44 chgI _ X.m.length _ rfl HOX.out.own _ 1 (Chn.cells ⟨.slice A2 n2 c2,Z,kind⟩) rfl HCH.out rfl (chn_one HROW.out) ?_ ?_ HSZ.out ?_)
  ·unfold maxLen;omega
  ·omega
  ·intro v3 w3 hown3 hg3 hat3
   have HNW:=Lib.hid (HOX.out.snoc (c:=⟨.slice A2 n2 c2,Z,kind⟩) hown3 hg3 (by rw[World.size_alloc];exact hat3) (HROW.out.below (below_alloc wy (.cells #[.int .i64 kind,.slice A2 n2 c2] 55))) (fun k hk=>by
    have h1:=own_ge HOWy.out k hk;have h2:=own_lt HOWy.out k hk;have h3:=HI.out.size;refine⟨by omega,by rw[World.size_alloc];omega,fun e=> ?_⟩;have h4:=own_lt HI.out.out.own k (by rw[HVO.out];exact e);omega))
   have hK3:Blk w3 g 103 (wkA p g e lm rm X):=blk_turned HKX.out (turned_grown hg3) (fun e=>HI.out.og g (by rw[HVO.out];exact e) rfl);have y3:=hK3.cellR 38 rfl;have f3:=hK3.free 38;have HG3:=Lib.hid hg3;have HA3:Hid (v3.ownBlock=(Value.slice Ao no co).ownBlock∨v3.ownBlock=some (wy.alloc (.cells #[.int .i64 kind,.slice A2 n2 c2] 55)).heap.size):=Lib.hid (by rw[World.size_alloc];exact hat3)
   have HAT:Hid (v3.ownBlock=X.vo.ownBlock∨ ∀k,v3.ownBlock=some k→w.heap.size≤k):=Lib.hid (by
    rcases hat3 with h|h
    ·exact .inl (by rw[h,HVO.out])
    ·refine .inr fun k hk=> ?_
     rw[h]at hk;injection hk with hk;have:=hbwy.size;omega)
   obtain⟨A3,n3,c3,hv3⟩:=own_slice hown3;subst hv3;rw[HVO.out]at y3;have HBY:=Lib.hid hbwy;clear hown3 hg3 hat3 hK3 y38;go_wp2
   first|go_end0|((try simp only[Exit.inBlock,Exit.then]);refine bodyPost_ret (results_none rfl _ _ _) rfl ?_)
   have hT1:Turned (fun k=>X.vo.ownBlock=some k) (wy.alloc (.cells #[.int .i64 kind,.slice A2 n2 c2] 55)) w3:=by rw[HVO.out];exact turned_grown HG3.out
   refine⟨rfl,.slice A3 n3 c3,.slice A2 n2 c2,?_,HAT.out,?_⟩
   ·refine HWX.out.outs hT1 (by rw[HZ.out];exact HNW.out) ?_ ?_
    ·rcases HAT.out with h|h
     ·exact .inl h
     ·refine .inr fun k hk=> ?_
      have h5:=HOX.out.own;rcases HA3.out with h6|h6
      ·rw[h6]at hk
       have h7:=own_lt HI.out.out.own k (by rw[HVO.out];exact hk);have h8:=h k (by rw[h6];exact hk);omega
      ·rw[h6]at hk
       injection hk with hk;omega
    ·intro c hc k hk
     rcases List.mem_append.1 hc with hc|hc
     ·exact HI.out.rg c hc k hk
     ·rw[List.mem_singleton.1 hc]at hk
      have h1:=own_ge HOWy.out k hk;omega
   ·exact((turned_below (F:=wkF g X.vo) (HBY.out.alloc HBY.out.size (.cells #[.int .i64 kind,.slice A2 n2 c2] 55))).transN hT1 (fun k _ e=> .inr e)).trans ((turned_set w3 ⟨g,38,none⟩ (.slice A3 n3 c3)).imp (fun k _ e=> .inl e))
end Go.Proofs.YtjodlngbiikgfaaGreatDoor
namespace Go.Proofs.YtjodlngbiikgfaaGreatDoor
open Go.RowKit Go.Maps
theorem OwnBuf.off' {x:World}{n:Nat}{b:Buf}(h:OwnBuf x n b){k g:Nat}{w:World}{base:Nat}{p:Pl}{e:Evv}{lm rm:Int}{X:Wk}(hk:wkF g X.vo k)(hI:WkI w g base p e lm rm X)(hn:w.heap.size≤n):b.off k:=by
 have hlt:k<w.heap.size:=by
  rcases hk with rfl|hk
  ·exact hI.blk.lt
  ·exact own_lt hI.out.own k hk
 exact⟨fun j hj=>by have:=(h.mem.range hj).1;omega,fun j hj=>by have:=own_ge h.sl j hj;omega,fun q hq j hj=>by have:=((h.runs q hq).range hj).1;omega⟩
theorem far_cases (side:Int):3-ownS side=1∨3-ownS side=2:=by rcases own_cases side with h|h<;>omega
set_option maxHeartbeats 4000000 in
set_option maxRecDepth 10000 in
theorem touch_any (g base:Nat)(p:Pl)(e:Evv)(lm rm:Int)(X:Wk)(x:Ent)(w:World)(hI:WkI w g base p e lm rm X)(hG:WkG X.s)(hx:Sl w x.v x.e.r.length (rowCells x.e.r))(hat:atS (X.s.buf (3-ownS e.side)).bu x.e.key x.e.t x.e.s=0)(hm:Mx w):
 Calls Tryz.prog 255 #[.pointer (some ⟨g,0,none⟩),x.agg] w fun r w'=>r= .returned (.tuple #[])∧ ∃b:Buf,b.bu=meetB (X.s.buf (3-ownS e.side)).bu x.e.key x.e.t x.e.s∧WkI w' g base p e lm rm ⟨X.s.put (3-ownS e.side) b,X.key,X.has,X.vo,X.m,X.met⟩∧Turned (fun k=>k=g) w w':=by
 have hF:=far_cases e.side;have H34:Hid (∀W,WkI W g base p e lm rm X→W.cell? ⟨g,34,none⟩=some (bufA g (3-ownS e.side))):=Lib.hid fun W h=>h.blk.cellR 34 rfl;obtain⟨F,hFe⟩: ∃F,3-ownS e.side=F:=⟨_,rfl⟩;rw[hFe]at hat hF H34⊢;have hF2:=Lib.hid hF;have HFE:=Lib.hid hFe;obtain⟨FB,hFB⟩: ∃b,X.s.buf F=b:=⟨_,rfl⟩;have hok:=(hI.buf F).1.ok;have hft:=(hG.buf F).2;have HBC0:Hid (∀W,WkI W g base p e lm rm X→W.cell? ⟨g,bufO F,none⟩=some (.int .i64 (X.s.buf F).limit)∧W.cell? ⟨g,bufO F+1,none⟩=some (X.s.buf F).vm∧W.cell? ⟨g,bufO F+2,none⟩=some (X.s.buf F).vr):=Lib.hid fun W h=>h.bufCells hF;have HPUT:Hid (∀W (b:Buf),WkI W g base p e lm rm X→OwnBuf W base b→(∀k,wkF g X.vo k→b.off k)→WkI (((W.setCell ⟨g,bufO F,none⟩ (.int .i64 b.limit)).setCell ⟨g,bufO F+1,none⟩ b.vm).setCell ⟨g,bufO F+2,none⟩ b.vr) g base p e lm rm ⟨X.s.put F b,X.key,X.has,X.vo,X.m,X.met⟩):=Lib.hid fun W b h1 h2 h3=>h1.putB hF h2 h3;rw[hFB]at hok hft hat HBC0⊢;rw[bufA_is]at H34;obtain⟨o,ho⟩: ∃o,bufO F=o:=⟨_,rfl⟩;rw[ho]at H34 HBC0 HPUT;obtain⟨Ae,ce,hve,-⟩:=id hx;have hB:=below_alloc w (.cells #[.string (str x.e.key),.int .i64 x.e.t,.int .i64 x.e.s,.slice Ae x.e.r.length ce,.bool x.e.met] 63);have HKE:=Lib.hid (Blk.new w 63 #[.string (str x.e.key),.int .i64 x.e.t,.int .i64 x.e.s,.slice Ae x.e.r.length ce,.bool x.e.met]);have HI1:=Lib.hid (hI.below hB);have HI0:=Lib.hid hI;obtain⟨W1,hW1⟩: ∃V,w.alloc (.cells #[.string (str x.e.key),.int .i64 x.e.t,.int .i64 x.e.s,.slice Ae x.e.r.length ce,.bool x.e.met] 63)=V:=⟨_,rfl⟩;rw[hW1]at HKE HI1 hB;have HB1:=Lib.hid hB;have HBC:=Lib.hid (fun W (h:Below W1.heap.size W1 W)=>HBC0.out W (HI1.out.below h));have HP34:=Lib.hid (fun W (h:Below W1.heap.size W1 W)=>H34.out W (HI1.out.below h))
 have HMT:Hid (∀W (h:Below W1.heap.size W1 W),Calls Tryz.prog 257 #[.agg #[.int .i64 FB.limit,FB.vm,FB.vr],.string (str x.e.key),.int .i64 x.e.t,.int .i64 x.e.s] W fun e w'=> ∃b':Buf,e= .returned (.tuple #[.agg #[.int .i64 b'.limit,b'.vm,b'.vr],.int .i64 0])∧OwnBuf w' W.heap.size b'∧b'.bu=meetB FB.bu x.e.key x.e.t x.e.s∧Below W.heap.size W w'):=Lib.hid (fun W h=>by
  have h1:=meet_anyB FB x.e.key x.e.t x.e.s W (hok.below (below_trans HB1.out h)) hft (hm.below (below_trans HB1.out h));rw[hat,if_pos rfl]at h1;exact h1)
 have HNE:Hid (w.heap.size≠g):=Lib.hid (by have:=HI0.out.blk.lt;omega);have HOE:=Lib.hid ho;have hEA:x.agg= .agg #[.string (str x.e.key),.int .i64 x.e.t,.int .i64 x.e.s,.slice Ae x.e.r.length ce,.bool x.e.met]:=by rw[←hve];rfl
 rw[hEA];have hd0:Below W1.heap.size W1 W1.drew:=(Below.refl _ W1).drew;have HSS:=Lib.hid (fun w' (h:Below W1.heap.size W1 w')=>And.intro ((HKE.out.below h).cellR 0 rfl) (And.intro ((HKE.out.below h).cellR 1 rfl) (And.intro ((HKE.out.below h).cellR 2 rfl) (HP34.out w' h))));clear hok hft hI hG hx hat hm hF hFe hFB hve hB hEA HBC0 H34 ho;go_enter Tryz.func255,Tryz.ntmps255
 go_upto_region 1 with fail
 first|rw[hW1]|skip
 clear hW1;refine tr (S:=(fun w'=>w'.cell? ⟨w.heap.size,0,none⟩=some (.string (str x.e.key))∧w'.cell? ⟨w.heap.size,1,none⟩=some (.int .i64 x.e.t)∧w'.cell? ⟨w.heap.size,2,none⟩=some (.int .i64 x.e.s)∧w'.cell? ⟨g,34,none⟩=some (.pointer (some ⟨g,o,none⟩)))) (HSS.out _ hd0) (fun hHeld=> ?_);refine tk 0 ?_;refine tk 1 ?_;refine tk 2 ?_;refine tk 3 ?_;refine tk 4 ?_;refine tk 5 ?_;refine tk 6 ?_;refine tk 7 ?_;refine tk 8 ?_;refine tk 9 ?_;refine tk 10 ?_;refine tk 12 ?_;refine tk 13 ?_;refine tk 14 ?_;refine tk 15 ?_;refine tk 16 ?_;refine tk 17 ?_;refine tc 11 ?_;intro K hK;obtain⟨b0,b1,b2⟩:=HBC.out _ hd0;go_simp;clear b0 b1 b2;refine hK.out _ _ (HSS.out _ hd0) (fun hHeld11=> ?_);clear hK K;refine tc 18 ?_;intro K hK;go_simp;refine Calls.mono (by with_reducible exact HMT.out _ hd0) ?_;rintro r x4 ⟨⟨lim,vm,mem,vr,runs⟩,rfl,hOB,hbu,hb4⟩;have hd4:=below_trans hd0 hb4;obtain⟨Am,nm,cm,hvm⟩:=own_slice hOB.mem.own;obtain⟨Ar,nr,cr,hvr⟩:=own_slice hOB.sl;simp only at hvm hvr;subst hvm hvr;have HOB:=Lib.hid hOB;have HBU:=Lib.hid hbu;have hIx:=HI1.out.below hd4;have HPB:=Lib.hid (HPUT.out x4 _ hIx (hOB.low (Nat.le_trans HI1.out.size hd0.size)) (fun k hk=>hOB.off' hk HI1.out hd0.size));have HSF:Hid ((((x4.setCell ⟨g,o,none⟩ (.int .i64 lim)).setCell ⟨g,o+1,none⟩ (.slice Am nm cm)).setCell ⟨g,o+2,none⟩ (.slice Ar nr cr)).cell? ⟨w.heap.size,0,none⟩=some (.string (str x.e.key))∧(((x4.setCell ⟨g,o,none⟩ (.int .i64 lim)).setCell ⟨g,o+1,none⟩ (.slice Am nm cm)).setCell ⟨g,o+2,none⟩ (.slice Ar nr cr)).cell? ⟨w.heap.size,1,none⟩=some (.int .i64 x.e.t)∧(((x4.setCell ⟨g,o,none⟩ (.int .i64 lim)).setCell ⟨g,o+1,none⟩ (.slice Am nm cm)).setCell ⟨g,o+2,none⟩ (.slice Ar nr cr)).cell? ⟨w.heap.size,2,none⟩=some (.int .i64 x.e.s)∧(((x4.setCell ⟨g,o,none⟩ (.int .i64 lim)).setCell ⟨g,o+1,none⟩ (.slice Am nm cm)).setCell ⟨g,o+2,none⟩ (.slice Ar nr cr)).cell? ⟨g,34,none⟩=some (.pointer (some ⟨g,o,none⟩))):=Lib.hid (And.intro ((((HKE.out.below hd4).far (p:=⟨g,o,none⟩) HNE.out _).far (p:=⟨g,o+1,none⟩) HNE.out _).far (p:=⟨g,o+2,none⟩) HNE.out _ |>.cellR 0 rfl) (And.intro ((((HKE.out.below hd4).far (p:=⟨g,o,none⟩) HNE.out _).far (p:=⟨g,o+1,none⟩) HNE.out _).far (p:=⟨g,o+2,none⟩) HNE.out _ |>.cellR 1 rfl) (And.intro ((((HKE.out.below hd4).far (p:=⟨g,o,none⟩) HNE.out _).far (p:=⟨g,o+1,none⟩) HNE.out _).far (p:=⟨g,o+2,none⟩) HNE.out _ |>.cellR 2 rfl) (by have:=HPB.out.blk.cellR 34 rfl;rw[this,bufA_is,HFE.out,HOE.out]))));clear hb4 hOB hbu hIx
 go_wp2_with fail
 refine hK.out _ _ (HSS.out _ hd4) (fun hHeld18=> ?_);clear hK K;refine tk 19 ?_;refine tk 20 ?_;refine tk 21 ?_;refine tk 22 ?_;refine tc 23 ?_;intro K hK;obtain⟨b0,b1,b2⟩:=HBC.out _ hd4;have hK:=(HI1.out.below hd4).blk;have q0:=hK.free o;have q1:=hK.free (o+1);have q2:=hK.free (o+2);have hp34:=HPB.out.blk.cellR 34 rfl;clear hK;go_simp;clear b0 b1 b2 q0 q1 q2;refine hK.out _ _ HSF.out (fun hHeld23=> ?_);clear hK K;refine td ?_;go_wp2
 first|go_end0|((try simp only[Exit.inBlock,Exit.then]);refine bodyPost_ret (results_none rfl _ _ _) rfl ?_)
 exact⟨rfl,⟨lim,.slice Am nm cm,mem,.slice Ar nr cr,runs⟩,HBU.out,HPB.out,(turned_below (below_trans HB1.out hd4)).trans (((turned_set x4 ⟨g,o,none⟩ (.int .i64 lim)).trans (turned_set _ ⟨g,o+1,none⟩ (.slice Am nm cm))).trans (turned_set _ ⟨g,o+2,none⟩ (.slice Ar nr cr)))⟩
end Go.Proofs.YtjodlngbiikgfaaGreatDoor
namespace Go.Proofs.YtjodlngbiikgfaaGreatDoor
open Go.RowKit Go.Maps
open tm (fitsB)
theorem gone_is {p:Pl}{side mark:Int}(hz:checkP p=0)(hs:side=1∨side=2)(hm:fitsB mark=true):goneR p side mark=(goneF p side mark,0):=by
 unfold goneR;rw[if_pos hz,if_pos hs,if_pos hm]
structure MarksOk (s:Jv):Prop where
 lm:s.lm≠noM→fitsB s.lm=true
 rm:s.rm≠noM→fitsB s.rm=true
theorem WkI.putL {w:World}{g base:Nat}{p:Pl}{e:Evv}{lm rm:Int}{X:Wk}(h:WkI w g base p e lm rm X){b:Buf}(hb:OwnBuf w base b)(hoff: ∀k,wkF g X.vo k→b.off k):
 WkI (((w.setCell ⟨g,13,none⟩ (.int .i64 b.limit)).setCell ⟨g,14,none⟩ b.vm).setCell ⟨g,15,none⟩ b.vr) g base p e lm rm ⟨X.s.put 1 b,X.key,X.has,X.vo,X.m,X.met⟩:=by
 have h2:=h.putB (.inl rfl) hb hoff;rw[show bufO 1=13 from rfl]at h2;exact h2
theorem WkI.putR {w:World}{g base:Nat}{p:Pl}{e:Evv}{lm rm:Int}{X:Wk}(h:WkI w g base p e lm rm X){b:Buf}(hb:OwnBuf w base b)(hoff: ∀k,wkF g X.vo k→b.off k):
 WkI (((w.setCell ⟨g,16,none⟩ (.int .i64 b.limit)).setCell ⟨g,17,none⟩ b.vm).setCell ⟨g,18,none⟩ b.vr) g base p e lm rm ⟨X.s.put 2 b,X.key,X.has,X.vo,X.m,X.met⟩:=by
 have h2:=h.putB (.inr rfl) hb hoff;rw[show bufO 2=16 from rfl]at h2;exact h2
structure WkB (w0 w:World) (g:Nat):Prop where
 below:Below w0.heap.size w0 w
 far:w0.heap.size≤g
theorem WkB.turned {w0 w w':World}{g:Nat}{p:Pl}{e:Evv}{lm rm:Int}{X:Wk}(h:WkB w0 w g)(hI:WkI w g w0.heap.size p e lm rm X)(ht:Turned (wkF g X.vo) w w'):WkB w0 w' g:=
 ⟨below_turned h.below ht (fun k hk=>by
  rcases hk with rfl|hk
  ·exact h.far
  ·exact own_ge hI.out.own k hk),h.far⟩
theorem WkB.more {w0 w w':World}{g:Nat}(h:WkB w0 w g)(hb:Below w.heap.size w w'):WkB w0 w' g:=⟨below_trans h.below hb,h.far⟩
theorem turned_g {g:Nat}{vo:Value}{w w':World}(h:Turned (fun k=>k=g) w w'):Turned (wkF g vo) w w':=h.imp fun k _ e=> .inl e
set_option maxHeartbeats 4000000 in
set_option maxRecDepth 10000 in
theorem jdrop_any (w0:World)(g:Nat)(p:Pl)(e:Evv)(lm rm:Int)(X:Wk)(w:World)(hI:WkI w g w0.heap.size p e lm rm X)(hW:WkB w0 w g)(hG:WkG X.s)(hp:p.ok w0)(hf:p.fit)(hz:checkP p=0)(hk:MarksOk X.s)(hm:Mx w0):
 Calls Tryz.prog 248 #[.agg #[],.pointer (some ⟨g,0,none⟩)] w fun r w'=>r= .returned (.tuple #[])∧ ∃s':Jv,s'.jn=dropJ p X.s.jn∧WkI w' g w0.heap.size p e lm rm ⟨s',X.key,X.has,X.vo,X.m,X.met⟩∧Turned (fun k=>k=g) w w':=by
 have hB1:=below_alloc w (.cells #[] 157);have HI1:=Lib.hid (hI.below hB1);have HT0:Hid (Turned (fun k=>k=g) w (w.alloc (.cells #[] 157))):=Lib.hid (turned_below hB1);have HG:=Lib.hid hG;have HPO:=Lib.hid hp;have HPF:=Lib.hid hf;have HZ:=Lib.hid hz;have HM:=Lib.hid hk;have HMX:=Lib.hid hm;obtain⟨W1,hW1⟩: ∃V,w.alloc (.cells #[] 157)=V:=⟨_,rfl⟩;have HB1:=Lib.hid (below_trans hW.below hB1);have HGW:=Lib.hid hW.far;rw[hW1]at HB1 HI1 HT0;have z1:=HI1.out.blk.cellR 19 rfl;have z2:=HI1.out.blk.cellR 20 rfl;clear hI hG hp hf hz hk hm hB1 hW;by_cases hmlm:X.s.lm=noM
 ·have b1:(X.s.lm != -1099511627777)=false:=by rw[hmlm];decide
  have NHlm:=Lib.hid hmlm;clear hmlm;by_cases hmrm:X.s.rm=noM
  ·have b2:(X.s.rm != -1099511627777)=false:=by rw[hmrm];decide
   have NHrm:=Lib.hid hmrm;clear hmrm;go_enter Tryz.func248,Tryz.ntmps248
   go_upto_region 1 with fail
   first|rw[hW1]|skip
   clear hW1;go_wp2
   first|go_end0|((try simp only[Exit.inBlock,Exit.then]);refine bodyPost_ret (results_none rfl _ _ _) rfl ?_)
   exact⟨rfl,X.s,by unfold dropJ;rw[if_pos (show X.s.jn.rm=noM from NHrm.out),if_pos (show X.s.jn.lm=noM from NHlm.out)],HI1.out,HT0.out⟩
  ·have b2:(X.s.rm != -1099511627777)=true:=by simpa[noM]using hmrm
   have NHrm:Hid (X.s.rm≠noM):=Lib.hid hmrm;clear hmrm;go_enter Tryz.func248,Tryz.ntmps248
   go_upto_region 1 with fail
   first|rw[hW1]|skip
   clear hW1;have HK1:=Lib.hid HI1.out.blk
   have HGN1:Hid (∀V,Below W1.heap.size W1 V→Calls Tryz.prog 60 #[.agg #[.int .i64 p.kind,.int .i64 p.mode,.int .i64 p.low,.int .i64 p.high,.int .i64 p.size,.int .i64 p.limit,p.vl,p.vr,p.vk,p.vq,.bool p.grouped,p.vg,p.va],.int .i64 1,.int .i64 X.s.rm] V fun e w'=>e= .returned (.tuple #[.int .i64 (goneF p 1 X.s.rm),.int .i64 0])∧Below V.heap.size V w'):=Lib.hid (fun V h=>by
    have h1:=gone_any p 1 X.s.rm V (HPO.out.below (below_trans HB1.out h)) HPF.out;rw[gone_is HZ.out (by decide) (HM.out.rm NHrm.out)]at h1;exact h1)
   have HDR1:Hid (∀V,Below W1.heap.size W1 V→Calls Tryz.prog 94 #[.agg #[.int .i64 X.s.l.limit,X.s.l.vm,X.s.l.vr],.int .i64 (goneF p 1 X.s.rm)] V fun e w'=> ∃b':Buf,e= .returned (.tuple #[.agg #[.int .i64 b'.limit,b'.vm,b'.vr],.int .i64 0])∧OwnBuf w' V.heap.size b'∧b'.bu=dropB X.s.l.bu (goneF p 1 X.s.rm)∧Below V.heap.size V w'):=Lib.hid (fun V h=>by
    have h1:=drop_any X.s.l (goneF p 1 X.s.rm) V (HI1.out.l.ok.below h) (goodFitJ HG.out.l HG.out.fl) (HMX.out.below (below_trans HB1.out h));rw[check_zeroB.2 HG.out.l,if_pos rfl]at h1;exact h1)
   have hd1:Below W1.heap.size W1 W1.drew:=(Below.refl _ W1).drew;have HSS1:=Lib.hid (fun w' (h:Below W1.heap.size W1 w')=>And.intro ((HK1.out.below h).cellR 0 rfl) (And.intro ((HK1.out.below h).cellR 1 rfl) (And.intro ((HK1.out.below h).cellR 2 rfl) (And.intro ((HK1.out.below h).cellR 3 rfl) (And.intro ((HK1.out.below h).cellR 4 rfl) (And.intro ((HK1.out.below h).cellR 5 rfl) (And.intro ((HK1.out.below h).cellR 6 rfl) (And.intro ((HK1.out.below h).cellR 7 rfl) (And.intro ((HK1.out.below h).cellR 8 rfl) (And.intro ((HK1.out.below h).cellR 9 rfl) (And.intro ((HK1.out.below h).cellR 10 rfl) (And.intro ((HK1.out.below h).cellR 11 rfl) (And.intro ((HK1.out.below h).cellR 12 rfl) ((HK1.out.below h).cellR 20 rfl))))))))))))))
   go_upto_region 5 with fail
   refine tr (S:=(fun w'=>w'.cell? ⟨g,0,none⟩=some (.int .i64 p.kind)∧w'.cell? ⟨g,1,none⟩=some (.int .i64 p.mode)∧w'.cell? ⟨g,2,none⟩=some (.int .i64 p.low)∧w'.cell? ⟨g,3,none⟩=some (.int .i64 p.high)∧w'.cell? ⟨g,4,none⟩=some (.int .i64 p.size)∧w'.cell? ⟨g,5,none⟩=some (.int .i64 p.limit)∧w'.cell? ⟨g,6,none⟩=some (p.vl)∧w'.cell? ⟨g,7,none⟩=some (p.vr)∧w'.cell? ⟨g,8,none⟩=some (p.vk)∧w'.cell? ⟨g,9,none⟩=some (p.vq)∧w'.cell? ⟨g,10,none⟩=some (.bool p.grouped)∧w'.cell? ⟨g,11,none⟩=some (p.vg)∧w'.cell? ⟨g,12,none⟩=some (p.va)∧w'.cell? ⟨g,20,none⟩=some (.int .i64 X.s.rm))) (HSS1.out _ hd1) (fun hHeld=> ?_);refine tk 0 ?_;refine tk 1 ?_;refine tk 2 ?_;refine tk 3 ?_;refine tk 4 ?_;refine tk 5 ?_;refine tk 6 ?_;refine tk 7 ?_;refine tk 8 ?_;refine tc 9 ?_;intro K hK;go_simp;refine Calls.mono (by with_reducible exact HGN1.out _ hd1) ?_;rintro r x4 ⟨rfl,hb4⟩;have hx4:=below_trans hd1 hb4;clear hb4
   go_wp2_with fail
   refine hK.out _ _ (HSS1.out _ hx4) (fun hHeld9=> ?_);clear hK K;refine tk 10 ?_;refine tk 11 ?_;refine tk 12 ?_;refine tk 13 ?_;refine tk 14 ?_;refine td ?_;have hKx:=HK1.out.below hx4;have p0:x4.cell? ⟨g,13,none⟩=some (.int .i64 X.s.l.limit):=hKx.cellR 13 rfl;have p1:x4.cell? ⟨g,14,none⟩=some X.s.l.vm:=hKx.cellR 14 rfl;have p2:x4.cell? ⟨g,15,none⟩=some X.s.l.vr:=hKx.cellR 15 rfl;clear hKx
   go_wp2_with fail
   clear p0 p1 p2;refine Calls.mono (by with_reducible exact HDR1.out _ hx4) ?_;rintro r x5 ⟨⟨lim1,vm1,mem1,vr1,runs1⟩,rfl,hOB,hbu1,hb5⟩;have hx5:=below_trans hx4 hb5;obtain⟨Am1,nm1,cm1,hvm⟩:=own_slice hOB.mem.own;obtain⟨Ar1,nr1,cr1,hvr⟩:=own_slice hOB.sl;simp only at hvm hvr;subst hvm hvr;have hIx:=HI1.out.below hx5;have hb1:=hOB.low (base':=w0.heap.size) (Nat.le_trans HI1.out.size hx4.size);have hb2: ∀k,wkF g X.vo k→Buf.off ⟨lim1,.slice Am1 nm1 cm1,mem1,.slice Ar1 nr1 cr1,runs1⟩ k:=fun k hk=>OwnBuf.off' (X:=⟨X.s,X.key,X.has,X.vo,X.m,X.met⟩) hOB hk HI1.out hx4.size;have hpq:=hIx.putL hb1 hb2;have HP1:Hid (WkI (((x5.setCell ⟨g,13,none⟩ (.int .i64 lim1)).setCell ⟨g,14,none⟩ (.slice Am1 nm1 cm1)).setCell ⟨g,15,none⟩ (.slice Ar1 nr1 cr1)) g w0.heap.size p e lm rm ⟨X.s.put 1 ⟨lim1,.slice Am1 nm1 cm1,mem1,.slice Ar1 nr1 cr1,runs1⟩,X.key,X.has,X.vo,X.m,X.met⟩):=Lib.hid hpq;clear hpq hb1 hb2;have HT1:=Lib.hid (((turned_below (F:=fun k=>k=g) hx5).trans (turned_set x5 ⟨g,13,none⟩ (.int .i64 lim1))).trans ((turned_set _ ⟨g,14,none⟩ (.slice Am1 nm1 cm1)).trans (turned_set _ ⟨g,15,none⟩ (.slice Ar1 nr1 cr1))));have HU1:=Lib.hid hbu1;have q0:=hIx.blk.free 13;have q1:=hIx.blk.free 14;have q2:=hIx.blk.free 15;have r0:=hIx.blk.cellR 13 rfl;have r1:=hIx.blk.cellR 14 rfl;have r2:=hIx.blk.cellR 15 rfl;clear hbu1 hOB hb5 hIx hx4 hx5 hd1 HGN1 HDR1 HSS1 HK1;go_wp2
   first|go_end0|((try simp only[Exit.inBlock,Exit.then]);refine bodyPost_ret (results_none rfl _ _ _) rfl ?_)
   refine⟨rfl,_,?_,HP1.out,HT0.out.trans HT1.out⟩;unfold dropJ;rw[if_pos (show X.s.jn.lm=noM from NHlm.out),if_neg (show ¬X.s.jn.rm=noM from NHrm.out)];show(⟨Buf.bu ⟨lim1,.slice Am1 nm1 cm1,mem1,.slice Ar1 nr1 cr1,runs1⟩,X.s.r.bu,X.s.lm,X.s.rm,X.s.seq⟩:Jn)=_;rw[HU1.out];rfl
 ·have b1:(X.s.lm != -1099511627777)=true:=by simpa[noM]using hmlm
  have NHlm:Hid (X.s.lm≠noM):=Lib.hid hmlm;clear hmlm;by_cases hmrm:X.s.rm=noM
  ·have b2:(X.s.rm != -1099511627777)=false:=by rw[hmrm];decide
   have NHrm:=Lib.hid hmrm;clear hmrm;go_enter Tryz.func248,Tryz.ntmps248
   go_upto_region 1 with fail
   first|rw[hW1]|skip
   clear hW1;have HK1:=Lib.hid HI1.out.blk
   have HGN1:Hid (∀V,Below W1.heap.size W1 V→Calls Tryz.prog 60 #[.agg #[.int .i64 p.kind,.int .i64 p.mode,.int .i64 p.low,.int .i64 p.high,.int .i64 p.size,.int .i64 p.limit,p.vl,p.vr,p.vk,p.vq,.bool p.grouped,p.vg,p.va],.int .i64 2,.int .i64 X.s.lm] V fun e w'=>e= .returned (.tuple #[.int .i64 (goneF p 2 X.s.lm),.int .i64 0])∧Below V.heap.size V w'):=Lib.hid (fun V h=>by
    have h1:=gone_any p 2 X.s.lm V (HPO.out.below (below_trans HB1.out h)) HPF.out;rw[gone_is HZ.out (by decide) (HM.out.lm NHlm.out)]at h1;exact h1)
   have HDR1:Hid (∀V,Below W1.heap.size W1 V→Calls Tryz.prog 94 #[.agg #[.int .i64 X.s.r.limit,X.s.r.vm,X.s.r.vr],.int .i64 (goneF p 2 X.s.lm)] V fun e w'=> ∃b':Buf,e= .returned (.tuple #[.agg #[.int .i64 b'.limit,b'.vm,b'.vr],.int .i64 0])∧OwnBuf w' V.heap.size b'∧b'.bu=dropB X.s.r.bu (goneF p 2 X.s.lm)∧Below V.heap.size V w'):=Lib.hid (fun V h=>by
    have h1:=drop_any X.s.r (goneF p 2 X.s.lm) V (HI1.out.r.ok.below h) (goodFitJ HG.out.r HG.out.fr) (HMX.out.below (below_trans HB1.out h));rw[check_zeroB.2 HG.out.r,if_pos rfl]at h1;exact h1)
   have hd1:Below W1.heap.size W1 W1.drew:=(Below.refl _ W1).drew;have HSS1:=Lib.hid (fun w' (h:Below W1.heap.size W1 w')=>And.intro ((HK1.out.below h).cellR 0 rfl) (And.intro ((HK1.out.below h).cellR 1 rfl) (And.intro ((HK1.out.below h).cellR 2 rfl) (And.intro ((HK1.out.below h).cellR 3 rfl) (And.intro ((HK1.out.below h).cellR 4 rfl) (And.intro ((HK1.out.below h).cellR 5 rfl) (And.intro ((HK1.out.below h).cellR 6 rfl) (And.intro ((HK1.out.below h).cellR 7 rfl) (And.intro ((HK1.out.below h).cellR 8 rfl) (And.intro ((HK1.out.below h).cellR 9 rfl) (And.intro ((HK1.out.below h).cellR 10 rfl) (And.intro ((HK1.out.below h).cellR 11 rfl) (And.intro ((HK1.out.below h).cellR 12 rfl) ((HK1.out.below h).cellR 19 rfl))))))))))))))
   go_upto_region 2 with fail
   refine tr (S:=(fun w'=>w'.cell? ⟨g,0,none⟩=some (.int .i64 p.kind)∧w'.cell? ⟨g,1,none⟩=some (.int .i64 p.mode)∧w'.cell? ⟨g,2,none⟩=some (.int .i64 p.low)∧w'.cell? ⟨g,3,none⟩=some (.int .i64 p.high)∧w'.cell? ⟨g,4,none⟩=some (.int .i64 p.size)∧w'.cell? ⟨g,5,none⟩=some (.int .i64 p.limit)∧w'.cell? ⟨g,6,none⟩=some (p.vl)∧w'.cell? ⟨g,7,none⟩=some (p.vr)∧w'.cell? ⟨g,8,none⟩=some (p.vk)∧w'.cell? ⟨g,9,none⟩=some (p.vq)∧w'.cell? ⟨g,10,none⟩=some (.bool p.grouped)∧w'.cell? ⟨g,11,none⟩=some (p.vg)∧w'.cell? ⟨g,12,none⟩=some (p.va)∧w'.cell? ⟨g,19,none⟩=some (.int .i64 X.s.lm))) (HSS1.out _ hd1) (fun hHeld=> ?_);refine tk 0 ?_;refine tk 1 ?_;refine tk 2 ?_;refine tk 3 ?_;refine tk 4 ?_;refine tk 5 ?_;refine tk 6 ?_;refine tk 7 ?_;refine tk 8 ?_;refine tc 9 ?_;intro K hK;go_simp;refine Calls.mono (by with_reducible exact HGN1.out _ hd1) ?_;rintro r x4 ⟨rfl,hb4⟩;have hx4:=below_trans hd1 hb4;clear hb4
   go_wp2_with fail
   refine hK.out _ _ (HSS1.out _ hx4) (fun hHeld9=> ?_);clear hK K;refine tk 10 ?_;refine tk 11 ?_;refine tk 12 ?_;refine tk 13 ?_;refine tk 14 ?_;refine td ?_;have hKx:=HK1.out.below hx4;have p0:x4.cell? ⟨g,16,none⟩=some (.int .i64 X.s.r.limit):=hKx.cellR 16 rfl;have p1:x4.cell? ⟨g,17,none⟩=some X.s.r.vm:=hKx.cellR 17 rfl;have p2:x4.cell? ⟨g,18,none⟩=some X.s.r.vr:=hKx.cellR 18 rfl;clear hKx
   go_wp2_with fail
   clear p0 p1 p2;refine Calls.mono (by with_reducible exact HDR1.out _ hx4) ?_;rintro r x5 ⟨⟨lim1,vm1,mem1,vr1,runs1⟩,rfl,hOB,hbu1,hb5⟩;have hx5:=below_trans hx4 hb5;obtain⟨Am1,nm1,cm1,hvm⟩:=own_slice hOB.mem.own;obtain⟨Ar1,nr1,cr1,hvr⟩:=own_slice hOB.sl;simp only at hvm hvr;subst hvm hvr;have hIx:=HI1.out.below hx5;have hb1:=hOB.low (base':=w0.heap.size) (Nat.le_trans HI1.out.size hx4.size);have hb2: ∀k,wkF g X.vo k→Buf.off ⟨lim1,.slice Am1 nm1 cm1,mem1,.slice Ar1 nr1 cr1,runs1⟩ k:=fun k hk=>OwnBuf.off' (X:=⟨X.s,X.key,X.has,X.vo,X.m,X.met⟩) hOB hk HI1.out hx4.size;have hpq:=hIx.putR hb1 hb2;have HP1:Hid (WkI (((x5.setCell ⟨g,16,none⟩ (.int .i64 lim1)).setCell ⟨g,17,none⟩ (.slice Am1 nm1 cm1)).setCell ⟨g,18,none⟩ (.slice Ar1 nr1 cr1)) g w0.heap.size p e lm rm ⟨X.s.put 2 ⟨lim1,.slice Am1 nm1 cm1,mem1,.slice Ar1 nr1 cr1,runs1⟩,X.key,X.has,X.vo,X.m,X.met⟩):=Lib.hid hpq;clear hpq hb1 hb2;have HT1:=Lib.hid (((turned_below (F:=fun k=>k=g) hx5).trans (turned_set x5 ⟨g,16,none⟩ (.int .i64 lim1))).trans ((turned_set _ ⟨g,17,none⟩ (.slice Am1 nm1 cm1)).trans (turned_set _ ⟨g,18,none⟩ (.slice Ar1 nr1 cr1))));have HU1:=Lib.hid hbu1;have q0:=hIx.blk.free 16;have q1:=hIx.blk.free 17;have q2:=hIx.blk.free 18;have r0:=hIx.blk.cellR 16 rfl;have r1:=hIx.blk.cellR 17 rfl;have r2:=hIx.blk.cellR 18 rfl;clear hbu1 hOB hb5 hIx hx4 hx5 hd1 HGN1 HDR1 HSS1 HK1;have z3:(((x5.setCell ⟨g,16,none⟩ (.int .i64 lim1)).setCell ⟨g,17,none⟩ (.slice Am1 nm1 cm1)).setCell ⟨g,18,none⟩ (.slice Ar1 nr1 cr1)).cell? ⟨g,20,none⟩=some (.int .i64 X.s.rm):=HP1.out.blk.cellR 20 rfl;go_wp2
   first|go_end0|((try simp only[Exit.inBlock,Exit.then]);refine bodyPost_ret (results_none rfl _ _ _) rfl ?_)
   refine⟨rfl,_,?_,HP1.out,HT0.out.trans HT1.out⟩;unfold dropJ;rw[if_neg (show ¬X.s.jn.lm=noM from NHlm.out),if_pos (show X.s.jn.rm=noM from NHrm.out)];show(⟨X.s.l.bu,Buf.bu ⟨lim1,.slice Am1 nm1 cm1,mem1,.slice Ar1 nr1 cr1,runs1⟩,X.s.lm,X.s.rm,X.s.seq⟩:Jn)=_;rw[HU1.out];rfl
  ·have b2:(X.s.rm != -1099511627777)=true:=by simpa[noM]using hmrm
   have NHrm:Hid (X.s.rm≠noM):=Lib.hid hmrm;clear hmrm;go_enter Tryz.func248,Tryz.ntmps248
   go_upto_region 1 with fail
   first|rw[hW1]|skip
   clear hW1;have HK1:=Lib.hid HI1.out.blk
   have HGN1:Hid (∀V,Below W1.heap.size W1 V→Calls Tryz.prog 60 #[.agg #[.int .i64 p.kind,.int .i64 p.mode,.int .i64 p.low,.int .i64 p.high,.int .i64 p.size,.int .i64 p.limit,p.vl,p.vr,p.vk,p.vq,.bool p.grouped,p.vg,p.va],.int .i64 2,.int .i64 X.s.lm] V fun e w'=>e= .returned (.tuple #[.int .i64 (goneF p 2 X.s.lm),.int .i64 0])∧Below V.heap.size V w'):=Lib.hid (fun V h=>by
    have h1:=gone_any p 2 X.s.lm V (HPO.out.below (below_trans HB1.out h)) HPF.out;rw[gone_is HZ.out (by decide) (HM.out.lm NHlm.out)]at h1;exact h1)
   have HDR1:Hid (∀V,Below W1.heap.size W1 V→Calls Tryz.prog 94 #[.agg #[.int .i64 X.s.r.limit,X.s.r.vm,X.s.r.vr],.int .i64 (goneF p 2 X.s.lm)] V fun e w'=> ∃b':Buf,e= .returned (.tuple #[.agg #[.int .i64 b'.limit,b'.vm,b'.vr],.int .i64 0])∧OwnBuf w' V.heap.size b'∧b'.bu=dropB X.s.r.bu (goneF p 2 X.s.lm)∧Below V.heap.size V w'):=Lib.hid (fun V h=>by
    have h1:=drop_any X.s.r (goneF p 2 X.s.lm) V (HI1.out.r.ok.below h) (goodFitJ HG.out.r HG.out.fr) (HMX.out.below (below_trans HB1.out h));rw[check_zeroB.2 HG.out.r,if_pos rfl]at h1;exact h1)
   have hd1:Below W1.heap.size W1 W1.drew:=(Below.refl _ W1).drew;have HSS1:=Lib.hid (fun w' (h:Below W1.heap.size W1 w')=>And.intro ((HK1.out.below h).cellR 0 rfl) (And.intro ((HK1.out.below h).cellR 1 rfl) (And.intro ((HK1.out.below h).cellR 2 rfl) (And.intro ((HK1.out.below h).cellR 3 rfl) (And.intro ((HK1.out.below h).cellR 4 rfl) (And.intro ((HK1.out.below h).cellR 5 rfl) (And.intro ((HK1.out.below h).cellR 6 rfl) (And.intro ((HK1.out.below h).cellR 7 rfl) (And.intro ((HK1.out.below h).cellR 8 rfl) (And.intro ((HK1.out.below h).cellR 9 rfl) (And.intro ((HK1.out.below h).cellR 10 rfl) (And.intro ((HK1.out.below h).cellR 11 rfl) (And.intro ((HK1.out.below h).cellR 12 rfl) ((HK1.out.below h).cellR 19 rfl))))))))))))))
   go_upto_region 2 with fail
   refine tr (S:=(fun w'=>w'.cell? ⟨g,0,none⟩=some (.int .i64 p.kind)∧w'.cell? ⟨g,1,none⟩=some (.int .i64 p.mode)∧w'.cell? ⟨g,2,none⟩=some (.int .i64 p.low)∧w'.cell? ⟨g,3,none⟩=some (.int .i64 p.high)∧w'.cell? ⟨g,4,none⟩=some (.int .i64 p.size)∧w'.cell? ⟨g,5,none⟩=some (.int .i64 p.limit)∧w'.cell? ⟨g,6,none⟩=some (p.vl)∧w'.cell? ⟨g,7,none⟩=some (p.vr)∧w'.cell? ⟨g,8,none⟩=some (p.vk)∧w'.cell? ⟨g,9,none⟩=some (p.vq)∧w'.cell? ⟨g,10,none⟩=some (.bool p.grouped)∧w'.cell? ⟨g,11,none⟩=some (p.vg)∧w'.cell? ⟨g,12,none⟩=some (p.va)∧w'.cell? ⟨g,19,none⟩=some (.int .i64 X.s.lm))) (HSS1.out _ hd1) (fun hHeld=> ?_);refine tk 0 ?_;refine tk 1 ?_;refine tk 2 ?_;refine tk 3 ?_;refine tk 4 ?_;refine tk 5 ?_;refine tk 6 ?_;refine tk 7 ?_;refine tk 8 ?_;refine tc 9 ?_;intro K hK;go_simp;refine Calls.mono (by with_reducible exact HGN1.out _ hd1) ?_;rintro r x4 ⟨rfl,hb4⟩;have hx4:=below_trans hd1 hb4;clear hb4
   go_wp2_with fail
   refine hK.out _ _ (HSS1.out _ hx4) (fun hHeld9=> ?_);clear hK K;refine tk 10 ?_;refine tk 11 ?_;refine tk 12 ?_;refine tk 13 ?_;refine tk 14 ?_;refine td ?_;have hKx:=HK1.out.below hx4;have p0:x4.cell? ⟨g,16,none⟩=some (.int .i64 X.s.r.limit):=hKx.cellR 16 rfl;have p1:x4.cell? ⟨g,17,none⟩=some X.s.r.vm:=hKx.cellR 17 rfl;have p2:x4.cell? ⟨g,18,none⟩=some X.s.r.vr:=hKx.cellR 18 rfl;clear hKx
   go_wp2_with fail
   clear p0 p1 p2;refine Calls.mono (by with_reducible exact HDR1.out _ hx4) ?_;rintro r x5 ⟨⟨lim1,vm1,mem1,vr1,runs1⟩,rfl,hOB,hbu1,hb5⟩;have hx5:=below_trans hx4 hb5;obtain⟨Am1,nm1,cm1,hvm⟩:=own_slice hOB.mem.own;obtain⟨Ar1,nr1,cr1,hvr⟩:=own_slice hOB.sl;simp only at hvm hvr;subst hvm hvr;have hIx:=HI1.out.below hx5;have hb1:=hOB.low (base':=w0.heap.size) (Nat.le_trans HI1.out.size hx4.size);have hb2: ∀k,wkF g X.vo k→Buf.off ⟨lim1,.slice Am1 nm1 cm1,mem1,.slice Ar1 nr1 cr1,runs1⟩ k:=fun k hk=>OwnBuf.off' (X:=⟨X.s,X.key,X.has,X.vo,X.m,X.met⟩) hOB hk HI1.out hx4.size;have hpq:=hIx.putR hb1 hb2;have HP1:Hid (WkI (((x5.setCell ⟨g,16,none⟩ (.int .i64 lim1)).setCell ⟨g,17,none⟩ (.slice Am1 nm1 cm1)).setCell ⟨g,18,none⟩ (.slice Ar1 nr1 cr1)) g w0.heap.size p e lm rm ⟨X.s.put 2 ⟨lim1,.slice Am1 nm1 cm1,mem1,.slice Ar1 nr1 cr1,runs1⟩,X.key,X.has,X.vo,X.m,X.met⟩):=Lib.hid hpq;clear hpq hb1 hb2;have HT1:=Lib.hid (((turned_below (F:=fun k=>k=g) hx5).trans (turned_set x5 ⟨g,16,none⟩ (.int .i64 lim1))).trans ((turned_set _ ⟨g,17,none⟩ (.slice Am1 nm1 cm1)).trans (turned_set _ ⟨g,18,none⟩ (.slice Ar1 nr1 cr1))));have HU1:=Lib.hid hbu1;have q0:=hIx.blk.free 16;have q1:=hIx.blk.free 17;have q2:=hIx.blk.free 18;have r0:=hIx.blk.cellR 16 rfl;have r1:=hIx.blk.cellR 17 rfl;have r2:=hIx.blk.cellR 18 rfl;clear hbu1 hOB hb5 hIx hx4 hx5 hd1 HGN1 HDR1 HSS1 HK1
   go_upto_region 4 with fail
   obtain⟨W2,hW2⟩: ∃V,(((x5.setCell ⟨g,16,none⟩ (.int .i64 lim1)).setCell ⟨g,17,none⟩ (.slice Am1 nm1 cm1)).setCell ⟨g,18,none⟩ (.slice Ar1 nr1 cr1))=V:=⟨_,rfl⟩;rw[hW2]at HP1 HT1⊢;have HB2:=Lib.hid (below_turned HB1.out HT1.out (fun k hk=>by rw[hk];exact HGW.out));clear hW2;have z3:W2.cell? ⟨g,20,none⟩=some (.int .i64 X.s.rm):=HP1.out.blk.cellR 20 rfl;clear z1 z2;have HK2:=Lib.hid HP1.out.blk
   have HGN2:Hid (∀V,Below W2.heap.size W2 V→Calls Tryz.prog 60 #[.agg #[.int .i64 p.kind,.int .i64 p.mode,.int .i64 p.low,.int .i64 p.high,.int .i64 p.size,.int .i64 p.limit,p.vl,p.vr,p.vk,p.vq,.bool p.grouped,p.vg,p.va],.int .i64 1,.int .i64 X.s.rm] V fun e w'=>e= .returned (.tuple #[.int .i64 (goneF p 1 X.s.rm),.int .i64 0])∧Below V.heap.size V w'):=Lib.hid (fun V h=>by
    have h1:=gone_any p 1 X.s.rm V (HPO.out.below (below_trans HB2.out h)) HPF.out;rw[gone_is HZ.out (by decide) (HM.out.rm NHrm.out)]at h1;exact h1)
   have HDR2:Hid (∀V,Below W2.heap.size W2 V→Calls Tryz.prog 94 #[.agg #[.int .i64 X.s.l.limit,X.s.l.vm,X.s.l.vr],.int .i64 (goneF p 1 X.s.rm)] V fun e w'=> ∃b':Buf,e= .returned (.tuple #[.agg #[.int .i64 b'.limit,b'.vm,b'.vr],.int .i64 0])∧OwnBuf w' V.heap.size b'∧b'.bu=dropB X.s.l.bu (goneF p 1 X.s.rm)∧Below V.heap.size V w'):=Lib.hid (fun V h=>by
    have h1:=drop_any X.s.l (goneF p 1 X.s.rm) V (HP1.out.l.ok.below h) (goodFitJ HG.out.l HG.out.fl) (HMX.out.below (below_trans HB2.out h));rw[check_zeroB.2 HG.out.l,if_pos rfl]at h1;exact h1)
   have hd2:Below W2.heap.size W2 W2.drew:=(Below.refl _ W2).drew;have HSS2:=Lib.hid (fun w' (h:Below W2.heap.size W2 w')=>And.intro ((HK2.out.below h).cellR 0 rfl) (And.intro ((HK2.out.below h).cellR 1 rfl) (And.intro ((HK2.out.below h).cellR 2 rfl) (And.intro ((HK2.out.below h).cellR 3 rfl) (And.intro ((HK2.out.below h).cellR 4 rfl) (And.intro ((HK2.out.below h).cellR 5 rfl) (And.intro ((HK2.out.below h).cellR 6 rfl) (And.intro ((HK2.out.below h).cellR 7 rfl) (And.intro ((HK2.out.below h).cellR 8 rfl) (And.intro ((HK2.out.below h).cellR 9 rfl) (And.intro ((HK2.out.below h).cellR 10 rfl) (And.intro ((HK2.out.below h).cellR 11 rfl) (And.intro ((HK2.out.below h).cellR 12 rfl) ((HK2.out.below h).cellR 20 rfl))))))))))))))
   go_upto_region 5 with fail
   refine tr (S:=(fun w'=>w'.cell? ⟨g,0,none⟩=some (.int .i64 p.kind)∧w'.cell? ⟨g,1,none⟩=some (.int .i64 p.mode)∧w'.cell? ⟨g,2,none⟩=some (.int .i64 p.low)∧w'.cell? ⟨g,3,none⟩=some (.int .i64 p.high)∧w'.cell? ⟨g,4,none⟩=some (.int .i64 p.size)∧w'.cell? ⟨g,5,none⟩=some (.int .i64 p.limit)∧w'.cell? ⟨g,6,none⟩=some (p.vl)∧w'.cell? ⟨g,7,none⟩=some (p.vr)∧w'.cell? ⟨g,8,none⟩=some (p.vk)∧w'.cell? ⟨g,9,none⟩=some (p.vq)∧w'.cell? ⟨g,10,none⟩=some (.bool p.grouped)∧w'.cell? ⟨g,11,none⟩=some (p.vg)∧w'.cell? ⟨g,12,none⟩=some (p.va)∧w'.cell? ⟨g,20,none⟩=some (.int .i64 X.s.rm))) (HSS2.out _ hd2) (fun hHeld=> ?_);refine tk 0 ?_;refine tk 1 ?_;refine tk 2 ?_;refine tk 3 ?_;refine tk 4 ?_;refine tk 5 ?_;refine tk 6 ?_;refine tk 7 ?_;refine tk 8 ?_;refine tc 9 ?_;intro K hK;go_simp;refine Calls.mono (by with_reducible exact HGN2.out _ hd2) ?_;rintro r x4 ⟨rfl,hb4⟩;have hx4:=below_trans hd2 hb4;clear hb4
   go_wp2_with fail
   refine hK.out _ _ (HSS2.out _ hx4) (fun hHeld9=> ?_);clear hK K;refine tk 10 ?_;refine tk 11 ?_;refine tk 12 ?_;refine tk 13 ?_;refine tk 14 ?_;refine td ?_;have hKx:=HK2.out.below hx4;have p0:x4.cell? ⟨g,13,none⟩=some (.int .i64 X.s.l.limit):=hKx.cellR 13 rfl;have p1:x4.cell? ⟨g,14,none⟩=some X.s.l.vm:=hKx.cellR 14 rfl;have p2:x4.cell? ⟨g,15,none⟩=some X.s.l.vr:=hKx.cellR 15 rfl;clear hKx
   go_wp2_with fail
   clear p0 p1 p2;refine Calls.mono (by with_reducible exact HDR2.out _ hx4) ?_;rintro r x5 ⟨⟨lim2,vm2,mem2,vr2,runs2⟩,rfl,hOB,hbu2,hb5⟩;have hx5:=below_trans hx4 hb5;obtain⟨Am2,nm2,cm2,hvm⟩:=own_slice hOB.mem.own;obtain⟨Ar2,nr2,cr2,hvr⟩:=own_slice hOB.sl;simp only at hvm hvr;subst hvm hvr;have hIx:=HP1.out.below hx5;have hb1:=hOB.low (base':=w0.heap.size) (Nat.le_trans HP1.out.size hx4.size);have hb2: ∀k,wkF g X.vo k→Buf.off ⟨lim2,.slice Am2 nm2 cm2,mem2,.slice Ar2 nr2 cr2,runs2⟩ k:=fun k hk=>OwnBuf.off' (X:=⟨(X.s.put 2 ⟨lim1,.slice Am1 nm1 cm1,mem1,.slice Ar1 nr1 cr1,runs1⟩),X.key,X.has,X.vo,X.m,X.met⟩) hOB hk HP1.out hx4.size;have hpq:=hIx.putL hb1 hb2;have HP2:Hid (WkI (((x5.setCell ⟨g,13,none⟩ (.int .i64 lim2)).setCell ⟨g,14,none⟩ (.slice Am2 nm2 cm2)).setCell ⟨g,15,none⟩ (.slice Ar2 nr2 cr2)) g w0.heap.size p e lm rm ⟨(X.s.put 2 ⟨lim1,.slice Am1 nm1 cm1,mem1,.slice Ar1 nr1 cr1,runs1⟩).put 1 ⟨lim2,.slice Am2 nm2 cm2,mem2,.slice Ar2 nr2 cr2,runs2⟩,X.key,X.has,X.vo,X.m,X.met⟩):=Lib.hid hpq;clear hpq hb1 hb2;have HT2:=Lib.hid (((turned_below (F:=fun k=>k=g) hx5).trans (turned_set x5 ⟨g,13,none⟩ (.int .i64 lim2))).trans ((turned_set _ ⟨g,14,none⟩ (.slice Am2 nm2 cm2)).trans (turned_set _ ⟨g,15,none⟩ (.slice Ar2 nr2 cr2))));have HU2:=Lib.hid hbu2;have q0:=hIx.blk.free 13;have q1:=hIx.blk.free 14;have q2:=hIx.blk.free 15;have r0:=hIx.blk.cellR 13 rfl;have r1:=hIx.blk.cellR 14 rfl;have r2:=hIx.blk.cellR 15 rfl;clear hbu2 hOB hb5 hIx hx4 hx5 hd2 HGN2 HDR2 HSS2 HK2;go_wp2
   first|go_end0|((try simp only[Exit.inBlock,Exit.then]);refine bodyPost_ret (results_none rfl _ _ _) rfl ?_)
   refine⟨rfl,_,?_,HP2.out,HT0.out.trans (HT1.out.trans HT2.out)⟩;unfold dropJ;rw[if_neg (show ¬X.s.jn.lm=noM from NHlm.out),if_neg (show ¬X.s.jn.rm=noM from NHrm.out)];show(⟨Buf.bu ⟨lim2,.slice Am2 nm2 cm2,mem2,.slice Ar2 nr2 cr2,runs2⟩,Buf.bu ⟨lim1,.slice Am1 nm1 cm1,mem1,.slice Ar1 nr1 cr1,runs1⟩,X.s.lm,X.s.rm,X.s.seq⟩:Jn)=_;rw[HU1.out,HU2.out];rfl
end Go.Proofs.YtjodlngbiikgfaaGreatDoor
