/-Groups: Step's plain answer; turns one after another. -/
import Derived.Test.YtjhbeecmdgglgaaGreatDoorGrpV23
set_option linter.unusedSimpArgs false
set_option linter.unusedVariables false
namespace Go.Proofs.YtjhbeecmdgglgaaGreatDoor
open Go.RowKit Go.Maps
def stepG (p:Pl) (G:List Gp) (l:List Chn):List Gp×List (Int×List Val)×Int:=
 if checkG p G≠0 then([],[],checkG p G)else if formC l≠0 then([],[],formC l)else if typesG p (ac l)≠0 then([],[],typesG p (ac l))
 else if(turnAll p G (ac l)).2≠0 then([],[],(turnAll p G (ac l)).2)else((turnAll p G (ac l)).1,changedG p G (turnAll p G (ac l)).1,0)
theorem Tn.trans {w w1 w2:World}{base M N N':Nat}{X X1 X2:List (Nat×Gm)}(h:Tn w base M X w1 N X1)(h2:Tn w1 base M X1 w2 N' X2):Tn w base M X w2 N' X2:=
 ⟨h2.map,h.turned.transN h2.turned fun i hi hm=>h.old i hi hm,fun k hk hm=>h.old k hk (h2.old k (Nat.lt_of_lt_of_le hk h.turned.size) hm)⟩
theorem acG_at {l:List Chn}{i:Nat}{c:Chn}(h:l[i]?=some c):(ac l)[i]?=some (c.k,c.r):=by unfold ac;rw[List.getElem?_map,h];rfl
theorem acG_len (l:List Chn):(ac l).length=l.length:=List.length_map ..
theorem turnAll_at {p:Pl}{G:List Gp}{l:List (Int×List Val)}{i:Nat}{c:Int×List Val}(h:l[i]?=some c):turnAll p G (l.drop i)=if(turnG p G c).2=0 then turnAll p (turnG p G c).1 (l.drop (i+1))else([],(turnG p G c).2):=by
 obtain⟨hl,rfl⟩:=List.getElem?_eq_some_iff.1 h;rw[List.drop_eq_getElem_cons hl];rfl
theorem turnAll_end {p:Pl}{G:List Gp}{l:List (Int×List Val)}:turnAll p G (l.drop l.length)=(G,0):=by rw[List.drop_length];rfl
theorem types_bad {p:Pl}{l:List Chn}{k:Nat}{c:Chn}(hpre: ∀x∈l.take k,fitE (allT p) x.r=0)(hc:l[k]?=some c)(he:fitE (allT p) c.r≠0):typesG p (ac l)=fitE (allT p) c.r:=by
 unfold typesG;refine firstNZ_hit (k:=k) (fun x hx=> ?_) (by rw[List.getElem?_map,acG_at hc];rfl) he;rw[←List.map_take]at hx;obtain⟨q,hq,rfl⟩:=List.mem_map.1 hx;unfold ac at hq;rw[←List.map_take]at hq;obtain⟨y,hy,rfl⟩:=List.mem_map.1 hq;exact hpre y hy
theorem types_ok {p:Pl}{l:List Chn}(h: ∀x∈l,fitE (allT p) x.r=0):typesG p (ac l)=0:=by
 unfold typesG
 exact firstNZ_none fun x hx=>by
  obtain⟨q,hq,rfl⟩:=List.mem_map.1 hx;obtain⟨y,hy,rfl⟩:=List.mem_map.1 hq;exact h y hy
theorem fit_len {t:List Int}{r:List Val}(h:r.length≠t.length):fitE t r=2:=if_pos h
theorem fit_not {t:List Int}{r:List Val}(h:r.length=t.length)(h2:allB fitOne (t.zip r)=false):fitE t r=5:=by
 unfold fitE;rw[if_neg (by omega),if_neg (by rw[h2];simp)]
theorem fit_yes {t:List Int}{r:List Val}(h:r.length=t.length)(h2:allB fitOne (t.zip r)=true):fitE t r=0:=by
 unfold fitE;rw[if_neg (by omega),if_pos h2]
theorem fit_zero {p:Pl}{r:List Val}(hg:GoodR r)(h:fitE (allT p) r=0):TypedG p r:=by
 unfold fitE at h;by_cases h1:r.length≠(allT p).length
 ·rw[if_pos h1]at h;omega
 ·rw[if_neg h1]at h
  by_cases h2:allB fitOne ((allT p).zip r)=true
  ·exact⟨hg,by omega,h2⟩
  ·rw[if_neg h2]at h;omega
end Go.Proofs.YtjhbeecmdgglgaaGreatDoor
