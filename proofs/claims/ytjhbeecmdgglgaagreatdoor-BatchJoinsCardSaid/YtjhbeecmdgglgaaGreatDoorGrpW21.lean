/-Groups: looks. -/
import Derived.Test.YtjhbeecmdgglgaaGreatDoorGrpW19
import Derived.Test.YtjhbeecmdgglgaaGreatDoorGrpW11
import Derived.Test.YtjhbeecmdgglgaaGreatDoorGrpW20
set_option linter.unusedSimpArgs false
set_option linter.unusedVariables false
namespace Go.Proofs.YtjhbeecmdgglgaaGreatDoor
open Go.RowKit
def setAll (w:World) (g:Nat):Nat→List Value→World
 |_,[]=>w
 |i,v::l=>setAll (w.setCell ⟨g,i,none⟩ v) g (i+1) l
theorem setAll_arr {t:TypeId}{g:Nat}: ∀ {l:List Value} {w:World} {cs:Array Value} {i:Nat},Blk w g t cs→i+l.length=cs.size→ ∃ds,Blk (setAll w g i l) g t ds∧ds.toList=cs.toList.take i++l
 |[],w,cs,i,h,hl=>⟨cs,h,by simp at hl;rw[hl];simp[List.take_of_length_le]⟩
 |v::l,w,cs,i,h,hl=>by
  have hlt:i<cs.size:=by simp at hl;omega
  obtain⟨ds,h1,h2⟩:=setAll_arr (h.set_ i v) (i:=i+1) (l:=l) (by simp at hl⊢;omega);refine⟨ds,h1,?_⟩;rw[h2,Array.toList_setIfInBounds,List.take_add_one];rw[List.take_set_of_le (Nat.le_refl _),List.getElem?_set_self (by simpa using hlt)];simp
theorem Blk.setAll {w:World}{g:Nat}{t:TypeId}{cs:Array Value}(h:Blk w g t cs)(l:List Value)(hl:l.length=cs.size):Blk (setAll w g 0 l) g t l.toArray:=by
 obtain⟨ds,h1,h2⟩:=setAll_arr h (i:=0) (l:=l) (by omega);have:ds=l.toArray:=by rw[←Array.toArray_toList (xs:=ds),h2];simp
 rwa[this]at h1
theorem Sl.own_lt {w:World}{v:Value}{n:Nat}{cs:List Value}(h:Sl w v n cs)(hne:cs≠[]): ∀k,v.ownBlock=some k→k<w.heap.size:=by
 obtain⟨A,c,rfl,-,-,-,h3⟩:=h;obtain⟨b,off,rfl,hc⟩:=h3 hne;intro k hk;injection hk with hk;subst hk;cases cs with
 |nil=>exact absurd rfl hne
 |cons u l=>exact World.block_lt_of_cell? w _ (hc 0 u rfl)
theorem own_slice {w:World}{base:Nat}{e:TypeId}{size n:Nat}{v:Value}{xs:List Value}(h:w.ownsRow base e size v n xs): ∃A m c,v= .slice A m c:=by
 rcases h.2 with⟨rfl,_⟩|⟨g,cap,_,rfl,_⟩
 ·exact⟨_,_,_,rfl⟩
 ·exact⟨_,_,_,rfl⟩
theorem Sl.setAll {g:Nat}: ∀ {l:List Value} {w:World} {v:Value} {n:Nat} {cs:List Value} {i:Nat},Sl w v n cs→(∀k,v.ownBlock=some k→k≠g)→Sl (setAll w g i l) v n cs
 |[],_,_,_,_,_,h,_=>h
 |u::l,w,v,n,cs,i,h,hg=>Sl.setAll (l:=l) (w:=w.setCell ⟨g,i,none⟩ u) (i:=i+1) (h.setCell (p:=⟨g,i,none⟩) hg u) hg
theorem below_setAll {a:World}{b g:Nat}: ∀ {l:List Value} {w:World} {i:Nat},Below b a w→b≤g→Below b a (setAll w g i l)
 |[],_,_,h,_=>h
 |v::l,w,i,h,hg=>below_setAll (l:=l) (w:=w.setCell ⟨g,i,none⟩ v) (i:=i+1) (h.setCell (p:=⟨g,i,none⟩) hg v) hg
end Go.Proofs.YtjhbeecmdgglgaaGreatDoor
