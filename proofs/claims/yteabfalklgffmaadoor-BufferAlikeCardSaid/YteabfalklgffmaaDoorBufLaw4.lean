/-
  Plain law of Scan.
-/
import Derived.Test.YteabfalklgffmaaDoorBufM5
import Derived.Test.YteabfalklgffmaaDoorBufM7
set_option linter.unusedSimpArgs false
set_option linter.unusedVariables false
namespace Go.Proofs.YteabfalklgffmaaDoor
open Go.Lib (compareBytes)

def scanP (key : List UInt8) (frm upto : Int) (e : En) : Bool := (e.key == key) && decide (frm ≤ e.t) && decide (e.t ≤ upto)
def scanQ (key : List UInt8) (upto : Int) (e : En) : Bool := (e.key == key) && decide (e.t ≤ upto)
theorem scan_head {key : List UInt8} {frm upto : Int} {x : En} (hs : 0 ≤ x.s) (h : cmpE x ⟨key, frm, -1, [], false⟩ < 0) : scanP key frm upto x = false := by
  rw [cmpE_neg] at h
  unfold scanP
  rcases h with h | ⟨h1, h2 | ⟨h2, h3⟩⟩
  · have : ¬ x.key = key := fun e => by rw [show compareBytes x.key key = 0 from cbE_zero.2 e] at h; omega
    simp [this]
  · have h2' : x.t < frm := h2
    simp [show ¬ frm ≤ x.t by omega]
  · have h3' : x.s < -1 := h3
    omega
theorem scan_tail {key : List UInt8} {frm upto : Int} {x : En} (h : 0 ≤ cmpE x ⟨key, frm, -1, [], false⟩) : scanP key frm upto x = scanQ key upto x := by
  unfold scanP scanQ
  by_cases hk : x.key = key
  · by_cases ht : frm ≤ x.t
    · simp [ht]
    · have : cmpE x ⟨key, frm, -1, [], false⟩ < 0 := cmpE_neg.2 (.inr ⟨hk, .inl (show x.t < frm by omega)⟩)
      omega
  · have hb : (x.key == key) = false := beq_eq_false_iff_ne.2 hk
    rw [hb]; rfl
theorem scan_after {key : List UInt8} {frm upto : Int} {x y : En} (h0 : 0 ≤ cmpE x ⟨key, frm, -1, [], false⟩) (hx : scanQ key upto x = false) (hxy : cmpE x y < 0) : scanQ key upto y = false := by
  unfold scanQ at hx ⊢
  by_cases hk : y.key = key
  · by_cases ht : y.t ≤ upto
    · exfalso
      rw [cmpE_neg] at hxy
      have hxk : compareBytes x.key key < 0 ∨ x.key = key := by
        rcases hxy with h | h
        · exact .inl (hk ▸ h)
        · exact .inr (h.1.trans hk)
      rcases hxk with h | h
      · have : cmpE x ⟨key, frm, -1, [], false⟩ < 0 := cmpE_neg.2 (.inl h)
        omega
      · have hxt : x.t ≤ upto := by
          rcases hxy with h2 | ⟨-, h2 | ⟨h2, -⟩⟩
          · rw [h, hk, show compareBytes key key = 0 from cbE_zero.2 rfl] at h2; omega
          · omega
          · omega
        simp [h, hxt] at hx
    · simp [ht]
  · simp [hk]
/-- From a place on, as long as they fit: these are the entries of a rising part that fit. -/
theorem scan_part {l : List En} {key : List UInt8} {frm upto : Int} {i j : Nat} (hU : Up l) (hs : ∀ x ∈ l, 0 ≤ x.s) (hp : PosE l ⟨key, frm, -1, [], false⟩ i) (hij : i ≤ j) (hin : ∀ q x, i ≤ q → q < j → l[q]? = some x → scanQ key upto x = true)
    (hend : ∀ x, l[j]? = some x → scanQ key upto x = false) : l.filter (scanP key frm upto) = (l.take j).drop i := by
  have h1 : (l.take i).filter (scanP key frm upto) = [] := by
    rw [List.filter_eq_nil_iff]
    intro x hx
    obtain ⟨q, hq, e⟩ := List.getElem_of_mem hx
    rw [List.length_take] at hq
    rw [List.getElem_take] at e
    have hx' : l[q]? = some x := by rw [← e]; exact List.getElem?_eq_getElem (by omega)
    rw [scan_head (hs x (List.mem_of_getElem? hx')) (hp.2 q x (by omega) hx')]
    simp
  have h2 : ((l.take j).drop i).filter (scanP key frm upto) = (l.take j).drop i := by
    rw [List.filter_eq_self]
    intro x hx
    obtain ⟨q, hq, e⟩ := List.getElem_of_mem hx
    rw [List.length_drop, List.length_take] at hq
    rw [List.getElem_drop, List.getElem_take] at e
    have hx' : l[i + q]? = some x := by rw [← e]; exact List.getElem?_eq_getElem (by omega)
    rw [scan_tail (by have := hp.3 (i + q) x (by omega) hx'; omega)]
    exact hin (i + q) x (by omega) (by omega) hx'
  have h3 : (l.drop j).filter (scanP key frm upto) = [] := by
    rw [List.filter_eq_nil_iff]
    intro x hx
    obtain ⟨q, hq, e⟩ := List.getElem_of_mem hx
    rw [List.length_drop] at hq
    rw [List.getElem_drop] at e
    have hx' : l[j + q]? = some x := by rw [← e]; exact List.getElem?_eq_getElem (by omega)
    rw [scan_tail (by have := hp.3 (j + q) x (by omega) hx'; omega)]
    have hjl : j < l.length := by omega
    have hy := List.getElem?_eq_getElem hjl
    have hf := hend _ hy
    by_cases h0 : q = 0
    · subst h0
      rw [Nat.add_zero] at hx'
      rw [hy] at hx'
      injection hx' with hx'
      rw [← hx', hf]; simp
    · have hlt := List.pairwise_iff_getElem.1 hU j (j + q) hjl (by omega) (by omega)
      rw [e] at hlt
      rw [scan_after (frm := frm) (by have := hp.3 j _ hij hy; omega) hf hlt]; simp
  have e1 : l = l.take i ++ ((l.take j).drop i ++ l.drop j) := by
    have : l.take j = l.take i ++ (l.take j).drop i := by
      conv => lhs; rw [← List.take_append_drop i (l.take j)]
      rw [List.take_take, Nat.min_eq_left hij]
    rw [← List.append_assoc, ← this, List.take_append_drop]
  conv => lhs; rw [e1]
  rw [List.filter_append, List.filter_append, h1, h2, h3, List.nil_append, List.append_nil]
theorem scanL_eq {b : Bu} {key : List UInt8} {frm upto : Int} {m : List En} (hg : Alone b.all) (hp : m.Perm (b.all.filter (scanP key frm upto))) (hs : m.Pairwise fun a b => ¬ cmpE b a < 0) : m = scanL b key frm upto := by
  have h1 : (scanL b key frm upto).Perm (b.all.filter (scanP key frm upto)) := (sortE_perm hg).filter _
  have hA : Alone (b.all.filter (scanP key frm upto)) := hg.sublist List.filter_sublist
  have hmA := alone_perm hp.symm hA
  have hmU : Up m := by
    refine List.pairwise_iff_getElem.2 fun i j hi hj hij => ?_
    have h2 := List.pairwise_iff_getElem.1 hs i j hi hj hij
    have h3 := List.pairwise_iff_getElem.1 hmA i j hi hj hij
    have h4 := cmpE_flip m[i] m[j]
    omega
  exact up_perm hmU ((sortE_up b.all).sublist List.filter_sublist) (hp.trans h1.symm)

end Go.Proofs.YteabfalklgffmaaDoor
