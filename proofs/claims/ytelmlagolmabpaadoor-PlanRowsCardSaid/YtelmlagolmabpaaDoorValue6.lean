/-
  The reference's cellKey and Key.
-/
import Derived.Test.YtelmlagolmabpaaDoorValue5
namespace Go.Proofs.YtelmlagolmabpaaDoor
open Go.RowKit

theorem xor_lo (x : Nat) (h : x < 2 ^ 63) : x ^^^ 2 ^ 63 = 2 ^ 63 + x := by
  apply Nat.eq_of_testBit_eq
  intro j
  rw [Nat.testBit_xor, Nat.testBit_two_pow]
  rcases Nat.lt_trichotomy j 63 with hj | hj | hj
  · rw [Nat.testBit_two_pow_add_gt hj, show decide (63 = j) = false from by simp; omega]
    simp
  · subst hj
    rw [Nat.testBit_two_pow_add_eq, Nat.testBit_lt_two_pow h]
    simp
  · have h1 : x < 2 ^ j := Nat.lt_of_lt_of_le h (Nat.pow_le_pow_right (by omega) (by omega))
    have h2 : 2 ^ 63 + x < 2 ^ j := by
      have : 2 ^ 64 ≤ 2 ^ j := Nat.pow_le_pow_right (by omega) (by omega)
      omega
    rw [Nat.testBit_lt_two_pow h1, Nat.testBit_lt_two_pow h2, show decide (63 = j) = false from by simp; omega]
    rfl
theorem xor_any (x : Nat) (h : x < 2 ^ 64) : x ^^^ 2 ^ 63 = (x + 2 ^ 63) % 2 ^ 64 := by
  rcases Nat.lt_or_ge x (2 ^ 63) with h1 | h1
  · rw [xor_lo x h1]; omega
  · have h2 : x - 2 ^ 63 < 2 ^ 63 := by omega
    have h3 := xor_lo (x - 2 ^ 63) h2
    have h4 : x = (x - 2 ^ 63) ^^^ 2 ^ 63 := by rw [h3]; omega
    have h5 : x ^^^ 2 ^ 63 = x - 2 ^ 63 := by
      rw [h4, Nat.xor_assoc, Nat.xor_self, Nat.xor_zero]
      omega
    rw [h5]
    omega
/-- The number that is put into the key. -/
def bias (n : Int) : Nat := (n + 9223372036854775808).toNat
theorem xor_bias (n : Int) (h1 : -9223372036854775808 ≤ n) (h2 : n ≤ 9223372036854775807) :
    IntKind.u64.wrap (bits .xor .i64 n (-9223372036854775808)) = (bias n : Int) := by
  show IntKind.u64.wrap (IntKind.i64.wrap ((BitVec.ofInt 64 n ^^^ BitVec.ofInt 64 (-9223372036854775808)).toNat : Int)) = _
  have e1 : (BitVec.ofInt 64 (-9223372036854775808)).toNat = 2 ^ 63 := by decide
  have e2 : (BitVec.ofInt 64 n).toNat = (n % 18446744073709551616).toNat := by rw [BitVec.toNat_ofInt]; rfl
  rw [BitVec.toNat_xor, e1, e2, xor_any _ (by omega), IntKind.wrap_u64, IntKind.wrap_i64]
  unfold bias
  omega

def esc (l : List UInt8) : List UInt8 := l.flatMap fun b => if b = 0 then [0, 255] else [b]
def keyCell (v : Val) : List UInt8 :=
  UInt8.ofNat v.k.toNat :: (if v.k = 1 then [UInt8.ofNat v.n.toNat] else if v.k = 2 then be8 (bias v.n) else if v.k = 3 then esc v.s.toList ++ [0, 1] else [])
def keyRow (l : List Val) : List UInt8 := l.flatMap keyCell

theorem esc_cons (b : UInt8) (l : List UInt8) : esc (b :: l) = (if b = 0 then [0, 255] else [b]) ++ esc l := List.flatMap_cons
theorem esc_append (a b : List UInt8) : esc (a ++ b) = esc a ++ esc b := List.flatMap_append
theorem esc_len (l : List UInt8) : (esc l).length ≤ 2 * l.length := by
  induction l with
  | nil => simp [esc]
  | cons b l ih =>
    rw [esc_cons, List.length_append, List.length_cons]
    split <;> simp <;> omega
theorem toList_len (s : ByteArray) : s.toList.length = s.size := by rw [ByteArray.toList_eq]; exact Array.length_toList
theorem keyCell_len (v : Val) (h : v.s.size ≤ 64) : (keyCell v).length ≤ 131 := by
  unfold keyCell
  have h1 := esc_len v.s.toList
  have h2 := toList_len v.s
  simp only [List.length_cons]
  split
  · simp
  · split
    · rw [be8_len]; omega
    · split
      · rw [List.length_append]; simp; omega
      · simp

theorem toList_at (s : ByteArray) (k : Nat) (hk : k < s.size) : s.toList[k]? = some s[k] := by
  rw [ByteArray.toList_eq]
  have hk' : k < s.data.toList.length := by rw [Array.length_toList]; exact hk
  rw [List.getElem?_eq_getElem hk']
  rfl
theorem esc_take (s : ByteArray) (k : Nat) (hk : k < s.size) : esc (s.toList.take (k + 1)) = esc (s.toList.take k) ++ (if s[k] = 0 then [0, 255] else [s[k]]) := by
  rw [List.take_add_one, toList_at s k hk, esc_append]
  show _ = _ ++ _
  congr 1
  rw [Option.toList_some, esc_cons]
  simp [esc]
theorem extract_one (s : ByteArray) (k : Nat) (hk : k < s.size) : s.extract k (k + 1) = str [s[k]] := by
  have h : s.toList[k]? = some s[k] := toList_at s k hk
  rw [ByteArray.toList_eq] at h
  apply ByteArray.ext
  simp only [str, ByteArray.data_extract]
  apply Array.ext'
  simp only [Array.toList_extract, List.extract_eq_take_drop, Nat.add_sub_cancel_left]
  rw [List.take_one, List.head?_drop, h]
  rfl

end Go.Proofs.YtelmlagolmabpaaDoor
