/-
  Eight bytes put together: shift and or.
-/
import Derived.Test.YteamepgonmdilaaDoorValue11
namespace Go.Proofs.YteamepgonmdilaaDoor
open Go.RowKit

theorem or_byte (m : Nat) (b : UInt8) : bits .or .i64 (IntKind.i64.wrap ((m : Int) * 256)) (b.toNat : Int) = IntKind.i64.wrap ((m * 256 + b.toNat : Nat) : Int) := by
  show IntKind.i64.wrap ((BitVec.ofInt 64 (IntKind.i64.wrap ((m : Int) * 256)) ||| BitVec.ofInt 64 (b.toNat : Int)).toNat : Int) = _
  have hb := b.toNat_lt
  have e1 : (BitVec.ofInt 64 (IntKind.i64.wrap ((m : Int) * 256))).toNat = 2 ^ 8 * (m % 2 ^ 56) := by
    rw [BitVec.toNat_ofInt, IntKind.wrap_i64]
    simp only [Nat.reducePow]
    omega
  have e2 : (BitVec.ofInt 64 (b.toNat : Int)).toNat = b.toNat := by
    rw [BitVec.toNat_ofInt]
    simp only [Nat.reducePow]
    omega
  rw [BitVec.toNat_or, e1, e2, ← Nat.two_pow_add_eq_or_of_lt hb, IntKind.wrap_i64, IntKind.wrap_i64]
  simp only [Nat.reducePow]
  omega

end Go.Proofs.YteamepgonmdilaaDoor
