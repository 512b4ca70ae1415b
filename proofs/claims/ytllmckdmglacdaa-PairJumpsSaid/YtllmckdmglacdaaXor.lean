/- The two lowest bits of an exclusive or. -/
import Derived.Test.YtllmckdmglacdaaArith
namespace Go.Proofs.Ytllmckdmglacdaa.Arith
open Go.RowKit
theorem toNat4 (x : Int) : (BitVec.ofInt 64 x).toNat % 4 = (x % 4).toNat := by
  rw [BitVec.toNat_ofInt]
  omega
theorem xor4 (x y : Int) : bits .xor .i64 x y % 4 = (((x % 4).toNat ^^^ (y % 4).toNat : Nat) : Int) := by
  show IntKind.i64.wrap ((BitVec.ofInt 64 x ^^^ BitVec.ofInt 64 y).toNat : Int) % 4 = _
  rw [IntKind.wrap_i64, BitVec.toNat_xor]
  have e : ((BitVec.ofInt 64 x).toNat ^^^ (BitVec.ofInt 64 y).toNat) % 2 ^ 2 = ((x % 4).toNat ^^^ (y % 4).toNat) := by
    rw [Nat.xor_mod_two_pow, show (2 : Nat) ^ 2 = 4 from rfl, toNat4, toNat4]
  rw [← e]
  generalize (BitVec.ofInt 64 x).toNat ^^^ (BitVec.ofInt 64 y).toNat = n
  omega
/-- Both bits turn just if the lies are two apart in the order on. -/
theorem both3 (x y : Int) : bits .and .i64 (bits .xor .i64 x y) 3 = (((x % 4).toNat ^^^ (y % 4).toNat : Nat) : Int) := by rw [and3, xor4]
end Go.Proofs.Ytllmckdmglacdaa.Arith
