/- Small laws on whole numbers of 64 bits: what masks tell, and sums that go round. -/
import Derived.Laws.BitsLemmas
import Derived.RowKit
import Derived.OpenShut
namespace Go.Proofs.Ytnmcnailgdcmoaa.Arith
open Go.RowKit

theorem i64_and (j : Nat) (hj : j ≤ 62) (n : Int) : bits .and .i64 n (2 ^ j - 1) = n % 2 ^ j := by
  have hpow : (2 : Nat) ^ j ≤ 2 ^ 62 := Nat.pow_le_pow_right (by decide) hj
  have hpos : 0 < (2 : Nat) ^ j := Nat.two_pow_pos j
  have hc : ((2 : Int) ^ j - 1) = ((2 ^ j - 1 : Nat) : Int) := by rw [Int.natCast_sub hpos]; simp
  show IntKind.i64.wrap ((BitVec.ofInt 64 n &&& BitVec.ofInt 64 ((2 : Int) ^ j - 1)).toNat : Int) = n % 2 ^ j
  rw [hc, BitVec.toNat_and, BitVec.ofInt_natCast, BitVec.toNat_ofNat, Nat.mod_eq_of_lt (by omega : 2 ^ j - 1 < 2 ^ 64), Nat.and_two_pow_sub_one_eq_mod, BitVec.toNat_ofInt]
  have hm : ((n % (2 ^ 64 : Int)).toNat % 2 ^ j : Nat) < 2 ^ j := Nat.mod_lt _ hpos
  have hdvd : ((2 : Int) ^ j) ∣ 2 ^ 64 := by
    refine ⟨2 ^ (64 - j), ?_⟩
    rw [← Int.pow_add]
    congr 1
    omega
  have e : (((n % (2 ^ 64 : Int)).toNat % 2 ^ j : Nat) : Int) = n % 2 ^ j := by
    rw [Int.natCast_emod, Int.toNat_of_nonneg (Int.emod_nonneg _ (by decide))]
    push_cast
    exact Int.emod_emod_of_dvd n hdvd
  have h2 : (((n % (2 ^ 64 : Int)).toNat % 2 ^ j : Nat) : Int) < 2 ^ 62 := by
    have : ((n % (2 ^ 64 : Int)).toNat % 2 ^ j : Nat) < 2 ^ 62 := Nat.lt_of_lt_of_le hm hpow
    exact_mod_cast this
  have h3 : (0 : Int) ≤ (((n % (2 ^ 64 : Int)).toNat % 2 ^ j : Nat) : Int) := Int.natCast_nonneg _
  have e' : (((n % ((2 ^ 64 : Nat) : Int)).toNat % 2 ^ j : Nat) : Int) = n % 2 ^ j := e
  rw [e', IntKind.wrap_i64]
  rw [e] at h2 h3
  omega
theorem and255 (n : Int) : bits .and .i64 n 255 = n % 256 := i64_and 8 (by decide) n
theorem and3 (n : Int) : bits .and .i64 n 3 = n % 4 := i64_and 2 (by decide) n
theorem and1 (n : Int) : bits .and .i64 n 1 = n % 2 := i64_and 1 (by decide) n

theorem wrap_mod256 (n : Int) : wrap64 n % 256 = n % 256 := by unfold wrap64; omega
theorem wrap_mod4 (n : Int) : wrap64 n % 4 = n % 4 := by unfold wrap64; omega
end Go.Proofs.Ytnmcnailgdcmoaa.Arith
