/- What survives, in plain words: masks, bytes and back. -/
import Derived.Test.YtjjnfjhhimijmaaAx5
import Derived.Test.YtjjnfjhhimijmaaHandRec
import Derived.Test.YtjjnfjhhimijmaaArith
namespace Go.Proofs.Ytjjnfjhhimijmaa.Pure
open Go.RowKit Go.Proofs.Ytjjnfjhhimijmaa.A Go.Proofs.YtjjnfjhhimijmaaW.PrintWords Go.Proofs.YtjjnfjhhimijmaaW.PrintLast
set_option linter.unusedVariables false
set_option linter.unusedSimpArgs false

theorem or_add8 : ∀ i : Fin 8, ∀ n : Fin 256, n.val < 2 ^ i.val → Go.bits .or .i64 (n.val : Int) (wrap64 (2 ^ min i.val 64)) = ((n.val + 2 ^ i.val : Nat) : Int) := by decide +kernel
theorem or_add (i n : Nat) (hi : i < 8) (hn : n < 2 ^ i) : Go.bits .or .i64 (n : Int) (wrap64 (2 ^ min i 64)) = ((n + 2 ^ i : Nat) : Int) := by
  have h256 : n < 256 := Nat.lt_of_lt_of_le hn (Nat.le_trans (Nat.pow_le_pow_right (by decide) (show i ≤ 8 by omega)) (by decide))
  exact or_add8 ⟨i, hi⟩ ⟨n, h256⟩ hn
/-- The bytes of a record, if it may be. -/
def printV (a b c : Int) : List Int := if 0 ≤ a ∧ a ≤ 7 ∧ 0 ≤ b ∧ b ≤ 255 ∧ 0 ≤ c ∧ c ≤ 255 then [a, b, c] else []
theorem and_byte (n : Int) : (n = Go.bits .and .i64 n 255) ↔ (0 ≤ n ∧ n ≤ 255) := by
  rw [Arith.and255]
  constructor <;> omega
theorem print_l0 (k : Nat) (x a b c i v : Int) (xs : List Int) (hx : xs.length = 3) (hi : 0 ≤ i) (h3 : i < 3) (hv : rd [a, b, c] i = v) :
    record_Print.l0 (k + 1) xs [a, b, c] 3 i = if 0 ≤ v ∧ v ≤ 255 then (if i = 0 ∧ v > 7 then some [] else record_Print.l0 k (xs.set i.toNat (v % 256)) [a, b, c] 3 (wrap64 (i + 1))) else some [] := by
  have L3 : (([a, b, c] : List Int).length : Int) = 3 := rfl
  have hx' : (xs.length : Int) = 3 := by omega
  rw [record_Print.l0, if_pos h3, if_pos hi, L3, if_pos h3, hv, hx']
  by_cases h : 0 ≤ v ∧ v ≤ 255
  · rw [if_pos ((and_byte v).2 h), if_pos h]
    by_cases h0 : i = 0
    · by_cases h7 : v > 7
      · rw [if_pos h0, if_pos h7, if_pos ⟨h0, h7⟩]
      · rw [if_pos h0, if_neg h7, if_pos h3, if_neg (fun x => h7 x.2)]
    · rw [if_neg h0, if_pos h3, if_neg (fun x => h0 x.1)]
  · rw [if_neg (fun x => h ((and_byte v).1 x)), if_neg h]
theorem print_ev (a b c : Int) : Ev (fun k => record_Print.f k a b c) (printV a b c) := by
  refine ⟨4, fun k hk => ?_⟩
  obtain ⟨k, rfl⟩ : ∃ m, k = m + 4 := ⟨k - 4, by omega⟩
  have w1 : wrap64 (0 + 1) = 1 := by unfold wrap64; omega
  have w2 : wrap64 (1 + 1) = 2 := by unfold wrap64; omega
  have w3 : wrap64 (2 + 1) = 3 := by unfold wrap64; omega
  have e : record_Print.f (k + 4) a b c = record_Print.l0 (k + 4) [0, 0, 0] [a, b, c] 3 0 := by
    unfold record_Print.f
    rw [if_pos (by decide), Option.bind_some]
    rfl
  show record_Print.f (k + 4) a b c = some (printV a b c)
  unfold printV
  rw [e, print_l0 (k + 3) 0 a b c 0 a [0, 0, 0] rfl (by decide) (by decide) rfl, w1]
  by_cases h0 : 0 ≤ a ∧ a ≤ 255
  · rw [if_pos h0]
    by_cases h7 : a > 7
    · rw [if_pos ⟨rfl, h7⟩, if_neg (by omega)]
    · rw [if_neg (fun x => h7 x.2)]
      rw [print_l0 (k + 2) 0 a b c 1 b _ rfl (by decide) (by decide) rfl, w2]
      by_cases h1 : 0 ≤ b ∧ b ≤ 255
      · rw [if_pos h1, if_neg (fun x => absurd x.1 (by decide))]
        rw [print_l0 (k + 1) 0 a b c 2 c _ rfl (by decide) (by decide) rfl, w3]
        by_cases h2 : 0 ≤ c ∧ c ≤ 255
        · rw [if_pos h2, if_neg (fun x => absurd x.1 (by decide)), record_Print.l0, if_neg (by decide), if_pos (by omega)]
          show some [a % 256, b % 256, c % 256] = _
          rw [Int.emod_eq_of_lt (by omega) (by omega), Int.emod_eq_of_lt (by omega) (by omega), Int.emod_eq_of_lt (by omega) (by omega)]
        · rw [if_neg h2, if_neg (by omega)]
      · rw [if_neg h1, if_neg (by omega)]
  · rw [if_neg h0, if_neg (by omega)]
theorem parse_eq (l : List Int) : record_Parse.f l = some (if (l.length : Int) = 3 ∧ ¬ (rd l 0 > 7) then (wrap64 (rd l 0), wrap64 (rd l 1), wrap64 (rd l 2), true) else (0, 0, 0, false)) := by
  unfold record_Parse.f
  by_cases h : (l.length : Int) = 3
  · rw [if_pos h, if_pos (show 0 < (l.length : Int) by omega)]
    by_cases g : rd l 0 > 7
    · rw [if_pos g, if_neg (by simp [g])]
    · rw [if_neg g, if_pos (show 1 < (l.length : Int) by omega), if_pos (show 2 < (l.length : Int) by omega), if_pos ⟨h, g⟩]
  · rw [if_neg h, if_neg (fun x => h x.1)]
end Go.Proofs.Ytjjnfjhhimijmaa.Pure
