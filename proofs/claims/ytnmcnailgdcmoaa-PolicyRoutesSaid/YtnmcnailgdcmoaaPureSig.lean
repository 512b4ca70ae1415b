/- Whether nothing is wrong, in plain words, and the document's own; which signals may show clear. -/
import Derived.Test.YtnmcnailgdcmoaaHandGoodB
import Derived.Test.YtnmcnailgdcmoaaAx4
import Derived.Test.YtnmcnailgdcmoaaHandSmall23
import Derived.Test.YtnmcnailgdcmoaaArith
namespace Go.Proofs.Ytnmcnailgdcmoaa.Pure
open Go.RowKit Go.Proofs.Ytnmcnailgdcmoaa.A Go.Proofs.YtnmcnailgdcmoaaW.PrintWords Go.Proofs.YtnmcnailgdcmoaaW.PrintLast Go.Proofs.YtnmcnailgdcmoaaW.PrintMore
set_option linter.unusedVariables false
set_option linter.unusedSimpArgs false

theorem rd_drop (l : List S31) (i : Int) (h0 : 0 ≤ i) (h1 : i < l.length) : l.drop i.toNat = rd_T31 l i :: l.drop (i + 1).toNat := by
  have hi : i.toNat < l.length := by omega
  rw [List.drop_eq_getElem_cons hi, show (i + 1).toNat = i.toNat + 1 by omega]
  congr 1
  unfold rd_T31
  rw [List.getD_eq_getElem?_getD, List.getElem?_eq_getElem hi]
  rfl
theorem any_evd (g : S31 → Bool) (l : List S31) (hl : (l.length : Int) ≤ 1000) : ∀ (d : Nat) (i : Int), 0 ≤ i → i + d = l.length → Ev (fun k => anyL g k l i) ((l.drop i.toNat).any g)
  | 0, i, h0, h1 => by
    have e : l.drop i.toNat = [] := List.drop_eq_nil_of_le (by omega)
    rw [e]
    exact Ev.step (f := fun _ => some false) (fun k => by simp only [anyL]; rw [if_neg (by omega)]) (Ev.now false)
  | d + 1, i, h0, h1 => by
    have e : wrap64 (i + 1) = i + 1 := by unfold wrap64; omega
    have hb := any_evd g l hl d (i + 1) (by omega) (by omega)
    rw [rd_drop l i h0 (by omega), List.any_cons]
    rcases Bool.eq_false_or_eq_true (g (rd_T31 l i)) with hc | hc
    · rw [hc, Bool.true_or]
      exact Ev.step (f := fun _ => some true) (fun k => by rw [anyL, if_pos (show i < (l.length : Int) by omega), if_pos h0, if_pos hc]) (Ev.now true)
    · rw [hc, Bool.false_or]
      exact Ev.step (f := fun k => anyL g k l (i + 1)) (fun k => by rw [anyL, if_pos (show i < (l.length : Int) by omega), if_pos h0, if_neg (by rw [hc]; decide), e]) hb
theorem any_ev (g : S31 → Bool) (l : List S31) (hl : (l.length : Int) ≤ 1000) : Ev (fun k => anyL g k l 0) (l.any g) := by
  have := any_evd g l hl l.length 0 (by omega) (by omega)
  simpa using this

def goodB (lamps : Bool) (mode : Int) (mains : Bool) (l : List S31) : Bool := !(decide (mode = 1)) && (mains && (lamps && !(l.any fun x => x.f4)))
theorem good_ev (a0 a1 a2 a3 a4 a5 a6 : Bool) (a7 : Int) (a8 a9 : Bool) (a10 : Int) (l0 : List S34) (l : List S31) (hl : (l.length : Int) ≤ 1000) :
    Ev (fun k => demand_Good.f k a0 a1 a2 a3 a4 a5 a6 a7 a8 a9 a10 l0 l) (goodB a5 a7 a8 l) := by
  simp only [demand_Good.f]
  refine Ev.bind (any_ev _ l hl) ?_
  exact Ev.now _
theorem refgood_evd (a0 a1 a2 a3 a4 a5 a6 : Bool) (a7 : Int) (a8 a9 : Bool) (a10 : Int) (l0 : List S34) (l : List S31) (hl : (l.length : Int) ≤ 1000) : ∀ (d : Nat) (i : Int), 0 ≤ i → i + d = l.length →
    Ev (fun k => crossbuckref19_Good.l0 k l i a0 a1 a2 a3 a4 a5 a6 a7 a8 a9 a10 l0) (goodB a5 a7 a8 (l.drop i.toNat))
  | 0, i, h0, h1 => by
    have e : l.drop i.toNat = [] := List.drop_eq_nil_of_le (by omega)
    rw [e]
    refine Ev.step (f := fun _ => some (goodB a5 a7 a8 [])) (fun k => ?_) (Ev.now _)
    simp only [crossbuckref19_Good.l0]
    rw [if_neg (by omega)]
    unfold goodB
    by_cases g : a7 = 1
    · rw [if_pos g, decide_eq_true g]; rfl
    · rw [if_neg g, decide_eq_false g]
      cases a8 <;> cases a5 <;> rfl
  | d + 1, i, h0, h1 => by
    have e : wrap64 (i + 1) = i + 1 := by unfold wrap64; omega
    have hb := refgood_evd a0 a1 a2 a3 a4 a5 a6 a7 a8 a9 a10 l0 l hl d (i + 1) (by omega) (by omega)
    have er := rd_drop l i h0 (by omega)
    rcases Bool.eq_false_or_eq_true (rd_T31 l i).f4 with hc | hc
    · have : goodB a5 a7 a8 (l.drop i.toNat) = false := by unfold goodB; rw [er, List.any_cons, hc]; simp
      rw [this]
      exact Ev.step (f := fun _ => some false) (fun k => by rw [crossbuckref19_Good.l0, if_pos (show i < (l.length : Int) by omega), if_pos h0, if_pos hc]) (Ev.now false)
    · have : goodB a5 a7 a8 (l.drop i.toNat) = goodB a5 a7 a8 (l.drop (i + 1).toNat) := by unfold goodB; rw [er, List.any_cons, hc]; simp
      rw [this]
      exact Ev.step (f := fun k => crossbuckref19_Good.l0 k l (i + 1) a0 a1 a2 a3 a4 a5 a6 a7 a8 a9 a10 l0) (fun k => by rw [crossbuckref19_Good.l0, if_pos (show i < (l.length : Int) by omega), if_pos h0, if_neg (by rw [hc]; decide), e]) hb
theorem refgood_ev (a0 a1 a2 a3 a4 a5 a6 : Bool) (a7 : Int) (a8 a9 : Bool) (a10 : Int) (l0 : List S34) (l : List S31) (hl : (l.length : Int) ≤ 1000) :
    Ev (fun k => crossbuckref19_Good.f k a0 a1 a2 a3 a4 a5 a6 a7 a8 a9 a10 l0 l) (goodB a5 a7 a8 l) := by
  have := refgood_evd a0 a1 a2 a3 a4 a5 a6 a7 a8 a9 a10 l0 l hl l.length 0 (by omega) (by omega)
  simpa [crossbuckref19_Good.f] using this

/-- Which signals may show clear. -/
def sigV (lamps : Bool) (mode : Int) (mains : Bool) (routes : Int) (l : List S31) (ph : Int) (proved : Bool) : Int :=
  if ph = 5 ∧ proved = true ∧ mode = 0 ∧ goodB lamps mode mains l = true ∧ 0 ≤ routes then routes % 2 ^ (min l.length 62) else 0
theorem mn_len (n : Nat) : (mn (n : Int) 62).toNat = min n 62 := by
  unfold mn
  split <;> omega
theorem andNot_neg (x : Int) (j : Nat) (hj : j ≤ 62) : Go.bits .andNot .i64 x (wrap64 ((-1) * 2 ^ j)) = x % 2 ^ j := by
  have hp : (1 : Int) ≤ 2 ^ j := by have := Nat.one_le_two_pow (n := j); exact_mod_cast this
  have hp2 : (2 : Int) ^ j ≤ 2 ^ 62 := by exact_mod_cast Nat.pow_le_pow_right (n := 2) (by decide) hj
  have e : wrap64 ((-1) * 2 ^ j) = -(2 ^ j : Int) := by
    generalize (2 : Int) ^ j = p at *
    unfold wrap64
    omega
  rw [e, ← Arith.i64_and j hj x]
  show IntKind.i64.wrap ((BitVec.ofInt 64 x &&& ~~~ (BitVec.ofInt 64 (-(2 ^ j : Int)))).toNat : Int) = IntKind.i64.wrap ((BitVec.ofInt 64 x &&& BitVec.ofInt 64 ((2 : Int) ^ j - 1)).toNat : Int)
  have hb : ~~~ (BitVec.ofInt 64 (-(2 ^ j : Int))) = BitVec.ofInt 64 ((2 : Int) ^ j - 1) := by
    rw [BitVec.ofInt_neg, BitVec.not_neg, Int.sub_eq_add_neg, BitVec.ofInt_add, BitVec.ofInt_neg, BitVec.sub_eq_add_neg]
    rfl
  rw [hb]
theorem mask_ref (j : Nat) (hj : j ≤ 62) : wrap64 (wrap64 (2 ^ j) - 1) = 2 ^ j - 1 := by
  have hp : (1 : Int) ≤ 2 ^ j := by have := Nat.one_le_two_pow (n := j); exact_mod_cast this
  have hp2 : (2 : Int) ^ j ≤ 2 ^ 62 := by exact_mod_cast Nat.pow_le_pow_right (n := 2) (by decide) hj
  generalize (2 : Int) ^ j = p at *
  unfold wrap64
  omega
theorem sig_ev (a0 a1 a2 a3 a4 a5 a6 : Bool) (a7 : Int) (a8 a9 : Bool) (a10 : Int) (l0 : List S34) (l : List S31) (ph s : Int) (pr : Bool) (hl : (l.length : Int) ≤ 1000) :
    Ev (fun k => policy_Signals.f k a0 a1 a2 a3 a4 a5 a6 a7 a8 a9 a10 l0 l ph s pr) (sigV a5 a7 a8 a10 l ph pr) := by
  simp only [policy_Signals.f]
  unfold sigV
  by_cases h5 : ph = 5
  · by_cases hp : pr = true
    · by_cases h7 : a7 = 0
      · simp only [h5, hp, h7, if_true, true_and]
        have hg := good_ev a0 a1 a2 a3 a4 a5 a6 a7 a8 a9 a10 l0 l hl
        rw [h7] at hg
        refine Ev.bind hg ?_
        cases goodB a5 0 a8 l
        · simpa using Ev.now (0 : Int)
        · by_cases hr : a10 < 0
          · simp only [hr, if_true, show ¬ (0 ≤ a10) by omega, and_false, if_false]
            exact Ev.now 0
          · simp only [hr, if_true, if_false, show 0 ≤ a10 by omega, and_true, mn_len, andNot_neg a10 _ (Nat.min_le_right l.length 62)]
            exact Ev.now _
      · simp only [h5, hp, h7, if_true, if_false, true_and, false_and]
        exact Ev.now 0
    · simp only [h5, hp, if_true, if_false, true_and, false_and]
      exact Ev.now 0
  · simp only [h5, if_false, false_and]
    exact Ev.now 0
theorem refsig_ev (a0 a1 a2 a3 a4 a5 a6 : Bool) (a7 : Int) (a8 a9 : Bool) (a10 : Int) (l0 : List S34) (l : List S31) (ph s : Int) (pr : Bool) (hl : (l.length : Int) ≤ 1000) :
    Ev (fun k => crossbuckref23_Signals.f k a0 a1 a2 a3 a4 a5 a6 a7 a8 a9 a10 l0 l ph s pr) (sigV a5 a7 a8 a10 l ph pr) := by
  simp only [crossbuckref23_Signals.f]
  refine Ev.bind (refgood_ev a0 a1 a2 a3 a4 a5 a6 a7 a8 a9 a10 l0 l hl) ?_
  unfold sigV
  by_cases h5 : ph = 5
  · by_cases hp : pr = true
    · by_cases h7 : a7 = 0
      · simp only [h5, hp, h7, if_true, true_and]
        cases goodB a5 0 a8 l
        · simpa using Ev.now (0 : Int)
        · by_cases hr : a10 < 0
          · simp only [hr, if_true, show ¬ (0 ≤ a10) by omega, and_false, if_false]
            exact Ev.now 0
          · simp only [hr, if_true, if_false, show 0 ≤ a10 by omega, and_true, mn_len, mask_ref _ (Nat.min_le_right l.length 62), Arith.i64_and _ (Nat.min_le_right l.length 62) a10]
            exact Ev.now _
      · simp only [h5, hp, h7, if_true, if_false, true_and, false_and]
        exact Ev.now 0
    · simp only [h5, hp, if_true, if_false, true_and, false_and]
      exact Ev.now 0
  · simp only [h5, if_false, false_and]
    exact Ev.now 0
theorem small23 : crossbucklaw23_small.f = some true := rfl
end Go.Proofs.Ytnmcnailgdcmoaa.Pure
