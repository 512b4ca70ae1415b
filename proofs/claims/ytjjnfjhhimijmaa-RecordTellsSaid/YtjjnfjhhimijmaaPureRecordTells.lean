/- The plain law of RecordTells. -/
import Derived.Test.YtjjnfjhhimijmaaAx42
import Derived.Test.YtjjnfjhhimijmaaPureRecord
namespace Go.Proofs.Ytjjnfjhhimijmaa.Pure
open Go.RowKit Go.Proofs.Ytjjnfjhhimijmaa.A Go.Proofs.YtjjnfjhhimijmaaW.PrintWords Go.Proofs.YtjjnfjhhimijmaaW.PrintLast
set_option linter.unusedVariables false
set_option linter.unusedSimpArgs false

theorem refprint_eq (a b c : Int) : crossbuckref25_Print.f a b c = some (printV a b c) := by
  unfold crossbuckref25_Print.f printV
  by_cases h : 0 ≤ a ∧ a ≤ 7 ∧ 0 ≤ b ∧ b ≤ 255 ∧ 0 ≤ c ∧ c ≤ 255
  · rw [if_neg (by omega), if_neg (by omega), if_neg (by omega), if_neg (by omega), if_neg (by omega), if_neg (by omega), if_pos h, Int.emod_eq_of_lt (by omega) (by omega), Int.emod_eq_of_lt (by omega) (by omega), Int.emod_eq_of_lt (by omega) (by omega)]
  · rw [if_neg h]
    by_cases h1 : a < 0
    · rw [if_pos h1]
    · by_cases h2 : a > 7
      · rw [if_neg h1, if_pos h2]
      · by_cases h3 : b < 0
        · rw [if_neg h1, if_neg h2, if_pos h3]
        · by_cases h4 : b > 255
          · rw [if_neg h1, if_neg h2, if_neg h3, if_pos h4]
          · by_cases h5 : c < 0
            · rw [if_neg h1, if_neg h2, if_neg h3, if_neg h4, if_pos h5]
            · rw [if_neg h1, if_neg h2, if_neg h3, if_neg h4, if_neg h5, if_pos (by omega)]
def gw (x : S39) : Bool := x.f0.f3
def gj (x : S39) : Bool := x.f1.f2
theorem mask_step (g : S39 → Bool) (l : List S39) (m : Int) (i s n : Nat) (hi : (i : Int) < m) (h8 : i < 8) (hn : n < 2 ^ i) :
    maskL g l m (s + 1) (i : Int) (n : Int) = maskL g l m s ((i + 1 : Nat) : Int) (if g (rd_T39 l i) = true then ((n + 2 ^ i : Nat) : Int) else (n : Int)) := by
  rw [maskL, if_pos hi, show ((i : Int)).toNat = i by simp, or_add i n h8 hn]
  rfl
theorem wrap_two (p : Nat) (h : p ≤ 128) : wrap64 (2 * (p : Int)) = ((2 * p : Nat) : Int) := by unfold wrap64; omega
theorem wrap_suc (i : Nat) (h : i ≤ 128) : wrap64 ((i : Int) + 1) = ((i + 1 : Nat) : Int) := by unfold wrap64; omega
theorem wrap_sum (x p : Nat) (hx : x < p) (h : p ≤ 128) : wrap64 ((x : Int) + (p : Int)) = ((x + p : Nat) : Int) := by unfold wrap64; omega
theorem pow_suc (i : Nat) : (2 : Nat) ^ (i + 1) = 2 * 2 ^ i := by rw [Nat.pow_succ, Nat.mul_comm]
theorem sum_lt (x p : Nat) (hx : x < p) : x + p < 2 * p := by omega
theorem lt_two (x p : Nat) (hx : x < p) : x < 2 * p := by omega
theorem refof_evd (l : List S39) (ph : Int) (m : Nat) (hm : mn (l.length : Int) 8 = m) (h8 : m ≤ 8) (hl : m ≤ l.length) : ∀ (d i w j : Nat), i + d = m → w < 2 ^ i → j < 2 ^ i →
    Ev (fun k => crossbuckref25_Of.l0 k l ((2 ^ i : Nat) : Int) (i : Int) ph (w : Int) (j : Int)) (ph, maskL gw l m (9 - i) (i : Int) (w : Int), maskL gj l m (9 - i) (i : Int) (j : Int))
  | 0, i, w, j, hd, hw, hj => by
    obtain ⟨s, hs⟩ : ∃ s, 9 - i = s + 1 := ⟨8 - i, by omega⟩
    rw [hs, maskL, maskL, if_neg (by omega), if_neg (by omega)]
    exact Ev.step (f := fun _ => some (ph, (w : Int), (j : Int))) (fun k => by rw [crossbuckref25_Of.l0, hm, if_neg (by omega)]) (Ev.now _)
  | d + 1, i, w, j, hd, hw, hj => by
    obtain ⟨s, hs⟩ : ∃ s, 9 - i = s + 1 := ⟨8 - i, by omega⟩
    have hs' : 9 - (i + 1) = s := by omega
    have hi8 : i < 8 := by omega
    have c1 : (i : Int) < mn (l.length : Int) 8 := by rw [hm]; omega
    have c2 : (0 : Int) ≤ (i : Int) := Int.natCast_nonneg i
    have c3 : (i : Int) < (l.length : Int) := by omega
    have c4 : (i : Int) < (m : Int) := by omega
    have hdm : (i + 1) + d = m := by omega
    have hp8 : (2 : Nat) ^ i ≤ 128 := Nat.le_trans (Nat.pow_le_pow_right (by decide) (show i ≤ 7 by omega)) (by decide)
    have e1 : wrap64 (2 * ((2 ^ i : Nat) : Int)) = ((2 ^ (i + 1) : Nat) : Int) := by rw [pow_suc]; exact wrap_two _ hp8
    have e2 : wrap64 ((i : Int) + 1) = ((i + 1 : Nat) : Int) := wrap_suc i (by omega)
    have e3 : ∀ x : Nat, x < 2 ^ i → wrap64 ((x : Int) + ((2 ^ i : Nat) : Int)) = ((x + 2 ^ i : Nat) : Int) := fun x hx => wrap_sum x _ hx hp8
    rw [hs, mask_step gw l m i s w c4 hi8 hw, mask_step gj l m i s j c4 hi8 hj]
    have hb := fun (w' j' : Nat) (hw' : w' < 2 ^ (i + 1)) (hj' : j' < 2 ^ (i + 1)) => refof_evd l ph m hm h8 hl d (i + 1) w' j' hdm hw' hj'
    rw [hs'] at hb
    have b1 : ∀ x : Nat, x < 2 ^ i → x + 2 ^ i < 2 ^ (i + 1) := fun x hx => by rw [pow_suc]; exact sum_lt _ _ hx
    have b2 : ∀ x : Nat, x < 2 ^ i → x < 2 ^ (i + 1) := fun x hx => by rw [pow_suc]; exact lt_two _ _ hx
    rcases Bool.eq_false_or_eq_true (gw (rd_T39 l i)) with g1 | g1 <;> rcases Bool.eq_false_or_eq_true (gj (rd_T39 l i)) with g2 | g2
    · rw [if_pos g1, if_pos g2]
      refine Ev.step (fun k => ?_) (hb (w + 2 ^ i) (j + 2 ^ i) (b1 w hw) (b1 j hj))
      rw [crossbuckref25_Of.l0, if_pos c1, if_pos c2, if_pos c3, if_pos (show (rd_T39 l i).f0.f3 = true from g1), if_pos (show (rd_T39 l i).f1.f2 = true from g2), e1, e2, e3 w hw, e3 j hj]
    · rw [if_pos g1, if_neg (by rw [g2]; decide)]
      refine Ev.step (fun k => ?_) (hb (w + 2 ^ i) j (b1 w hw) (b2 j hj))
      rw [crossbuckref25_Of.l0, if_pos c1, if_pos c2, if_pos c3, if_pos (show (rd_T39 l i).f0.f3 = true from g1), if_neg (show ¬ (rd_T39 l i).f1.f2 = true by have : (rd_T39 l i).f1.f2 = false := g2; rw [this]; decide), e1, e2, e3 w hw]
    · rw [if_neg (by rw [g1]; decide), if_pos g2]
      refine Ev.step (fun k => ?_) (hb w (j + 2 ^ i) (b2 w hw) (b1 j hj))
      rw [crossbuckref25_Of.l0, if_pos c1, if_pos c2, if_pos c3, if_neg (show ¬ (rd_T39 l i).f0.f3 = true by have : (rd_T39 l i).f0.f3 = false := g1; rw [this]; decide), if_pos (show (rd_T39 l i).f1.f2 = true from g2), e1, e2, e3 j hj]
    · rw [if_neg (by rw [g1]; decide), if_neg (by rw [g2]; decide)]
      refine Ev.step (fun k => ?_) (hb w j (b2 w hw) (b2 j hj))
      rw [crossbuckref25_Of.l0, if_pos c1, if_pos c2, if_pos c3, if_neg (show ¬ (rd_T39 l i).f0.f3 = true by have : (rd_T39 l i).f0.f3 = false := g1; rw [this]; decide), if_neg (show ¬ (rd_T39 l i).f1.f2 = true by have : (rd_T39 l i).f1.f2 = false := g2; rw [this]; decide), e1, e2]
theorem refof25_ev (ph s : Int) (l : List S39) : Ev (fun k => crossbuckref25_Of.f k ph s l) (ph, maskV (fun x => x.f0.f3) l, maskV (fun x => x.f1.f2) l) := by
  obtain ⟨m, hm, hml, hm8⟩ : ∃ m : Nat, mn (l.length : Int) 8 = m ∧ m ≤ l.length ∧ m ≤ 8 := by
    refine ⟨if l.length ≤ 8 then l.length else 8, ?_, ?_, ?_⟩ <;> split <;> (try unfold mn) <;> (try split) <;> omega
  have := refof_evd l ph m hm hm8 hml m 0 0 0 (by omega) (by decide) (by decide)
  unfold maskV
  rw [hm]
  exact this
theorem RecordTells : ∀ (a0_0 : Int) (a0_1 : Int) (l1 : List S39) (a2_0 : Int) (a2_1 : Int) (a2_2 : Int) (l3 : List Int), (Lit.int .i64 a0_0).wf = true → (Lit.int .i64 a0_1).wf = true → (∀ x ∈ l1, (Lit.int .i64 x.f0.f1).wf = true ∧ (Lit.int .i64 x.f0.f2).wf = true ∧ (Lit.int .i64 x.f1.f0).wf = true ∧ (Lit.int .i64 x.f1.f1).wf = true ∧ (Lit.int .i64 x.f3).wf = true) → (Lit.int .i64 a2_0).wf = true → (Lit.int .i64 a2_1).wf = true → (Lit.int .i64 a2_2).wf = true → (∀ x ∈ l3, (Lit.int .u8 x).wf = true) → ∃ k, crossbucklaw25_RecordTells.f k a0_0 a0_1 l1 a2_0 a2_1 a2_2 l3 = some true := by
  intro a0 a1 l1 b0 b1 b2 l3 _ _ _ _ _ _ _
  refine Ev.rounds (g := fun k => crossbucklaw25_RecordTells.f k a0 a1 l1 b0 b1 b2 l3) ?_
  simp only [crossbucklaw25_RecordTells.f, crossbucklaw25_small.f, Option.bind_some]
  have out : Ev (fun k => crossbucklaw25_RecordTells.j0 k l1 l3 true true a0 a1 b0 b1 b2) true := Ev.step (f := fun _ => some true) (fun k => by rw [crossbucklaw25_RecordTells.j0, if_pos rfl]) (Ev.now true)
  by_cases h1 : (l1.length : Int) > 100
  · simp only [h1, if_true]; exact out
  · simp only [h1, if_false]
    by_cases h3 : (l3.length : Int) > 100
    · rw [decide_eq_true h3]; exact out
    · rw [decide_eq_false h3]
      have hp : crossbuckref25_Parse.f l3 = record_Parse.f l3 := rfl
      obtain ⟨⟨x, y, z, t⟩, hq⟩ : ∃ q, record_Parse.f l3 = some q := ⟨_, parse_eq l3⟩
      refine Ev.step (fun k => by rw [crossbucklaw25_RecordTells.j0, if_neg (by decide), hp, hq, Option.bind_some, Option.bind_some, if_pos rfl]) ?_
      simp only [record_Of.f, Option.bind_some]
      refine Ev.bind (refof25_ev a0 a1 l1) ?_
      simp only [beq_self_eq_true, Bool.and_true, if_true]
      refine Ev.bind (print_ev b0 b1 b2) ?_
      simp only [refprint_eq, Option.bind_some, beq_self_eq_true, Bool.and_true, if_true]
      exact Ev.now true
end Go.Proofs.Ytjjnfjhhimijmaa.Pure
