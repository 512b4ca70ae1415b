/- The plain law of ProveBounds, over numbers and lists. -/
import Derived.Test.YtdnokmlonahmnaaPProveBoundsx1
import Derived.OpenShut
namespace Go.Proofs.Ytdnokmlonahmnaa.Pure
open Go.RowKit Go.Proofs.Ytdnokmlonahmnaa.PProveBounds Go.Proofs.YtdnokmlonahmnaaW.PrintWords Go.Proofs.YtdnokmlonahmnaaW.PrintLast
set_option linter.unusedVariables false
set_option linter.unusedSimpArgs false
theorem small_true : crossbucklaw18_small.f = some true := by decide +kernel

/-- What a step counts. -/
def stepS (n : Int) (down : Bool) (least : Int) : Int := if down then (if (if n < 0 then 0 else n) < (if least < 1 then 1 else least) - 1 then (if n < 0 then 0 else n) else (if least < 1 then 1 else least) - 1) + 1 else 0

theorem step_eq (n : Int) (e x d y : Bool) (least : Int) (hn : -9223372036854775808 ≤ n ∧ n ≤ 9223372036854775807) (hl : -9223372036854775808 ≤ least ∧ least ≤ 9223372036854775807) :
    prove_Step.f n e x d y least = some (stepS n (e && d) least) := by
  unfold prove_Step.f prove_Down.f stepS
  cases e <;> cases d <;> simp only [Bool.and_true, Bool.and_false, Bool.false_and, Bool.true_and, if_true, Option.bind_some, Bool.false_eq_true, if_false]
  congr 1
  unfold mn mx wrap64
  (repeat' split) <;> omega

theorem proved_eq (n least : Int) : prove_Proved.f n least = some (decide ((if least < 1 then 1 else least) ≤ n)) := by
  unfold prove_Proved.f mx
  rfl

theorem ProveBounds : ∀ (a0 : Int) (a1_0 : Bool) (a1_1 : Bool) (a1_2 : Bool) (a1_3 : Bool) (a2 : Int), (Lit.int .i64 a0).wf = true → (Lit.int .i64 a2).wf = true → crossbucklaw18_ProveBounds.f a0 a1_0 a1_1 a1_2 a1_3 a2 = some true := by
  intro n e x d y least wn wl
  have hn := bounds_i64 wn
  have hl := bounds_i64 wl
  unfold crossbucklaw18_ProveBounds.f
  rw [small_true, step_eq n e x d y least hn hl, step_eq least e x d y least hl hl, proved_eq]
  have h4 : prove_Down.f e x d y = some (e && d) := by unfold prove_Down.f; cases e <;> cases d <;> rfl
  rw [h4]
  simp only [Option.bind_some]
  by_cases h0 : least < 1
  · rw [if_pos h0, if_pos trivial, if_pos h0]; rfl
  · rw [if_neg h0, if_pos trivial]
    unfold stepS
    cases hd : (e && d)
    · simp only [Bool.false_eq_true, if_false]
      rw [if_pos (by omega), if_pos (by omega)]
      split <;> simp <;> omega
    · simp only [if_true]
      rw [if_neg h0, if_pos (by (repeat' split) <;> omega), if_pos (by (repeat' split) <;> omega)]
      by_cases h1 : n < least
      · rw [if_pos h1]
        congr 1
        rw [decide_eq_true_eq]
        (repeat' split) <;> omega
      · rw [if_neg h1, if_pos (by (repeat' split) <;> omega)]
        congr 1
        rw [decide_eq_true_eq]
        (repeat' split) <;> omega

end Go.Proofs.Ytdnokmlonahmnaa.Pure
