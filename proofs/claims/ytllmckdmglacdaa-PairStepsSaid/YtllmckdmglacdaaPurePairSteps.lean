/- The plain law of PairSteps. -/
import Derived.Test.YtllmckdmglacdaaAx4
import Derived.Test.YtllmckdmglacdaaPurePair
namespace Go.Proofs.Ytllmckdmglacdaa.Pure
open Go.RowKit Go.Proofs.Ytllmckdmglacdaa.A Go.Proofs.YtllmckdmglacdaaW.PrintWords Go.Proofs.YtllmckdmglacdaaW.PrintLast
set_option linter.unusedVariables false
set_option linter.unusedSimpArgs false
theorem refStep_eq (lie pos : Int) (jump : Bool) (a : Int) : crossbuckref10_Step.f lie pos jump a = some (sp lie pos jump a) := rfl
theorem refAxles_eq (lie pos : Int) (jump : Bool) (hp : -9223372036854775808 ≤ pos ∧ pos ≤ 9223372036854775807) : crossbuckref10_Axles.f lie pos jump = some (pos / 4) := by
  unfold crossbuckref10_Axles.f
  by_cases h : 0 ≤ pos
  · rw [Int.tmod_eq_emod_of_nonneg h, Int.tdiv_eq_ediv_of_nonneg h, if_neg (by omega)]
    have : wrap64 (pos / 4) = pos / 4 := by unfold wrap64; omega
    rw [this]
  · obtain ⟨q, rfl⟩ : ∃ q, pos = -q := ⟨-pos, by omega⟩
    rw [Int.neg_tmod, Int.neg_tdiv, Int.tmod_eq_emod_of_nonneg (by omega), Int.tdiv_eq_ediv_of_nonneg (by omega)]
    by_cases g : -(q % 4) < 0
    · rw [if_pos g]
      congr 1
      unfold wrap64
      omega
    · rw [if_neg g]
      congr 1
      unfold wrap64
      omega
theorem PairSteps : ∀ (a0_0 : Int) (a0_1 : Int) (a0_2 : Bool) (a1 : Int), (Lit.int .i64 a0_0).wf = true → (Lit.int .i64 a0_1).wf = true → (Lit.int .i64 a1).wf = true → ∃ k, crossbucklaw10_PairSteps.f k a0_0 a0_1 a0_2 a1 = some true := by
  intro lie pos jump a _ hp _
  have hp := bounds_i64 hp
  refine Ev.rounds (g := fun k => crossbucklaw10_PairSteps.f k lie pos jump a) ?_
  simp only [crossbucklaw10_PairSteps.f]
  refine Ev.bind small10_ev ?_
  simp only [if_true, step_sp, refStep_eq, Option.bind_some, beq_self_eq_true, Bool.and_self, if_true, axles_eq, refAxles_eq _ _ _ hp, Option.bind_some, rest_eq]
  have e : crossbuckref10_Rest.f lie pos jump = some (decide (lie % 4 = 0) && !jump) := rest_eq lie pos jump
  simp only [e, Option.bind_some, beq_self_eq_true]
  exact Ev.now true
end Go.Proofs.Ytllmckdmglacdaa.Pure
