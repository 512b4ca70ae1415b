/- The plain law of DemandTells. -/
import Derived.Test.YtjjnfjhhimijmaaAx4
import Derived.Test.YtjjnfjhhimijmaaPureDemand
namespace Go.Proofs.Ytjjnfjhhimijmaa.Pure
open Go.RowKit Go.Proofs.Ytjjnfjhhimijmaa.A Go.Proofs.YtjjnfjhhimijmaaW.PrintWords Go.Proofs.YtjjnfjhhimijmaaW.PrintLast
set_option linter.unusedVariables false
set_option linter.unusedSimpArgs false

theorem DemandTells : ∀ (a0_0 : Bool) (a0_1 : Bool) (a0_2 : Bool) (a0_3 : Bool) (a0_4 : Bool) (a0_5 : Bool) (a0_6 : Bool) (a0_7 : Int) (a0_8 : Bool) (a0_9 : Bool) (a0_10 : Int) (l0_11 : List S81) (l1 : List S39) (a2 : Bool) (a3 : Bool), (Lit.int .i64 a0_7).wf = true → (Lit.int .i64 a0_10).wf = true → (∀ x ∈ l1, (Lit.int .i64 x.f0.f1).wf = true ∧ (Lit.int .i64 x.f0.f2).wf = true ∧ (Lit.int .i64 x.f1.f0).wf = true ∧ (Lit.int .i64 x.f1.f1).wf = true ∧ (Lit.int .i64 x.f3).wf = true) → ∃ k, crossbucklaw19_DemandTells.f k a0_0 a0_1 a0_2 a0_3 a0_4 a0_5 a0_6 a0_7 a0_8 a0_9 a0_10 l0_11 l1 a2 a3 = some true := by
  intro a0_0 a0_1 a0_2 a0_3 a0_4 a0_5 a0_6 a0_7 a0_8 a0_9 a0_10 l0_11 l1 a2 a3 _ _ _
  refine Ev.rounds (g := fun k => crossbucklaw19_DemandTells.f k a0_0 a0_1 a0_2 a0_3 a0_4 a0_5 a0_6 a0_7 a0_8 a0_9 a0_10 l0_11 l1 a2 a3) ?_
  simp only [crossbucklaw19_DemandTells.f, crossbucklaw19_small.f, Option.bind_some]
  by_cases hl : (l1.length : Int) > 100
  · simp only [hl, if_true]
    exact Ev.now true
  · simp only [hl, if_false, if_true]
    have hl' : (l1.length : Int) ≤ 1000 := by omega
    refine Ev.bind (good_ev a0_0 a0_1 a0_2 a0_3 a0_4 a0_5 a0_6 a0_7 a0_8 a0_9 a0_10 l0_11 l1 hl') ?_
    refine Ev.bind (refgood_ev a0_0 a0_1 a0_2 a0_3 a0_4 a0_5 a0_6 a0_7 a0_8 a0_9 a0_10 l0_11 l1 hl') ?_
    simp only [beq_self_eq_true, if_true]
    refine Ev.bind (of_ev a0_0 a0_1 a0_2 a0_3 a0_4 a0_5 a0_6 a0_7 a0_8 a0_9 a0_10 l0_11 l1 a2 a3 hl') ?_
    refine Ev.bind (refof_ev a0_0 a0_1 a0_2 a0_3 a0_4 a0_5 a0_6 a0_7 a0_8 a0_9 a0_10 l0_11 l1 a2 a3 hl') ?_
    simp only [beq_self_eq_true, Bool.and_true]
    exact Ev.now true
end Go.Proofs.Ytjjnfjhhimijmaa.Pure
