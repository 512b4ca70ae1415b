/- The plain law of PolicyRoutes: the walk tells it already. -/
import Derived.Test.YtnmcnailgdcmoaaAx31
namespace Go.Proofs.Ytnmcnailgdcmoaa.Pure
open Go.RowKit Go.Proofs.Ytnmcnailgdcmoaa.A Go.Proofs.YtnmcnailgdcmoaaW.PrintWords Go.Proofs.YtnmcnailgdcmoaaW.PrintLast
set_option linter.unusedVariables false
theorem PolicyRoutes : ∀ (a0_0 : Bool) (a0_1 : Bool) (a0_2 : Bool) (a0_3 : Bool) (a0_4 : Bool) (a0_5 : Bool) (a0_6 : Bool) (a0_7 : Int) (a0_8 : Bool) (a0_9 : Bool) (a0_10 : Int) (l0_11 : List S34) (l1 : List S31) (a2_0 : Int) (a2_1 : Int) (a3 : Bool) (a4 : Int), (Lit.int .i64 a0_7).wf = true → (Lit.int .i64 a0_10).wf = true → (∀ x ∈ l1, (Lit.int .i64 x.f0.f1).wf = true ∧ (Lit.int .i64 x.f0.f2).wf = true ∧ (Lit.int .i64 x.f1.f0).wf = true ∧ (Lit.int .i64 x.f1.f1).wf = true ∧ (Lit.int .i64 x.f3).wf = true) → (Lit.int .i64 a2_0).wf = true → (Lit.int .i64 a2_1).wf = true → (Lit.int .i64 a4).wf = true → crossbucklaw23_PolicyRoutes.f a0_0 a0_1 a0_2 a0_3 a0_4 a0_5 a0_6 a0_7 a0_8 a0_9 a0_10 l0_11 l1 a2_0 a2_1 a3 a4 = some true := by
  intros
  rfl
end Go.Proofs.Ytnmcnailgdcmoaa.Pure
