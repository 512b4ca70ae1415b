/- The plain law of PolicyStops. -/
import Derived.Test.YtnmcnailgdcmoaaAx19
import Derived.Test.YtnmcnailgdcmoaaPureSig
namespace Go.Proofs.Ytnmcnailgdcmoaa.Pure
open Go.RowKit Go.Proofs.Ytnmcnailgdcmoaa.A Go.Proofs.YtnmcnailgdcmoaaW.PrintWords Go.Proofs.YtnmcnailgdcmoaaW.PrintLast Go.Proofs.YtnmcnailgdcmoaaW.PrintMore
set_option linter.unusedVariables false
set_option linter.unusedSimpArgs false
theorem stop_eq : policy_Stop.f = some (0, false, true, true, true, true, false, true) := rfl
theorem PolicyStops : ∀ (a0_0 : Bool) (a0_1 : Bool) (a0_2 : Bool) (a0_3 : Bool) (a0_4 : Bool) (a0_5 : Bool) (a0_6 : Bool) (a0_7 : Int) (a0_8 : Bool) (a0_9 : Bool) (a0_10 : Int) (l0_11 : List S34) (l1 : List S31), (Lit.int .i64 a0_7).wf = true → (Lit.int .i64 a0_10).wf = true → (∀ x ∈ l1, (Lit.int .i64 x.f0.f1).wf = true ∧ (Lit.int .i64 x.f0.f2).wf = true ∧ (Lit.int .i64 x.f1.f0).wf = true ∧ (Lit.int .i64 x.f1.f1).wf = true ∧ (Lit.int .i64 x.f3).wf = true) → ∃ k, crossbucklaw23_PolicyStops.f k a0_0 a0_1 a0_2 a0_3 a0_4 a0_5 a0_6 a0_7 a0_8 a0_9 a0_10 l0_11 l1 = some true := by
  intro a0 a1 a2 a3 a4 a5 a6 a7 a8 a9 a10 l0 l _ _ _
  refine Ev.rounds ?_
  by_cases g : (l.length : Int) > 100
  · refine Ev.congr (f := fun _ => some true) (fun k => ?_) (Ev.now true)
    unfold crossbucklaw23_PolicyStops.f; rw [small23, Option.bind_some, if_pos g]
  have hs := sig_ev a0 a1 a2 a3 a4 a5 a6 a7 a8 a9 a10 l0 l 7 1 true (by omega)
  have hz : sigV a5 a7 a8 a10 l 7 true = 0 := by unfold sigV; rw [if_neg (fun h => absurd h.1 (by decide))]
  rw [hz] at hs
  refine Ev.congr (f := fun k => (policy_Signals.f k a0 a1 a2 a3 a4 a5 a6 a7 a8 a9 a10 l0 l 7 1 true).bind fun t => some (t == 0)) (fun k => ?_) (Ev.bind hs (Ev.now _))
  unfold crossbucklaw23_PolicyStops.f
  rw [small23, Option.bind_some, if_neg g, stop_eq]
  rfl
end Go.Proofs.Ytnmcnailgdcmoaa.Pure
