/- A signal a tick later: lock.Step and the document's own Step. -/
import Derived.Test.YtllmckdmglacdaaHandAny
namespace Go.Proofs.Ytllmckdmglacdaa.A
open Go.RowKit Go.Proofs.YtllmckdmglacdaaW.PrintWords Go.Proofs.YtllmckdmglacdaaW.PrintLast Go.Proofs.YtllmckdmglacdaaW.PrintMore
set_option linter.unusedVariables false
set_option linter.unusedSimpArgs false

def lock_Step.f (a0_0 : Bool) (a0_1 : Int) (a1 : Bool) (a2 : Int) : Option (Bool × Int) := some (if a1 = true then (true, if a2 < 0 then 0 else a2) else (false, if a0_1 < 1 then 0 else wrap64 (a0_1 - 1)))
set_option maxHeartbeats 4000000 in
theorem lock_Step.calls (a0_0 : Bool) (a0_1 : Int) (a1 : Bool) (a2 : Int) (r1 : Bool) (r2 : Int) (w : World) (h : lock_Step.f a0_0 a0_1 a1 a2 = some (r1, r2)) :
    Calls Try.prog 22 #[.agg #[.bool a0_0, .int .i64 a0_1], .bool a1, .int .i64 a2] w fun e w' => e = .returned (.agg #[.bool r1, .int .i64 r2]) ∧ Below w.heap.size w w' := by
  have h := Option.some.inj h
  by_cases g1 : a0_1 < 1 <;> by_cases g2 : a2 < 0 <;> cases a1
  all_goals
    simp only [g1, g2, if_true, if_false, Bool.false_eq_true, Prod.mk.injEq] at h
    obtain ⟨rfl, rfl⟩ := h
    go_enter Try.func22, Try.ntmps22
    go_wp2
    exact bodyPost_ret (v := .agg #[.bool _, .int .i64 _]) (by simp [results, Try.results22, go_sem]; first | done | exact ⟨rfl, rfl⟩) rfl ⟨rfl, by repeat (with_reducible first | exact Below.refl _ _ | apply below_alloc)⟩

def crossbuckref22_Step.f (a0_0 : Bool) (a0_1 : Int) (a1 : Bool) (a2 : Int) : Option (Bool × Int) := some (if a1 = true then (true, if a2 < 0 then 0 else a2) else if a0_1 ≤ 0 then (false, 0) else (false, wrap64 (a0_1 - 1)))
set_option maxHeartbeats 4000000 in
theorem crossbuckref22_Step.calls (a0_0 : Bool) (a0_1 : Int) (a1 : Bool) (a2 : Int) (r1 : Bool) (r2 : Int) (w : World) (h : crossbuckref22_Step.f a0_0 a0_1 a1 a2 = some (r1, r2)) :
    Calls Try.prog 23 #[.agg #[.bool a0_0, .int .i64 a0_1], .bool a1, .int .i64 a2] w fun e w' => e = .returned (.agg #[.bool r1, .int .i64 r2]) ∧ Below w.heap.size w w' := by
  have h := Option.some.inj h
  by_cases g1 : a0_1 ≤ 0 <;> by_cases g2 : a2 < 0 <;> cases a1
  all_goals
    simp only [g1, g2, if_true, if_false, Bool.false_eq_true, Prod.mk.injEq] at h
    obtain ⟨rfl, rfl⟩ := h
    go_enter Try.func23, Try.ntmps23
    go_wp2
    exact bodyPost_ret (v := .agg #[.bool _, .int .i64 _]) (by simp [results, Try.results23, go_sem]; first | done | exact ⟨rfl, rfl⟩) rfl ⟨rfl, by repeat (with_reducible first | exact Below.refl _ _ | apply below_alloc)⟩
end Go.Proofs.Ytllmckdmglacdaa.A
