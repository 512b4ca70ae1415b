/- What the road is shown: the call of phase.Lights. -/
import Derived.Test.YtnmcnailgdcmoaaAx0
namespace Go.Proofs.Ytnmcnailgdcmoaa.A
open Go.RowKit Go.Proofs.YtnmcnailgdcmoaaW.PrintWords Go.Proofs.YtnmcnailgdcmoaaW.PrintLast Go.Proofs.YtnmcnailgdcmoaaW.PrintMore
set_option linter.unusedVariables false
set_option linter.unusedSimpArgs false

def phaseOf (p : Int) : Int := if p < 0 then 7 else if 7 < p then 7 else p
def phase_Lights.f (a0_0 : Int) (a0_1 : Int) : Option (Bool × Bool × Bool × Bool × Bool) :=
  some (phaseOf a0_0 == 1, decide (1 < phaseOf a0_0), decide (0 < phaseOf a0_0) && phaseOf a0_0 != 5 && phaseOf a0_0 != 6, phaseOf a0_0 == 4 || phaseOf a0_0 == 5 || phaseOf a0_0 == 7 || phaseOf a0_0 == 3, phaseOf a0_0 == 4 || phaseOf a0_0 == 5 || phaseOf a0_0 == 7)

set_option maxHeartbeats 8000000 in
set_option maxRecDepth 100000 in
theorem phase_Lights.calls (a0_0 : Int) (a0_1 : Int) (r1 : Bool) (r2 : Bool) (r3 : Bool) (r4 : Bool) (r5 : Bool) (w : World) (h : phase_Lights.f a0_0 a0_1 = some (r1, r2, r3, r4, r5)) :
    Calls Try.prog 21 #[.agg #[.int .i64 a0_0, .int .i64 a0_1]] w fun e w' => e = .returned (.agg #[.bool r1, .bool r2, .bool r3, .bool r4, .bool r5]) ∧ Below w.heap.size w w' := by
  simp only [phase_Lights.f, Option.some.injEq, Prod.mk.injEq] at h
  obtain ⟨h1, h2, h3, h4, h5⟩ := h
  have hc : decide (a0_0 < 0) = true ∨ (decide (a0_0 < 0) = false ∧ decide (7 < a0_0) = true) ∨ a0_0 = 0 ∨ a0_0 = 1 ∨ a0_0 = 2 ∨ a0_0 = 3 ∨ a0_0 = 4 ∨ a0_0 = 5 ∨ a0_0 = 6 ∨ a0_0 = 7 := by
    simp only [decide_eq_true_eq, decide_eq_false_iff_not]
    omega
  rcases hc with hc | ⟨hc, hd⟩ | rfl | rfl | rfl | rfl | rfl | rfl | rfl | rfl
  · have hp : phaseOf a0_0 = 7 := by simp only [phaseOf]; rw [if_pos (by simpa using hc)]
    rw [hp] at h1 h2 h3 h4 h5
    subst h1 h2 h3 h4 h5
    clear hp
    go_enter Try.func21, Try.ntmps21
    go_wp2
    exact bodyPost_ret (v := .agg #[.bool false, .bool true, .bool true, .bool true, .bool true]) (by simp [results, Try.results21, go_sem]) rfl ⟨rfl, by repeat (with_reducible first | exact Below.refl _ _ | apply below_alloc)⟩
  · have hp : phaseOf a0_0 = 7 := by simp only [phaseOf]; rw [if_neg (by simpa using hc), if_pos (by simpa using hd)]
    rw [hp] at h1 h2 h3 h4 h5
    subst h1 h2 h3 h4 h5
    clear hp
    go_enter Try.func21, Try.ntmps21
    go_wp2
    exact bodyPost_ret (v := .agg #[.bool false, .bool true, .bool true, .bool true, .bool true]) (by simp [results, Try.results21, go_sem]) rfl ⟨rfl, by repeat (with_reducible first | exact Below.refl _ _ | apply below_alloc)⟩
  · obtain rfl : false = r1 := h1
    obtain rfl : false = r2 := h2
    obtain rfl : false = r3 := h3
    obtain rfl : false = r4 := h4
    obtain rfl : false = r5 := h5
    go_enter Try.func21, Try.ntmps21
    go_wp2
    exact bodyPost_ret (v := .agg #[.bool false, .bool false, .bool false, .bool false, .bool false]) (by simp [results, Try.results21, go_sem]) rfl ⟨rfl, by repeat (with_reducible first | exact Below.refl _ _ | apply below_alloc)⟩
  · obtain rfl : true = r1 := h1
    obtain rfl : false = r2 := h2
    obtain rfl : true = r3 := h3
    obtain rfl : false = r4 := h4
    obtain rfl : false = r5 := h5
    go_enter Try.func21, Try.ntmps21
    go_wp2
    exact bodyPost_ret (v := .agg #[.bool true, .bool false, .bool true, .bool false, .bool false]) (by simp [results, Try.results21, go_sem]) rfl ⟨rfl, by repeat (with_reducible first | exact Below.refl _ _ | apply below_alloc)⟩
  · obtain rfl : false = r1 := h1
    obtain rfl : true = r2 := h2
    obtain rfl : true = r3 := h3
    obtain rfl : false = r4 := h4
    obtain rfl : false = r5 := h5
    go_enter Try.func21, Try.ntmps21
    go_wp2
    exact bodyPost_ret (v := .agg #[.bool false, .bool true, .bool true, .bool false, .bool false]) (by simp [results, Try.results21, go_sem]) rfl ⟨rfl, by repeat (with_reducible first | exact Below.refl _ _ | apply below_alloc)⟩
  · obtain rfl : false = r1 := h1
    obtain rfl : true = r2 := h2
    obtain rfl : true = r3 := h3
    obtain rfl : true = r4 := h4
    obtain rfl : false = r5 := h5
    go_enter Try.func21, Try.ntmps21
    go_wp2
    exact bodyPost_ret (v := .agg #[.bool false, .bool true, .bool true, .bool true, .bool false]) (by simp [results, Try.results21, go_sem]) rfl ⟨rfl, by repeat (with_reducible first | exact Below.refl _ _ | apply below_alloc)⟩
  · obtain rfl : false = r1 := h1
    obtain rfl : true = r2 := h2
    obtain rfl : true = r3 := h3
    obtain rfl : true = r4 := h4
    obtain rfl : true = r5 := h5
    go_enter Try.func21, Try.ntmps21
    go_wp2
    exact bodyPost_ret (v := .agg #[.bool false, .bool true, .bool true, .bool true, .bool true]) (by simp [results, Try.results21, go_sem]) rfl ⟨rfl, by repeat (with_reducible first | exact Below.refl _ _ | apply below_alloc)⟩
  · obtain rfl : false = r1 := h1
    obtain rfl : true = r2 := h2
    obtain rfl : false = r3 := h3
    obtain rfl : true = r4 := h4
    obtain rfl : true = r5 := h5
    go_enter Try.func21, Try.ntmps21
    go_wp2
    exact bodyPost_ret (v := .agg #[.bool false, .bool true, .bool false, .bool true, .bool true]) (by simp [results, Try.results21, go_sem]) rfl ⟨rfl, by repeat (with_reducible first | exact Below.refl _ _ | apply below_alloc)⟩
  · obtain rfl : false = r1 := h1
    obtain rfl : true = r2 := h2
    obtain rfl : false = r3 := h3
    obtain rfl : false = r4 := h4
    obtain rfl : false = r5 := h5
    go_enter Try.func21, Try.ntmps21
    go_wp2
    exact bodyPost_ret (v := .agg #[.bool false, .bool true, .bool false, .bool false, .bool false]) (by simp [results, Try.results21, go_sem]) rfl ⟨rfl, by repeat (with_reducible first | exact Below.refl _ _ | apply below_alloc)⟩
  · obtain rfl : false = r1 := h1
    obtain rfl : true = r2 := h2
    obtain rfl : true = r3 := h3
    obtain rfl : true = r4 := h4
    obtain rfl : true = r5 := h5
    go_enter Try.func21, Try.ntmps21
    go_wp2
    exact bodyPost_ret (v := .agg #[.bool false, .bool true, .bool true, .bool true, .bool true]) (by simp [results, Try.results21, go_sem]) rfl ⟨rfl, by repeat (with_reducible first | exact Below.refl _ _ | apply below_alloc)⟩
end Go.Proofs.Ytnmcnailgdcmoaa.A
