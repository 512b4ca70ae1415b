/- What the calls of package axle answer, at any counters. -/
import Derived.Test.YtnmcnailgdcmoaaBx0
namespace Go.Proofs.Ytnmcnailgdcmoaa.B
open Go.RowKit Go.Proofs.YtnmcnailgdcmoaaW.PrintWords Go.Proofs.YtnmcnailgdcmoaaW.PrintLast Go.Proofs.YtnmcnailgdcmoaaW.PrintMore
set_option linter.unusedVariables false
set_option linter.unusedSimpArgs false

def ahead (a b : Int) : Int := (a - b) % 256
theorem ahead_calls (a b : Int) (w : World) : Calls Try.prog 38 #[.int .i64 a, .int .i64 b] w fun e w' => e = .returned (.int .i64 (ahead a b)) ∧ w = w' := by
  go_enter Try.func38, Try.ntmps38
  go_wp2
  go_ret
  exact ⟨rfl, rfl⟩

def axle_Step.f (a0_0 : Bool) (a0_1 a0_2 : Int) (a0_3 : Bool) (a1 a2 : Int) : Option (Bool × Int × Int × Bool) :=
  some (true, a1 % 256, a2 % 256, a0_3 || (a0_0 && (decide (64 < ahead a1 a0_1) || decide (64 < ahead a2 a0_2))) || decide (128 ≤ ahead a1 a2))

set_option maxHeartbeats 4000000 in
set_option maxRecDepth 100000 in
theorem axle_Step.at (a0_0 : Bool) (a0_1 : Int) (a0_2 : Int) (a0_3 : Bool) (a1 : Int) (a2 : Int) (r1 : Bool) (r2 : Int) (r3 : Int) (r4 : Bool) (w : World) (h : axle_Step.f a0_0 a0_1 a0_2 a0_3 a1 a2 = some (r1, r2, r3, r4)) :
    Calls Try.prog 32 #[.agg #[.bool a0_0, .int .i64 a0_1, .int .i64 a0_2, .bool a0_3], .int .i64 a1, .int .i64 a2] w fun e w' => e = .returned (.agg #[.bool r1, .int .i64 r2, .int .i64 r3, .bool r4]) ∧
      w' = (w.alloc (.cells #[.bool a0_0, .int .i64 a0_1, .int .i64 a0_2, .bool a0_3] 27)).alloc (.cells #[.bool r1, .int .i64 r2, .int .i64 r3, .bool r4] 27) := by
  simp only [axle_Step.f, Option.some.injEq, Prod.mk.injEq] at h
  obtain ⟨rfl, rfl, rfl, rfl⟩ := h
  rcases Bool.eq_false_or_eq_true (decide (64 < ahead a1 a0_1)) with h1 | h1 <;> rcases Bool.eq_false_or_eq_true (decide (64 < ahead a2 a0_2)) with h2 | h2 <;> rcases Bool.eq_false_or_eq_true (decide (128 ≤ ahead a1 a2)) with h3 | h3 <;> cases a0_0 <;> cases a0_3
  all_goals
    simp only [h1, h2, h3, Bool.or_true, Bool.true_or, Bool.or_false, Bool.false_or, Bool.and_true, Bool.true_and, Bool.and_false, Bool.false_and]
    go_enter Try.func32, Try.ntmps32
    go_wp2_with (go_at_call 38; refine (ahead_calls _ _ _).mono ?_; rintro e w' ⟨rfl, rfl⟩)
    exact bodyPost_ret (v := .agg #[_, _, _, _]) (by simp [results, Try.results32, go_sem]) rfl ⟨rfl, rfl⟩

theorem axle_Step.calls (a0_0 : Bool) (a0_1 : Int) (a0_2 : Int) (a0_3 : Bool) (a1 : Int) (a2 : Int) (r1 : Bool) (r2 : Int) (r3 : Int) (r4 : Bool) (w : World) (h : axle_Step.f a0_0 a0_1 a0_2 a0_3 a1 a2 = some (r1, r2, r3, r4)) :
    Calls Try.prog 32 #[.agg #[.bool a0_0, .int .i64 a0_1, .int .i64 a0_2, .bool a0_3], .int .i64 a1, .int .i64 a2] w fun e w' => e = .returned (.agg #[.bool r1, .int .i64 r2, .int .i64 r3, .bool r4]) ∧ Below w.heap.size w w' :=
  (axle_Step.at _ _ _ _ _ _ _ _ _ _ w h).mono fun _ _ ⟨he, hw⟩ => ⟨he, hw ▸ ((Below.refl _ _).alloc (Nat.le_refl _) _).alloc (by simp) _⟩

theorem axle_On.at (a0_0 : Bool) (a0_1 a0_2 : Int) (a0_3 : Bool) (r : Int) (w : World) (h : ahead a0_1 a0_2 = r) :
    Calls Try.prog 35 #[.agg #[.bool a0_0, .int .i64 a0_1, .int .i64 a0_2, .bool a0_3]] w fun e w' => e = .returned (.int .i64 r) ∧ w' = w.alloc (.cells #[.bool a0_0, .int .i64 a0_1, .int .i64 a0_2, .bool a0_3] 27) := by
  subst h
  go_enter Try.func35, Try.ntmps35
  go_wp2_with (go_at_call 38; refine (ahead_calls _ _ _).mono ?_; rintro e w' ⟨rfl, rfl⟩)
  go_ret
  exact ⟨rfl, rfl⟩

theorem axle_Clear.at (a0_0 : Bool) (a0_1 a0_2 : Int) (a0_3 : Bool) (r : Bool) (w : World) (h : (a0_0 && !a0_3 && (ahead a0_1 a0_2 == 0)) = r) :
    Calls Try.prog 26 #[.agg #[.bool a0_0, .int .i64 a0_1, .int .i64 a0_2, .bool a0_3]] w fun e w' => e = .returned (.bool r) ∧
      w' = (if (a0_0 && !a0_3) = true then (w.alloc (.cells #[.bool a0_0, .int .i64 a0_1, .int .i64 a0_2, .bool a0_3] 27)).alloc (.cells #[.bool a0_0, .int .i64 a0_1, .int .i64 a0_2, .bool a0_3] 27) else w.alloc (.cells #[.bool a0_0, .int .i64 a0_1, .int .i64 a0_2, .bool a0_3] 27)) := by
  subst h
  cases a0_0 <;> cases a0_3
  all_goals
    go_enter Try.func26, Try.ntmps26
    go_wp2_with (go_at_call 35; refine (axle_On.at _ _ _ _ _ _ rfl).mono ?_; rintro e w' ⟨rfl, rfl⟩)
    go_ret
    exact ⟨by simp, by simp⟩

theorem axle_Reset.at (a0_0 : Bool) (a0_1 a0_2 : Int) (a0_3 : Bool) (r : Bool) (w : World) (h : (a0_3 && (ahead a0_1 a0_2 != 0)) = r) :
    Calls Try.prog 34 #[.agg #[.bool a0_0, .int .i64 a0_1, .int .i64 a0_2, .bool a0_3]] w fun e w' => e = .returned (.agg #[.bool a0_0, .int .i64 a0_1, .int .i64 a0_2, .bool r]) ∧
      w' = (if a0_3 = true then ((w.alloc (.cells #[.bool a0_0, .int .i64 a0_1, .int .i64 a0_2, .bool r] 27)).alloc (.cells #[.bool a0_0, .int .i64 a0_1, .int .i64 a0_2, .bool r] 27)).alloc (.cells #[.bool a0_0, .int .i64 a0_1, .int .i64 a0_2, .bool a0_3] 27)
        else (w.alloc (.cells #[.bool a0_0, .int .i64 a0_1, .int .i64 a0_2, .bool r] 27)).alloc (.cells #[.bool a0_0, .int .i64 a0_1, .int .i64 a0_2, .bool r] 27)) := by
  subst h
  cases a0_3
  all_goals
    go_enter Try.func34, Try.ntmps34
    go_wp2_with (go_at_call 35; refine (axle_On.at _ _ _ _ _ _ rfl).mono ?_; rintro e w' ⟨rfl, rfl⟩)
  · exact bodyPost_ret (v := .agg #[.bool a0_0, .int .i64 a0_1, .int .i64 a0_2, .bool false]) (by simp [results, Try.results34, go_sem]) rfl ⟨rfl, by simp⟩
  · exact bodyPost_ret (v := .agg #[.bool a0_0, .int .i64 a0_1, .int .i64 a0_2, .bool (ahead a0_1 a0_2 != 0)]) (by simp [results, Try.results34, go_sem]) rfl ⟨by simp, by simp⟩
end Go.Proofs.Ytnmcnailgdcmoaa.B
