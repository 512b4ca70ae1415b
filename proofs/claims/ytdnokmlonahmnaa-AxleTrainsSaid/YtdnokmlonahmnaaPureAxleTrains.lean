/- The plain law of AxleTrains, over numbers and lists. -/
import Derived.Test.YtdnokmlonahmnaaAx11
import Derived.OpenShut
namespace Go.Proofs.Ytdnokmlonahmnaa.Pure
open Go.RowKit Go.Proofs.Ytdnokmlonahmnaa.A Go.Proofs.YtdnokmlonahmnaaW.PrintWords Go.Proofs.YtdnokmlonahmnaaW.PrintLast
set_option linter.unusedVariables false
set_option linter.unusedSimpArgs false
theorem small_true : crossbucklaw11_small.f = some true := rfl
theorem on_eq (h : Bool) (i o : Int) (x : Bool) : axle_On.f h i o x = some ((i - o) % 256) := by
  unfold axle_On.f axle_ahead.f
  simp only [Option.bind_some, Option.some.injEq]
  omega
theorem clear_eq (h : Bool) (i o : Int) (x : Bool) : axle_Clear.f h i o x = some (h && !x && ((i - o) % 256 == 0)) := by
  unfold axle_Clear.f
  rw [on_eq]
  cases h <;> cases x <;> simp
theorem step_eq (h : Bool) (i o : Int) (x : Bool) (a b : Int) (r : Bool) (hr : (x || (h && (decide (64 < (a - i) % 256) || decide (64 < (b - o) % 256))) || decide (128 ≤ (a - b) % 256)) = r) :
    axle_Step.f h i o x a b = some (true, a % 256, b % 256, r) := by
  subst hr
  rfl

theorem loop (l : List Int) (hlen : (l.length : Int) ≤ 200) : ∀ (d : Nat) (j at' i o : Int), 0 ≤ j → j ≤ l.length → (l.length : Int) - j = d → i % 256 = at' % 256 → o % 256 = at' % 256 →
    Ev (fun k => crossbucklaw11_AxleTrains.l0 k l true at' j true i o false) true := by
  intro d
  induction d with
  | zero =>
    intro j at' i o h0 h1 hd hi ho
    refine Ev.step (f := fun _ => some true) (fun k => ?_) (Ev.now true)
    simp only [crossbucklaw11_AxleTrains.l0]
    rw [if_neg (by omega), if_pos trivial, clear_eq]
    have : (i - o) % 256 = 0 := by omega
    simp [this]
  | succ d ih =>
    intro j at' i o h0 h1 hd hi ho
    obtain ⟨t, ht⟩ : ∃ t, rd l j = t := ⟨_, rfl⟩
    have e0 : wrap64 (j + 1) = j + 1 := by unfold wrap64; omega
    by_cases g : t < 1 ∨ 64 < t
    · have main : Ev (fun k => crossbucklaw11_AxleTrains.l0 (k + 1 + 1) l true at' j true i o false) true := by
        refine Ev.congr (f := fun _ => some true) (fun k => ?_) (Ev.now true)
        simp only [crossbucklaw11_AxleTrains.l0]
        rw [if_pos (by omega), if_pos h0, ht]
        by_cases g1 : t < 1
        · rw [if_pos g1]; simp [crossbucklaw11_AxleTrains.j1]
        · rw [if_neg g1, decide_eq_true (by omega)]; simp [crossbucklaw11_AxleTrains.j1]
      obtain ⟨K, hK⟩ := main
      exact ⟨K + 2, fun k hk => by obtain ⟨q, rfl⟩ : ∃ q, k = q + 1 + 1 := ⟨k - 2, by omega⟩; exact hK q (by omega)⟩
    · refine Ev.step (f := fun k => crossbucklaw11_AxleTrains.j1 k l true at' j false true i o false) (fun k => ?_) ?_
      · simp only [crossbucklaw11_AxleTrains.l0]
        rw [if_pos (by omega), if_pos h0, ht, if_neg (by omega), decide_eq_false (by omega)]
      refine Ev.step (f := fun k => crossbucklaw11_AxleTrains.j2 k l true at' j false true (wrap64 (at' + t) % 256) (at' % 256) false) (fun k => ?_) ?_
      · simp only [crossbucklaw11_AxleTrains.j1]
        rw [if_neg (by decide), if_pos h0, if_pos (by omega), ht, step_eq true i o false _ _ false (by
          have e1 : decide (64 < (wrap64 (at' + t) - i) % 256) = false := decide_eq_false (by unfold wrap64; omega)
          have e2 : decide (64 < (at' - o) % 256) = false := decide_eq_false (by omega)
          have e3 : decide (128 ≤ (wrap64 (at' + t) - at') % 256) = false := decide_eq_false (by unfold wrap64; omega)
          rw [e1, e2, e3]; rfl)]
        simp only [Option.bind_some]
        rw [clear_eq, on_eq]
        have e4 : (wrap64 (at' + t) % 256 - at' % 256) % 256 = t := by unfold wrap64; omega
        rw [e4, beq_eq_false_iff_ne.2 (show t ≠ 0 by omega)]
        simp
      refine Ev.step (f := fun k => crossbucklaw11_AxleTrains.l0 k l true (wrap64 (at' + t)) (j + 1) true (wrap64 (at' + t) % 256) (wrap64 (at' + t) % 256) false) (fun k => ?_)
        (ih (j + 1) _ _ _ (by omega) (by omega) (by omega) (by omega) (by omega))
      simp only [crossbucklaw11_AxleTrains.j2]
      rw [if_neg (by decide), if_pos h0, if_pos (by omega), ht, step_eq true _ _ false _ _ false (by
          have e1 : decide (64 < (wrap64 (at' + t) - wrap64 (at' + t) % 256) % 256) = false := decide_eq_false (by omega)
          have e2 : decide (64 < (wrap64 (at' + t) - at' % 256) % 256) = false := decide_eq_false (by unfold wrap64; omega)
          have e3 : decide (128 ≤ (wrap64 (at' + t) - wrap64 (at' + t)) % 256) = false := decide_eq_false (by omega)
          rw [e1, e2, e3]; rfl)]
      simp only [Option.bind_some]
      rw [clear_eq, e0]
      simp

theorem AxleTrains : ∀ (a0 : Int) (l1 : List Int), (Lit.int .i64 a0).wf = true → (∀ x ∈ l1, (Lit.int .i64 x).wf = true) → ∃ k, crossbucklaw11_AxleTrains.f k a0 l1 = some true := by
  intro s l _ _
  refine Ev.rounds ?_
  by_cases g : (l.length : Int) > 200
  · refine Ev.congr (f := fun _ => some true) (fun k => ?_) (Ev.now true)
    unfold crossbucklaw11_AxleTrains.f
    rw [small_true]; simp only [Option.bind_some]; rw [if_pos g]
  · refine Ev.congr (f := fun k => crossbucklaw11_AxleTrains.l0 k l true s 0 true (s % 256) (s % 256) false) (fun k => ?_) (loop l (by omega) l.length 0 s _ _ (by omega) (by omega) (by omega) (by omega) (by omega))
    unfold crossbucklaw11_AxleTrains.f
    rw [small_true]; simp only [Option.bind_some]
    rw [if_neg g, step_eq false 0 0 false s s false (by simp)]
    rfl

end Go.Proofs.Ytdnokmlonahmnaa.Pure
