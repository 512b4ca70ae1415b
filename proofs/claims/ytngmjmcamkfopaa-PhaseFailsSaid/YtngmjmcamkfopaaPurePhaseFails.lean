/- The plain law of PhaseFails, over numbers and lists. -/
import Derived.Test.YtngmjmcamkfopaaAx10
import Derived.Test.YtngmjmcamkfopaaPurePhase
namespace Go.Proofs.Ytngmjmcamkfopaa.Pure
open Go.RowKit Go.Proofs.Ytngmjmcamkfopaa.A Go.Proofs.YtngmjmcamkfopaaW.PrintWords Go.Proofs.YtngmjmcamkfopaaW.PrintLast
set_option linter.unusedVariables false
set_option linter.unusedSimpArgs false

theorem of7 (q : Int) (h : q < 0 ∨ 6 < q) : phaseOf q = 7 := by
  unfold phaseOf
  (repeat' split) <;> omega
theorem fails_next (am re en op ov q s : Int) (c u bD bU bX bY ob : Bool) (h : q < 0 ∨ 6 < q) : (stepP am re en op ov q s c u bD bU bX bY ob).1 = 7 := by
  have hn : nextP am re en op ov q s c u bD bU bX bY ob = if q = 7 then -1 else 7 := by
    unfold nextP
    rw [if_neg (by omega), if_neg (by omega), if_neg (by omega)]
  unfold stepP
  rw [hn]
  by_cases g : q = 7
  · rw [if_pos g, if_pos rfl]; exact g
  · rw [if_neg g, if_neg (by decide)]
theorem fails_loop (p : Int) (l : List S36) (a0 a1 a2 a3 a4 a5 a6 a7 a8 a9 : Int) (he : 1 ≤ a2 ∧ a2 ≤ 6000) (ho : 1 ≤ a6 ∧ a6 ≤ 6000) (hp : p < 0 ∨ 6 < p) (hl : (l.length : Int) ≤ 400) :
    ∀ (d : Nat) (i q s : Int), 0 ≤ i → i + d = l.length → (q < 0 ∨ 6 < q) → Ev (fun k => crossbucklaw20_PhaseFails.l0 k p l true i a0 a1 a2 a3 a4 a5 a6 a7 a8 a9 q s) true
  | 0, i, q, s, h0, h1, hq => by
    refine Ev.step (f := fun _ => some true) (fun k => ?_) (Ev.now true)
    simp only [crossbucklaw20_PhaseFails.l0]
    rw [if_neg (by omega), if_pos trivial, lights_eq, of7 q hq]
    have he : phase_Enter.f p = some (7, 1) := by
      unfold phase_Enter.f
      by_cases g1 : p < 0
      · rw [if_pos g1]
      · by_cases g2 : p > 7
        · rw [if_neg g1, if_pos g2]
        · have : p = 7 := by omega
          subst this
          rfl
    rw [he]
    rfl
  | d + 1, i, q, s, h0, h1, hq => by
    have e : wrap64 (i + 1) = i + 1 := by unfold wrap64; omega
    refine Ev.step (fun k => by rw [crossbucklaw20_PhaseFails.l0, if_pos (show i < (l.length : Int) by omega), if_pos h0]) ?_
    refine Ev.bind (step_ev _ _ _ _ _ _ _ _ _ _ _ _ _ _ _ _ _ _ _ he ho) ?_
    have h7 := fails_next a0 a1 a2 a5 a6 q s ((rd_T36 l i).f0.f0) ((rd_T36 l i).f0.f1) ((rd_T36 l i).f1.f0) ((rd_T36 l i).f1.f1) ((rd_T36 l i).f1.f2) ((rd_T36 l i).f1.f3) ((rd_T36 l i).f2) hq
    simp only [h7, if_true, e]
    exact fails_loop p l a0 a1 a2 a3 a4 a5 a6 a7 a8 a9 he ho hp hl d (i + 1) 7 _ (by omega) (by omega) (by omega)

theorem PhaseFails : ∀ (p : Int) (l : List S36) (a0 a1 a2 a3 a4 a5 a6 a7 a8 a9 : Int), (Lit.int .i64 p).wf = true → (Lit.int .i64 a0).wf = true → (Lit.int .i64 a1).wf = true → (Lit.int .i64 a2).wf = true → (Lit.int .i64 a3).wf = true → (Lit.int .i64 a4).wf = true → (Lit.int .i64 a5).wf = true → (Lit.int .i64 a6).wf = true → (Lit.int .i64 a7).wf = true → (Lit.int .i64 a8).wf = true → (Lit.int .i64 a9).wf = true → ∃ k, crossbucklaw20_PhaseFails.f k p l a0 a1 a2 a3 a4 a5 a6 a7 a8 a9 = some true := by
  intro p l a0 a1 a2 a3 a4 a5 a6 a7 a8 a9 _ _ _ _ _ _ _ _ _ _ _
  obtain ⟨b, hb, hall⟩ := few_ev a0 a1 a2 a3 a4 a5 a6 a7 a8 a9
  refine Ev.rounds (g := fun k => crossbucklaw20_PhaseFails.f k p l a0 a1 a2 a3 a4 a5 a6 a7 a8 a9) ?_
  simp only [crossbucklaw20_PhaseFails.f, small_true, Option.bind_some]
  refine Ev.bind hb ?_
  have out : Ev (fun k => crossbucklaw20_PhaseFails.j0 k p l true true a0 a1 a2 a3 a4 a5 a6 a7 a8 a9) true := Ev.step (f := fun _ => some true) (fun k => by simp [crossbucklaw20_PhaseFails.j0]) (Ev.now true)
  cases b
  · simp only [Bool.false_eq_true, if_false]
    exact out
  · simp only [if_true]
    obtain ⟨_, _, he, _, ho⟩ := hall rfl
    have inn : (p < 0 ∨ 6 < p) → Ev (fun k => crossbucklaw20_PhaseFails.j0 k p l true (decide ((l.length : Int) > 400)) a0 a1 a2 a3 a4 a5 a6 a7 a8 a9) true := fun hp => by
      by_cases hl : (l.length : Int) > 400
      · rw [decide_eq_true hl]; exact out
      · rw [decide_eq_false hl]
        refine Ev.step (f := fun k => crossbucklaw20_PhaseFails.l0 k p l true 0 a0 a1 a2 a3 a4 a5 a6 a7 a8 a9 p 0) (fun k => by simp [crossbucklaw20_PhaseFails.j0]) ?_
        exact fails_loop p l a0 a1 a2 a3 a4 a5 a6 a7 a8 a9 he ho hp (by omega) l.length 0 p 0 (by omega) (by omega) hp
    by_cases g1 : p ≥ 0
    · simp only [g1, if_true]
      by_cases g2 : p ≤ 6
      · simp only [g2, if_true]; exact out
      · simp only [g2, if_false]; exact inn (by omega)
    · simp only [g1, if_false]; exact inn (by omega)
end Go.Proofs.Ytngmjmcamkfopaa.Pure
