/- The plain law of PhaseOpens, over numbers and lists. -/
import Derived.Test.YtngmjmcamkfopaaAx8
import Derived.Test.YtngmjmcamkfopaaPurePhase
namespace Go.Proofs.Ytngmjmcamkfopaa.Pure
open Go.RowKit Go.Proofs.Ytngmjmcamkfopaa.A Go.Proofs.YtngmjmcamkfopaaW.PrintWords Go.Proofs.YtngmjmcamkfopaaW.PrintLast
set_option linter.unusedVariables false
set_option linter.unusedSimpArgs false

theorem opens_loop (l : List S36) (a0 a1 a2 a3 a4 a5 a6 a7 a8 a9 : Int) (he : 1 ≤ a2 ∧ a2 ≤ 6000) (ho : 1 ≤ a6 ∧ a6 ≤ 6000) (hl : (l.length : Int) ≤ 400) :
    ∀ (d : Nat) (i n p s : Int), 0 ≤ i → i + d = l.length → (0 ≤ p ∧ p ≤ 6) → (p = 0 → n = s ∧ 1 ≤ s ∧ s ≤ i + 1) → (p ≠ 0 → n = 0) → Ev (fun k => crossbucklaw20_PhaseOpens.l0 k l true n i a0 a1 a2 a3 a4 a5 a6 a7 a8 a9 p s) true
  | 0, i, n, p, s, h0, h1, hp, ha, hb =>
    Ev.step (f := fun _ => some true) (fun k => by simp only [crossbucklaw20_PhaseOpens.l0]; rw [if_neg (by omega)]) (Ev.now true)
  | d + 1, i, n, p, s, h0, h1, hp, ha, hb => by
    have e : wrap64 (i + 1) = i + 1 := by unfold wrap64; omega
    refine Ev.step (fun k => by rw [crossbucklaw20_PhaseOpens.l0, if_pos (show i < (l.length : Int) by omega), if_pos h0]) ?_
    refine Ev.bind (step_ev a0 a1 a2 a3 a4 a5 a6 a7 a8 a9 p s ((rd_T36 l i).f0.f0) ((rd_T36 l i).f0.f1) ((rd_T36 l i).f1.f0) ((rd_T36 l i).f1.f1) ((rd_T36 l i).f1.f2) ((rd_T36 l i).f1.f3) ((rd_T36 l i).f2) he ho) ?_
    have next : ∀ (n' p' s' : Int), (0 ≤ p' ∧ p' ≤ 6) → (p' = 0 → n' = s' ∧ 1 ≤ s' ∧ s' ≤ i + 1 + 1) → (p' ≠ 0 → n' = 0) → Ev (fun k => crossbucklaw20_PhaseOpens.l0 k l true n' (i + 1) a0 a1 a2 a3 a4 a5 a6 a7 a8 a9 p' s') true :=
      fun n' p' s' h2 h3 h4 => opens_loop l a0 a1 a2 a3 a4 a5 a6 a7 a8 a9 he ho hl d (i + 1) n' p' s' (by omega) (by omega) h2 h3 h4
    have stay : ∀ (p' s' : Int), p' ≠ 0 → (0 ≤ p' ∧ p' ≤ 6) → Ev (fun k => crossbucklaw20_PhaseOpens.j2 k l true n i false a0 a1 a2 a3 a4 a5 a6 a7 a8 a9 p' s') true := fun p' s' h2 h3 => by
      refine Ev.step (f := fun k => crossbucklaw20_PhaseOpens.l0 k l true 0 (i + 1) a0 a1 a2 a3 a4 a5 a6 a7 a8 a9 p' s') (fun k => by simp only [crossbucklaw20_PhaseOpens.j2]; rw [if_neg (by decide), if_neg h2, e]) ?_
      exact next 0 p' s' h3 (fun h => absurd h h2) (fun _ => rfl)
    have zero : ∀ (s' : Int), n + 1 = s' → 1 ≤ s' → s' ≤ i + 1 + 1 → Ev (fun k => crossbucklaw20_PhaseOpens.j2 k l true n i false a0 a1 a2 a3 a4 a5 a6 a7 a8 a9 0 s') true := fun s' h2 h3 h4 => by
      have e2 : wrap64 (n + 1) = n + 1 := by unfold wrap64; omega
      refine Ev.step (f := fun k => crossbucklaw20_PhaseOpens.l0 k l true (n + 1) (i + 1) a0 a1 a2 a3 a4 a5 a6 a7 a8 a9 0 s') (fun k => by simp only [crossbucklaw20_PhaseOpens.j2]; rw [if_neg (by decide), if_pos trivial, e, e2]) ?_
      exact next (n + 1) 0 s' (by omega) (fun _ => ⟨h2, h3, h4⟩) (fun h => absurd rfl h)
    rcases step_cases a0 a1 a2 a5 a6 p s ((rd_T36 l i).f0.f0) ((rd_T36 l i).f0.f1) ((rd_T36 l i).f1.f0) ((rd_T36 l i).f1.f1) ((rd_T36 l i).f1.f2) ((rd_T36 l i).f1.f3) ((rd_T36 l i).f2) hp with ⟨rfl, ⟨hr, hg⟩ | hr⟩ | ⟨rfl, hr | ⟨hr, hg⟩ | hr⟩ | ⟨rfl, hr | ⟨hr, hg⟩ | hr⟩ | ⟨rfl, hr | ⟨hr, hg⟩ | hr⟩ | ⟨rfl, hr | hr | hr⟩ | ⟨rfl, hr | hr⟩ | ⟨rfl, hr | hr | hr⟩
    · obtain ⟨h2, h3, h4⟩ := ha rfl
      rw [hr]
      by_cases gu : (rd_T36 l i).f0.f1 = true
      · simp only [Int.reduceEq, gu, if_true, if_false]
        exact stay 1 1 (by decide) (by decide)
      · obtain ⟨gc, go⟩ := hg.resolve_left gu
        simp only [Int.reduceEq, gu, gc, if_true, if_false, Bool.false_eq_true]
        rw [decide_eq_false (show ¬ n < a5 by omega)]
        exact stay 1 1 (by decide) (by decide)
    · obtain ⟨h2, h3, h4⟩ := ha rfl
      rw [hr, up_eq s (by omega)]
      simp only [if_true]
      exact zero (s + 1) (by omega) (by omega) (by omega)
    all_goals
      have hn := hb (by decide)
      rw [hr]
      simp only [Int.reduceEq, if_true, if_false]
      first
        | exact stay _ _ (by decide) (by decide)
        | exact zero 1 (by omega) (by omega) (by omega)

theorem PhaseOpens : ∀ (a0 a1 a2 a3 a4 a5 a6 a7 a8 a9 : Int) (l : List S36), (Lit.int .i64 a0).wf = true → (Lit.int .i64 a1).wf = true → (Lit.int .i64 a2).wf = true → (Lit.int .i64 a3).wf = true → (Lit.int .i64 a4).wf = true → (Lit.int .i64 a5).wf = true → (Lit.int .i64 a6).wf = true → (Lit.int .i64 a7).wf = true → (Lit.int .i64 a8).wf = true → (Lit.int .i64 a9).wf = true → ∃ k, crossbucklaw20_PhaseOpens.f k a0 a1 a2 a3 a4 a5 a6 a7 a8 a9 l = some true := by
  intro a0 a1 a2 a3 a4 a5 a6 a7 a8 a9 l _ _ _ _ _ _ _ _ _ _
  obtain ⟨b, hb, hall⟩ := few_ev a0 a1 a2 a3 a4 a5 a6 a7 a8 a9
  refine Ev.rounds (g := fun k => crossbucklaw20_PhaseOpens.f k a0 a1 a2 a3 a4 a5 a6 a7 a8 a9 l) ?_
  simp only [crossbucklaw20_PhaseOpens.f, small_true, Option.bind_some]
  refine Ev.bind hb ?_
  have out : Ev (fun k => crossbucklaw20_PhaseOpens.j0 k l true true a0 a1 a2 a3 a4 a5 a6 a7 a8 a9) true := Ev.step (f := fun _ => some true) (fun k => by simp [crossbucklaw20_PhaseOpens.j0]) (Ev.now true)
  cases b
  · simp only [Bool.false_eq_true, if_false]
    exact out
  · simp only [if_true]
    obtain ⟨ham, hre, he, hop, ho⟩ := hall rfl
    by_cases hl : (l.length : Int) > 400
    · rw [decide_eq_true hl]; exact out
    · rw [decide_eq_false hl]
      refine Ev.step (f := fun k => crossbucklaw20_PhaseOpens.l0 k l true 1 0 a0 a1 a2 a3 a4 a5 a6 a7 a8 a9 0 1) (fun k => by simp [crossbucklaw20_PhaseOpens.j0, phase_Enter.f]) ?_
      exact opens_loop l a0 a1 a2 a3 a4 a5 a6 a7 a8 a9 he ho (by omega) l.length 0 1 0 1 (by omega) (by omega) (by omega) (fun _ => by omega) (fun h => absurd rfl h)
end Go.Proofs.Ytngmjmcamkfopaa.Pure
