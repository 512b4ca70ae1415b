/- The plain law of PhaseExits, over numbers and lists. -/
import Derived.Test.YtngmjmcamkfopaaAx7
import Derived.Test.YtngmjmcamkfopaaPurePhase
namespace Go.Proofs.Ytngmjmcamkfopaa.Pure
open Go.RowKit Go.Proofs.Ytngmjmcamkfopaa.A Go.Proofs.YtngmjmcamkfopaaW.PrintWords Go.Proofs.YtngmjmcamkfopaaW.PrintLast
set_option linter.unusedVariables false
set_option linter.unusedSimpArgs false

/-- What holds between ticks. -/
structure InvE (n i p s : Int) : Prop where
  hp : 0 ≤ p ∧ p ≤ 6
  hn : 0 ≤ n ∧ n ≤ i
  at3 : p = 3 → n = s ∧ 1 ≤ s
  not : p ≠ 3 → p ≠ 4 → p ≠ 5 → n = 0
theorem exits_loop (l : List S36) (a0 a1 a2 a3 a4 a5 a6 a7 a8 a9 : Int) (he : 1 ≤ a2 ∧ a2 ≤ 6000) (ho : 1 ≤ a6 ∧ a6 ≤ 6000) (hl : (l.length : Int) ≤ 400) :
    ∀ (d : Nat) (i n p s : Int), 0 ≤ i → i + d = l.length → InvE n i p s → Ev (fun k => crossbucklaw20_PhaseExits.l0 k l true n i a0 a1 a2 a3 a4 a5 a6 a7 a8 a9 p s) true
  | 0, i, n, p, s, h0, h1, hv =>
    Ev.step (f := fun _ => some true) (fun k => by simp only [crossbucklaw20_PhaseExits.l0]; rw [if_neg (by omega)]) (Ev.now true)
  | d + 1, i, n, p, s, h0, h1, hv => by
    have e : wrap64 (i + 1) = i + 1 := by unfold wrap64; omega
    have hn := hv.hn
    have e2 : wrap64 (n + 1) = n + 1 := by unfold wrap64; omega
    have e3 : wrap64 (a2 + a6) = a2 + a6 := by unfold wrap64; omega
    refine Ev.step (fun k => by rw [crossbucklaw20_PhaseExits.l0, if_pos (show i < (l.length : Int) by omega)]) ?_
    have next : ∀ (n' p' s' : Int), InvE n' (i + 1) p' s' → Ev (fun k => crossbucklaw20_PhaseExits.l0 k l true n' (i + 1) a0 a1 a2 a3 a4 a5 a6 a7 a8 a9 p' s') true :=
      fun n' p' s' h => exits_loop l a0 a1 a2 a3 a4 a5 a6 a7 a8 a9 he ho hl d (i + 1) n' p' s' (by omega) (by omega) h
    have jT : ∀ (p' s' : Int) (x0 x1 x2 x4 : Bool), InvE (n + 1) (i + 1) p' s' → Ev (fun k => crossbucklaw20_PhaseExits.j2 k l true n i false a0 a1 a2 a3 a4 a5 a6 a7 a8 a9 p' s' x0 x1 x2 true x4) true := fun p' s' x0 x1 x2 x4 h => by
      refine Ev.step (f := fun k => crossbucklaw20_PhaseExits.l0 k l true (n + 1) (i + 1) a0 a1 a2 a3 a4 a5 a6 a7 a8 a9 p' s') (fun k => by simp only [crossbucklaw20_PhaseExits.j2]; rw [if_neg (by decide), if_pos trivial, e, e2]) ?_
      exact next _ _ _ h
    have jF : ∀ (p' s' : Int) (x0 x1 x2 x4 : Bool), InvE 0 (i + 1) p' s' → Ev (fun k => crossbucklaw20_PhaseExits.j2 k l true n i false a0 a1 a2 a3 a4 a5 a6 a7 a8 a9 p' s' x0 x1 x2 false x4) true := fun p' s' x0 x1 x2 x4 h => by
      refine Ev.step (f := fun k => crossbucklaw20_PhaseExits.l0 k l true 0 (i + 1) a0 a1 a2 a3 a4 a5 a6 a7 a8 a9 p' s') (fun k => by simp only [crossbucklaw20_PhaseExits.j2]; rw [if_neg (by decide), if_neg (by decide), e]) ?_
      exact next _ _ _ h
    have hp := hv.hp
    rcases step_cases a0 a1 a2 a5 a6 p s ((rd_T36 l i).f0.f0) ((rd_T36 l i).f0.f1) ((rd_T36 l i).f1.f0) ((rd_T36 l i).f1.f1) ((rd_T36 l i).f1.f2) ((rd_T36 l i).f1.f3) ((rd_T36 l i).f2) hp with ⟨rfl, ⟨hr, hg⟩ | hr⟩ | ⟨rfl, hr | ⟨hr, hg⟩ | hr⟩ | ⟨rfl, hr | ⟨hr, hg⟩ | hr⟩ | ⟨rfl, hr | ⟨hr, hg⟩ | hr⟩ | ⟨rfl, hr | hr | hr⟩ | ⟨rfl, hr | hr⟩ | ⟨rfl, hr | hr | hr⟩
    all_goals
      obtain ⟨_, _, h3, h4⟩ := hv
      simp only [L0, L1, L2, L3, L4, L5, L6, Option.bind_some, h0, if_true]
      refine Ev.bind (step_ev _ _ _ _ _ _ _ _ _ _ _ _ _ _ _ _ _ _ _ he ho) ?_
      rw [hr]
      simp only [L0, L1, L2, L3, L4, L5, L6, Option.bind_some, Int.reduceEq, Bool.false_eq_true, Bool.not_true, Bool.not_false, if_true, if_false]
      first
        | exact jF _ _ _ _ _ _ ⟨by omega, by omega, by omega, by omega⟩
        | exact jT _ _ _ _ _ _ ⟨by omega, by omega, by omega, by omega⟩
        | (obtain ⟨h3a, h3b⟩ := h3 rfl
           rw [up_eq s (by omega)]
           exact jT _ _ _ _ _ _ ⟨by omega, by omega, by omega, by omega⟩)
        | skip
    obtain ⟨h3a, h3b⟩ := h3 rfl
    obtain ⟨hg1, hg2⟩ := hg
    have g1 : ¬ n < a2 := by omega
    simp only [g1, if_false, e3]
    rcases hg2 with hob | hov
    · simp only [hob, Bool.false_eq_true, if_false]
      exact jT _ _ _ _ _ _ ⟨by omega, by omega, by omega, by omega⟩
    · rw [decide_eq_false (show ¬ n < a2 + a6 by omega)]
      simp only [ite_self]
      exact jT _ _ _ _ _ _ ⟨by omega, by omega, by omega, by omega⟩

theorem PhaseExits : ∀ (a0 a1 a2 a3 a4 a5 a6 a7 a8 a9 : Int) (l : List S36), (Lit.int .i64 a0).wf = true → (Lit.int .i64 a1).wf = true → (Lit.int .i64 a2).wf = true → (Lit.int .i64 a3).wf = true → (Lit.int .i64 a4).wf = true → (Lit.int .i64 a5).wf = true → (Lit.int .i64 a6).wf = true → (Lit.int .i64 a7).wf = true → (Lit.int .i64 a8).wf = true → (Lit.int .i64 a9).wf = true → ∃ k, crossbucklaw20_PhaseExits.f k a0 a1 a2 a3 a4 a5 a6 a7 a8 a9 l = some true := by
  intro a0 a1 a2 a3 a4 a5 a6 a7 a8 a9 l _ _ _ _ _ _ _ _ _ _
  obtain ⟨b, hb, hall⟩ := few_ev a0 a1 a2 a3 a4 a5 a6 a7 a8 a9
  refine Ev.rounds (g := fun k => crossbucklaw20_PhaseExits.f k a0 a1 a2 a3 a4 a5 a6 a7 a8 a9 l) ?_
  simp only [crossbucklaw20_PhaseExits.f, small_true, Option.bind_some]
  refine Ev.bind hb ?_
  have out : Ev (fun k => crossbucklaw20_PhaseExits.j0 k l true true a0 a1 a2 a3 a4 a5 a6 a7 a8 a9) true := Ev.step (f := fun _ => some true) (fun k => by simp [crossbucklaw20_PhaseExits.j0]) (Ev.now true)
  cases b
  · simp only [Bool.false_eq_true, if_false]
    exact out
  · simp only [if_true]
    obtain ⟨ham, hre, he, hop, ho⟩ := hall rfl
    by_cases hl : (l.length : Int) > 400
    · rw [decide_eq_true hl]; exact out
    · rw [decide_eq_false hl]
      refine Ev.step (f := fun k => crossbucklaw20_PhaseExits.l0 k l true 0 0 a0 a1 a2 a3 a4 a5 a6 a7 a8 a9 0 1) (fun k => by simp [crossbucklaw20_PhaseExits.j0, phase_Enter.f]) ?_
      exact exits_loop l a0 a1 a2 a3 a4 a5 a6 a7 a8 a9 he ho (by omega) l.length 0 0 0 1 (by omega) (by omega) ⟨by omega, by omega, by omega, by omega⟩
end Go.Proofs.Ytngmjmcamkfopaa.Pure
