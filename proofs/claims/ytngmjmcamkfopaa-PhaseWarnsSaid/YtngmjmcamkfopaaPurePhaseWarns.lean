/- The plain law of PhaseWarns, over numbers and lists. -/
import Derived.Test.YtngmjmcamkfopaaAx6
import Derived.Test.YtngmjmcamkfopaaPurePhase
namespace Go.Proofs.Ytngmjmcamkfopaa.Pure
open Go.RowKit Go.Proofs.Ytngmjmcamkfopaa.A Go.Proofs.YtngmjmcamkfopaaW.PrintWords Go.Proofs.YtngmjmcamkfopaaW.PrintLast
set_option linter.unusedVariables false
set_option linter.unusedSimpArgs false

/-- What holds between ticks. -/
structure InvW (a0 A R : Int) (D : Bool) (i p s : Int) : Prop where
  hp : 0 ≤ p ∧ p ≤ 6
  hA : 0 ≤ A ∧ A ≤ i
  hR : 0 ≤ R ∧ R ≤ i
  hD : D = decide (3 ≤ p ∧ p ≤ 5)
  idle : p = 0 ∨ p = 6 → A = 0 ∧ R = 0
  at1 : p = 1 → A = s ∧ R = 0 ∧ 1 ≤ s
  at2 : p = 2 → a0 ≤ A ∧ R = s ∧ 1 ≤ s
theorem warns_loop (l : List S36) (a0 a1 a2 a3 a4 a5 a6 a7 a8 a9 : Int) (he : 1 ≤ a2 ∧ a2 ≤ 6000) (ho : 1 ≤ a6 ∧ a6 ≤ 6000) (hl : (l.length : Int) ≤ 400) :
    ∀ (d : Nat) (i A R : Int) (D : Bool) (p s : Int), 0 ≤ i → i + d = l.length → InvW a0 A R D i p s → Ev (fun k => crossbucklaw20_PhaseWarns.l0 k l true A R D i a0 a1 a2 a3 a4 a5 a6 a7 a8 a9 p s) true
  | 0, i, A, R, D, p, s, h0, h1, hv =>
    Ev.step (f := fun _ => some true) (fun k => by simp only [crossbucklaw20_PhaseWarns.l0]; rw [if_neg (by omega)]) (Ev.now true)
  | d + 1, i, A, R, D, p, s, h0, h1, hv => by
    have e : wrap64 (i + 1) = i + 1 := by unfold wrap64; omega
    have hA := hv.hA
    have hR := hv.hR
    have e2 : wrap64 (A + 1) = A + 1 := by unfold wrap64; omega
    have e3 : wrap64 (R + 1) = R + 1 := by unfold wrap64; omega
    refine Ev.step (fun k => by rw [crossbucklaw20_PhaseWarns.l0, if_pos (show i < (l.length : Int) by omega), if_pos h0]) ?_
    have next : ∀ (A' R' : Int) (D' : Bool) (p' s' : Int), InvW a0 A' R' D' (i + 1) p' s' → Ev (fun k => crossbucklaw20_PhaseWarns.l0 k l true A' R' D' (i + 1) a0 a1 a2 a3 a4 a5 a6 a7 a8 a9 p' s') true :=
      fun A' R' D' p' s' h => warns_loop l a0 a1 a2 a3 a4 a5 a6 a7 a8 a9 he ho hl d (i + 1) A' R' D' p' s' (by omega) (by omega) h
    have jA : ∀ (p' s' : Int) (x1 x2 x3 x4 : Bool), InvW a0 (A + 1) 0 x3 (i + 1) p' s' → Ev (fun k => crossbucklaw20_PhaseWarns.j2 k l true A R i false a0 a1 a2 a3 a4 a5 a6 a7 a8 a9 p' s' true x1 x2 x3 x4) true := fun p' s' x1 x2 x3 x4 h => by
      refine Ev.step (f := fun k => crossbucklaw20_PhaseWarns.l0 k l true (A + 1) 0 x3 (i + 1) a0 a1 a2 a3 a4 a5 a6 a7 a8 a9 p' s') (fun k => by simp only [crossbucklaw20_PhaseWarns.j2]; rw [if_neg (by decide), if_pos trivial, e, e2]) ?_
      exact next _ _ _ _ _ h
    have jR : ∀ (s' : Int) (x1 x2 x3 x4 : Bool), InvW a0 A (R + 1) x3 (i + 1) 2 s' → Ev (fun k => crossbucklaw20_PhaseWarns.j2 k l true A R i false a0 a1 a2 a3 a4 a5 a6 a7 a8 a9 2 s' false x1 x2 x3 x4) true := fun s' x1 x2 x3 x4 h => by
      refine Ev.step (f := fun k => crossbucklaw20_PhaseWarns.l0 k l true A (R + 1) x3 (i + 1) a0 a1 a2 a3 a4 a5 a6 a7 a8 a9 2 s') (fun k => by simp only [crossbucklaw20_PhaseWarns.j2]; rw [if_neg (by decide), if_neg (by decide), if_pos trivial, e, e3]) ?_
      exact next _ _ _ _ _ h
    have jD : ∀ (p' s' : Int) (x1 x2 x4 : Bool), p' ≠ 2 → InvW a0 A R true (i + 1) p' s' → Ev (fun k => crossbucklaw20_PhaseWarns.j2 k l true A R i false a0 a1 a2 a3 a4 a5 a6 a7 a8 a9 p' s' false x1 x2 true x4) true := fun p' s' x1 x2 x4 h2 h => by
      refine Ev.step (f := fun k => crossbucklaw20_PhaseWarns.l0 k l true A R true (i + 1) a0 a1 a2 a3 a4 a5 a6 a7 a8 a9 p' s') (fun k => by simp only [crossbucklaw20_PhaseWarns.j2]; rw [if_neg (by decide), if_neg (by decide), if_neg h2, if_pos trivial, e]) ?_
      exact next _ _ _ _ _ h
    have jZ : ∀ (p' s' : Int) (x1 x2 x4 : Bool), p' ≠ 2 → InvW a0 0 0 false (i + 1) p' s' → Ev (fun k => crossbucklaw20_PhaseWarns.j2 k l true A R i false a0 a1 a2 a3 a4 a5 a6 a7 a8 a9 p' s' false x1 x2 false x4) true := fun p' s' x1 x2 x4 h2 h => by
      refine Ev.step (f := fun k => crossbucklaw20_PhaseWarns.l0 k l true 0 0 false (i + 1) a0 a1 a2 a3 a4 a5 a6 a7 a8 a9 p' s') (fun k => by simp only [crossbucklaw20_PhaseWarns.j2]; rw [if_neg (by decide), if_neg (by decide), if_neg h2, if_neg (by decide), e]) ?_
      exact next _ _ _ _ _ h
    have hp := hv.hp
    rcases step_cases a0 a1 a2 a5 a6 p s ((rd_T36 l i).f0.f0) ((rd_T36 l i).f0.f1) ((rd_T36 l i).f1.f0) ((rd_T36 l i).f1.f1) ((rd_T36 l i).f1.f2) ((rd_T36 l i).f1.f3) ((rd_T36 l i).f2) hp with ⟨rfl, ⟨hr, hg⟩ | hr⟩ | ⟨rfl, hr | ⟨hr, hg⟩ | hr⟩ | ⟨rfl, hr | ⟨hr, hg⟩ | hr⟩ | ⟨rfl, hr | ⟨hr, hg⟩ | hr⟩ | ⟨rfl, hr | hr | hr⟩ | ⟨rfl, hr | hr⟩ | ⟨rfl, hr | hr | hr⟩
    all_goals
      obtain ⟨_, _, _, hD, h3, h4, h5⟩ := hv
      refine Ev.bind (step_ev _ _ _ _ _ _ _ _ _ _ _ _ _ _ _ _ _ _ _ he ho) ?_
      rw [hr]
      simp only [L0, L1, L2, L3, L4, L5, L6, Option.bind_some, Int.reduceEq, Bool.false_eq_true, Bool.not_true, Bool.not_false, if_true, if_false]
      first
        | exact jZ _ _ _ _ _ (by decide) ⟨by omega, by omega, by omega, by decide, by omega, by omega, by omega⟩
        | exact jA _ _ _ _ _ _ ⟨by omega, by omega, by omega, by decide, by omega, by omega, by omega⟩
        | exact jR _ _ _ _ _ ⟨by omega, by omega, by omega, by decide, by omega, by omega, by omega⟩
        | (rw [up_eq s (by omega)]
           first
             | exact jA _ _ _ _ _ _ ⟨by omega, by omega, by omega, by decide, by omega, by omega, by omega⟩
             | exact jR _ _ _ _ _ ⟨by omega, by omega, by omega, by decide, by omega, by omega, by omega⟩)
        | (rw [show D = true from hD]
           simp only [L0, L1, L2, L3, L4, L5, L6, Option.bind_some, Int.reduceEq, Bool.false_eq_true, Bool.not_true, Bool.not_false, if_true, if_false]
           exact jD _ _ _ _ _ (by decide) ⟨by omega, by omega, by omega, by decide, by omega, by omega, by omega⟩)
        | (rw [show D = false from hD]
           have g1 : ¬ A < a0 := by omega
           have g2 : ¬ R < a1 := by omega
           simp only [g1, g2, Bool.false_eq_true, if_false]
           exact jD _ _ _ _ _ (by decide) ⟨by omega, by omega, by omega, by decide, by omega, by omega, by omega⟩)
        | skip

theorem PhaseWarns : ∀ (a0 a1 a2 a3 a4 a5 a6 a7 a8 a9 : Int) (l : List S36), (Lit.int .i64 a0).wf = true → (Lit.int .i64 a1).wf = true → (Lit.int .i64 a2).wf = true → (Lit.int .i64 a3).wf = true → (Lit.int .i64 a4).wf = true → (Lit.int .i64 a5).wf = true → (Lit.int .i64 a6).wf = true → (Lit.int .i64 a7).wf = true → (Lit.int .i64 a8).wf = true → (Lit.int .i64 a9).wf = true → ∃ k, crossbucklaw20_PhaseWarns.f k a0 a1 a2 a3 a4 a5 a6 a7 a8 a9 l = some true := by
  intro a0 a1 a2 a3 a4 a5 a6 a7 a8 a9 l _ _ _ _ _ _ _ _ _ _
  obtain ⟨b, hb, hall⟩ := few_ev a0 a1 a2 a3 a4 a5 a6 a7 a8 a9
  refine Ev.rounds (g := fun k => crossbucklaw20_PhaseWarns.f k a0 a1 a2 a3 a4 a5 a6 a7 a8 a9 l) ?_
  simp only [crossbucklaw20_PhaseWarns.f, small_true, Option.bind_some]
  refine Ev.bind hb ?_
  have out : Ev (fun k => crossbucklaw20_PhaseWarns.j0 k l true true a0 a1 a2 a3 a4 a5 a6 a7 a8 a9) true := Ev.step (f := fun _ => some true) (fun k => by simp [crossbucklaw20_PhaseWarns.j0]) (Ev.now true)
  cases b
  · simp only [Bool.false_eq_true, if_false]
    exact out
  · simp only [if_true]
    obtain ⟨ham, hre, he, hop, ho⟩ := hall rfl
    by_cases hl : (l.length : Int) > 400
    · rw [decide_eq_true hl]; exact out
    · rw [decide_eq_false hl]
      refine Ev.step (f := fun k => crossbucklaw20_PhaseWarns.l0 k l true 0 0 false 0 a0 a1 a2 a3 a4 a5 a6 a7 a8 a9 0 1) (fun k => by simp [crossbucklaw20_PhaseWarns.j0, phase_Enter.f]) ?_
      exact warns_loop l a0 a1 a2 a3 a4 a5 a6 a7 a8 a9 he ho (by omega) l.length 0 0 0 false 0 1 (by omega) (by omega) ⟨by omega, by omega, by omega, by decide, by omega, by omega, by omega⟩
end Go.Proofs.Ytngmjmcamkfopaa.Pure
