/- The plain law of PhaseRaises, over numbers and lists. -/
import Derived.Test.YtngmjmcamkfopaaAx9
import Derived.Test.YtngmjmcamkfopaaPurePhase
namespace Go.Proofs.Ytngmjmcamkfopaa.Pure
open Go.RowKit Go.Proofs.Ytngmjmcamkfopaa.A Go.Proofs.YtngmjmcamkfopaaW.PrintWords Go.Proofs.YtngmjmcamkfopaaW.PrintLast
set_option linter.unusedVariables false
set_option linter.unusedSimpArgs false

theorem r_mem (am re en op ov p s : Int) (c u bD bU bX bY ob : Bool) (h : 0 ≤ p ∧ p ≤ 6) : 0 ≤ (stepP am re en op ov p s c u bD bU bX bY ob).1 ∧ (stepP am re en op ov p s c u bD bU bX bY ob).1 ≤ 6 := by
  rcases step_cases am re en op ov p s c u bD bU bX bY ob h with ⟨rfl, ⟨hr, hg⟩ | hr⟩ | ⟨rfl, hr | ⟨hr, hg⟩ | hr⟩ | ⟨rfl, hr | ⟨hr, hg⟩ | hr⟩ | ⟨rfl, hr | ⟨hr, hg⟩ | hr⟩ | ⟨rfl, hr | hr | hr⟩ | ⟨rfl, hr | hr⟩ | ⟨rfl, hr | hr | hr⟩ <;> rw [hr] <;> simp
theorem r_first (am re en op ov p s : Int) (h : 0 ≤ p ∧ p ≤ 6) : (stepP am re en op ov p s false false false false false false true).1 = 0 ∨ (stepP am re en op ov p s false false false false false false true).1 = 6 := by
  have hc : p = 0 ∨ p = 1 ∨ p = 2 ∨ p = 3 ∨ p = 4 ∨ p = 5 ∨ p = 6 := by omega
  rcases hc with rfl | rfl | rfl | rfl | rfl | rfl | rfl <;> simp [stepP, nextP]
theorem r_keep (am re en op ov p s : Int) (h : p = 0 ∨ p = 6) : (stepP am re en op ov p s false false false true false false false).1 = p := by
  rcases h with rfl | rfl <;> simp [stepP, nextP]
theorem r_open (am re en op ov p s : Int) (h : p = 0 ∨ p = 6) : (stepP am re en op ov p s false false false true false true false).1 = 0 := by
  rcases h with rfl | rfl <;> simp [stepP, nextP]

theorem raise_loop (n : Int) (a0 a1 a2 a3 a4 a5 a6 a7 a8 a9 : Int) (he : 1 ≤ a2 ∧ a2 ≤ 6000) (ho : 1 ≤ a6 ∧ a6 ≤ 6000) (hn : n ≤ 100) :
    ∀ (d : Nat) (i p s : Int), 0 ≤ i → n - i = d → (p = 0 ∨ p = 6) → Ev (fun k => crossbucklaw20_PhaseRaises.l1 k n true p i a0 a1 a2 a3 a4 a5 a6 a7 a8 a9 p s) true
  | 0, i, p, s, h0, h1, hp => by
    refine Ev.step (fun k => by rw [crossbucklaw20_PhaseRaises.l1, if_neg (show ¬ i < n by omega), if_pos rfl]) ?_
    refine Ev.bind (step_ev _ _ _ _ _ _ _ _ _ _ _ _ _ _ _ _ _ _ _ he ho) ?_
    have e := r_open a0 a1 a2 a5 a6 p s hp
    simp only [e, if_true, L0, Option.bind_some]
    exact Ev.now true
  | d + 1, i, p, s, h0, h1, hp => by
    have e : wrap64 (i + 1) = i + 1 := by unfold wrap64; omega
    refine Ev.step (fun k => by rw [crossbucklaw20_PhaseRaises.l1, if_pos (show i < n by omega)]) ?_
    refine Ev.bind (step_ev _ _ _ _ _ _ _ _ _ _ _ _ _ _ _ _ _ _ _ he ho) ?_
    have e4 := r_keep a0 a1 a2 a5 a6 p s hp
    simp only [e, e4]
    exact raise_loop n a0 a1 a2 a3 a4 a5 a6 a7 a8 a9 he ho hn d (i + 1) p _ (by omega) (by omega) hp

theorem raises_loop (l : List S36) (n : Int) (a0 a1 a2 a3 a4 a5 a6 a7 a8 a9 : Int) (he : 1 ≤ a2 ∧ a2 ≤ 6000) (ho : 1 ≤ a6 ∧ a6 ≤ 6000) (hl : (l.length : Int) ≤ 400) (hn : 0 ≤ n ∧ n ≤ 100) :
    ∀ (d : Nat) (i p s : Int), 0 ≤ i → i + d = l.length → (0 ≤ p ∧ p ≤ 6) → Ev (fun k => crossbucklaw20_PhaseRaises.l0 k l n true i a0 a1 a2 a3 a4 a5 a6 a7 a8 a9 p s) true
  | 0, i, p, s, h0, h1, hp => by
    refine Ev.step (fun k => by rw [crossbucklaw20_PhaseRaises.l0, if_neg (show ¬ i < (l.length : Int) by omega)]) ?_
    refine Ev.bind (step_ev _ _ _ _ _ _ _ _ _ _ _ _ _ _ _ _ _ _ _ he ho) ?_
    have hf := r_first a0 a1 a2 a5 a6 p s hp
    have go : ∀ (p' s' : Int), (p' = 0 ∨ p' = 6) → Ev (fun k => crossbucklaw20_PhaseRaises.j2 k n true false a0 a1 a2 a3 a4 a5 a6 a7 a8 a9 p' s') true := fun p' s' h => by
      refine Ev.step (f := fun k => crossbucklaw20_PhaseRaises.l1 k n true p' 0 a0 a1 a2 a3 a4 a5 a6 a7 a8 a9 p' s') (fun k => by simp only [crossbucklaw20_PhaseRaises.j2]; rw [if_neg (by decide)]) ?_
      exact raise_loop n a0 a1 a2 a3 a4 a5 a6 a7 a8 a9 he ho hn.2 n.toNat 0 p' s' (by omega) (by omega) h
    rcases hf with hf | hf
    · simp only [hf, if_true]
      exact go 0 _ (.inl rfl)
    · simp only [hf, Int.reduceEq, if_false, bne_self_eq_false]
      exact go 6 _ (.inr rfl)
  | d + 1, i, p, s, h0, h1, hp => by
    have e : wrap64 (i + 1) = i + 1 := by unfold wrap64; omega
    refine Ev.step (fun k => by rw [crossbucklaw20_PhaseRaises.l0, if_pos (show i < (l.length : Int) by omega), if_pos h0]) ?_
    refine Ev.bind (step_ev _ _ _ _ _ _ _ _ _ _ _ _ _ _ _ _ _ _ _ he ho) ?_
    simp only [e]
    exact raises_loop l n a0 a1 a2 a3 a4 a5 a6 a7 a8 a9 he ho hl hn d (i + 1) _ _ (by omega) (by omega) (r_mem _ _ _ _ _ _ _ _ _ _ _ _ _ _ hp)

theorem PhaseRaises : ∀ (a0 a1 a2 a3 a4 a5 a6 a7 a8 a9 : Int) (l : List S36) (n : Int), (Lit.int .i64 a0).wf = true → (Lit.int .i64 a1).wf = true → (Lit.int .i64 a2).wf = true → (Lit.int .i64 a3).wf = true → (Lit.int .i64 a4).wf = true → (Lit.int .i64 a5).wf = true → (Lit.int .i64 a6).wf = true → (Lit.int .i64 a7).wf = true → (Lit.int .i64 a8).wf = true → (Lit.int .i64 a9).wf = true → (Lit.int .i64 n).wf = true → ∃ k, crossbucklaw20_PhaseRaises.f k a0 a1 a2 a3 a4 a5 a6 a7 a8 a9 l n = some true := by
  intro a0 a1 a2 a3 a4 a5 a6 a7 a8 a9 l n _ _ _ _ _ _ _ _ _ _ _
  obtain ⟨b, hb, hall⟩ := few_ev a0 a1 a2 a3 a4 a5 a6 a7 a8 a9
  refine Ev.rounds (g := fun k => crossbucklaw20_PhaseRaises.f k a0 a1 a2 a3 a4 a5 a6 a7 a8 a9 l n) ?_
  simp only [crossbucklaw20_PhaseRaises.f, small_true, Option.bind_some]
  refine Ev.bind hb ?_
  have out : Ev (fun k => crossbucklaw20_PhaseRaises.j0 k l n true true a0 a1 a2 a3 a4 a5 a6 a7 a8 a9) true := Ev.step (f := fun _ => some true) (fun k => by simp [crossbucklaw20_PhaseRaises.j0]) (Ev.now true)
  cases b
  · simp only [Bool.false_eq_true, if_false]
    exact out
  · simp only [if_true]
    obtain ⟨ham, hre, he, hop, ho⟩ := hall rfl
    by_cases hl : (l.length : Int) > 400
    · simp only [hl, if_true]; exact out
    · simp only [hl, if_false]
      by_cases h0 : n < 0
      · simp only [h0, if_true]; exact out
      · simp only [h0, if_false]
        by_cases h1 : n > 100
        · rw [decide_eq_true h1]; exact out
        · rw [decide_eq_false h1]
          refine Ev.step (f := fun k => crossbucklaw20_PhaseRaises.l0 k l n true 0 a0 a1 a2 a3 a4 a5 a6 a7 a8 a9 0 1) (fun k => by simp [crossbucklaw20_PhaseRaises.j0, phase_Enter.f]) ?_
          exact raises_loop l n a0 a1 a2 a3 a4 a5 a6 a7 a8 a9 he ho (by omega) (by omega) l.length 0 0 1 (by omega) (by omega) (by omega)
end Go.Proofs.Ytngmjmcamkfopaa.Pure
