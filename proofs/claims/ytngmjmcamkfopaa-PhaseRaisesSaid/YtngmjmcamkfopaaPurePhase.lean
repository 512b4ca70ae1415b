/- What a phase's step is, in plain words, over numbers and bools. -/
import Derived.Test.YtngmjmcamkfopaaAx5
import Derived.Test.YtngmjmcamkfopaaHandSmall20
import Derived.OpenShut
namespace Go.Proofs.Ytngmjmcamkfopaa.Pure
open Go.RowKit Go.Proofs.Ytngmjmcamkfopaa.A Go.Proofs.YtngmjmcamkfopaaW.PrintWords Go.Proofs.YtngmjmcamkfopaaW.PrintLast
set_option linter.unusedVariables false
set_option linter.unusedSimpArgs false
theorem small_true : crossbucklaw20_small.f = some true := rfl

theorem Ev.opens {α : Type} {g f : Nat → Option α} {r : α} (h : ∀ k, g (k + 1) = f k) (k : Ev f r) : Ev g r := Ev.step h k
theorem Ev.later {α : Type} {g : Nat → Option α} {r : α} (n : Nat) (h : ∀ k, g (k + n) = some r) : Ev g r := ⟨n, fun k hk => by have := h (k - n); rwa [Nat.sub_add_cancel hk] at this⟩

def shutP (am re en ov p s : Int) (bD bX ob : Bool) : Int :=
  if p = 1 ∧ am ≤ s then 2 else if p = 2 ∧ re ≤ s then 3 else if p = 3 ∧ en ≤ s ∧ (ob = false ∨ en + ov ≤ s) then 4 else if p = 4 ∧ bD = true ∧ bX = true then 5 else -1
def nextP (am re en op ov p s : Int) (c u bD bU bX bY ob : Bool) : Int :=
  if p = 0 then (if u = true ∨ (c = true ∧ op ≤ s) then 1 else -1)
  else if 1 ≤ p ∧ p ≤ 5 then (if c = true then shutP am re en ov p s bD bX ob else 6)
  else if p = 6 then (if u = true then 1 else if bU = true ∧ bY = true then 0 else -1)
  else if p = 7 then -1 else 7
def stepP (am re en op ov p s : Int) (c u bD bU bX bY ob : Bool) : Int × Int :=
  if nextP am re en op ov p s c u bD bU bX bY ob = -1 then (p, (mn (mx s 0) 1073741823) + 1) else (nextP am re en op ov p s c u bD bU bX bY ob, 1)

theorem long_eq (s a b : Int) (ha : 1 ≤ a ∧ a ≤ 6000) (hb : 1 ≤ b ∧ b ≤ 6000) : phase_long.f s a b = some (decide (a + b ≤ s)) := by
  have e1 : wrap64 (9223372036854775807 - b) = 9223372036854775807 - b := by unfold wrap64; omega
  have e2 : wrap64 (a + b) = a + b := by unfold wrap64; omega
  simp only [phase_long.f, e1, e2]
  rw [if_pos (by omega), if_neg (by omega), if_neg (by omega)]

theorem shut_eq (am re en a3 a4 a5 ov a7 a8 a9 p s : Int) (bD bU bX bY ob : Bool) (he : 1 ≤ en ∧ en ≤ 6000) (ho : 1 ≤ ov ∧ ov ≤ 6000) (k : Nat) :
    phase_shut.f (k + 3) am re en a3 a4 a5 ov a7 a8 a9 p s bD bU bX bY ob = some (shutP am re en ov p s bD bX ob) := by
  simp only [phase_shut.f, phase_shut.j0, phase_shut.j1, phase_shut.j2, shutP, long_eq _ _ _ he ho, Option.bind_some]
  by_cases h1 : p = 1
  · subst h1
    by_cases g : am ≤ s <;> simp [g]
  · by_cases h2 : p = 2
    · subst h2
      by_cases g : re ≤ s <;> simp [g]
    · by_cases h3 : p = 3
      · subst h3
        by_cases g : en ≤ s <;> cases ob <;> by_cases g2 : en + ov ≤ s <;> simp [g, g2]
      · by_cases h4 : p = 4
        · subst h4
          cases bD <;> cases bX <;> simp
        · simp [h1, h2, h3, h4]

theorem next_eq (am re en a3 a4 op ov a7 a8 a9 p s : Int) (c u bD bU bX bY ob : Bool) (he : 1 ≤ en ∧ en ≤ 6000) (ho : 1 ≤ ov ∧ ov ≤ 6000) (k : Nat) :
    phase_next.f (k + 4) am re en a3 a4 op ov a7 a8 a9 p s c u bD bU bX bY ob = some (nextP am re en op ov p s c u bD bU bX bY ob) := by
  simp only [phase_next.f, phase_next.j0, nextP, shut_eq _ _ _ _ _ _ _ _ _ _ _ _ _ _ _ _ _ he ho, Option.bind_some]
  have hc : p = 0 ∨ p = 1 ∨ p = 2 ∨ p = 3 ∨ p = 4 ∨ p = 5 ∨ p = 6 ∨ p = 7 ∨ (p < 0 ∨ 7 < p) := by omega
  rcases hc with rfl | rfl | rfl | rfl | rfl | rfl | rfl | rfl | h
  · cases u <;> cases c <;> by_cases g : op ≤ s <;> simp [g]
  · cases c <;> simp
  · cases c <;> simp
  · cases c <;> simp
  · cases c <;> simp
  · cases c <;> simp
  · cases u <;> cases bU <;> cases bY <;> simp
  · simp
  · rw [if_neg (by omega), if_neg (by omega), if_neg (by omega), if_neg (by omega), if_neg (by omega), if_neg (by simp; omega), if_neg (by omega), if_neg (by omega), if_neg (by omega), if_neg (by omega), if_neg (by omega), if_neg (by omega)]

theorem next_mem (am re en op ov p s : Int) (c u bD bU bX bY ob : Bool) (h : nextP am re en op ov p s c u bD bU bX bY ob ≠ -1) : 0 ≤ nextP am re en op ov p s c u bD bU bX bY ob ∧ nextP am re en op ov p s c u bD bU bX bY ob ≤ 7 := by
  unfold nextP shutP at *
  (repeat' split) <;> simp_all

theorem step_eq (am re en a3 a4 op ov a7 a8 a9 p s : Int) (c u bD bU bX bY ob : Bool) (he : 1 ≤ en ∧ en ≤ 6000) (ho : 1 ≤ ov ∧ ov ≤ 6000) (k : Nat) :
    phase_Step.f (k + 4) am re en a3 a4 op ov a7 a8 a9 p s c u bD bU bX bY ob = some (stepP am re en op ov p s c u bD bU bX bY ob) := by
  simp only [phase_Step.f, next_eq _ _ _ _ _ _ _ _ _ _ _ _ _ _ _ _ _ _ _ he ho, Option.bind_some, stepP]
  by_cases h : nextP am re en op ov p s c u bD bU bX bY ob = -1
  · rw [if_pos h, if_pos h]
  · rw [if_neg h, if_neg h]
    obtain ⟨h1, h2⟩ := next_mem _ _ _ _ _ _ _ _ _ _ _ _ _ _ h
    simp only [phase_Enter.f]
    rw [if_neg (by omega), if_neg (by omega)]
    rfl

theorem step_ev (am re en a3 a4 op ov a7 a8 a9 p s : Int) (c u bD bU bX bY ob : Bool) (he : 1 ≤ en ∧ en ≤ 6000) (ho : 1 ≤ ov ∧ ov ≤ 6000) :
    Ev (fun k => phase_Step.f k am re en a3 a4 op ov a7 a8 a9 p s c u bD bU bX bY ob) (stepP am re en op ov p s c u bD bU bX bY ob) :=
  Ev.later 4 fun k => step_eq _ _ _ _ _ _ _ _ _ _ _ _ _ _ _ _ _ _ _ he ho k

theorem few_l0 (l : List Int) : ∀ (d : Nat) (i : Int), 0 ≤ i → i + d = l.length → (l.length : Int) ≤ 1000 → ∃ b, Ev (fun k => crossbucklaw20_Few.l0 k l i) b ∧ (b = true → ∀ j : Nat, i ≤ j → j < l.length → 1 ≤ rd l j ∧ rd l j ≤ 6000)
  | 0, i, h0, h1, _ => ⟨true, Ev.step (f := fun _ => some true) (fun k => by simp only [crossbucklaw20_Few.l0]; rw [if_neg (by omega)]) (Ev.now true), fun _ j h2 h3 => by omega⟩
  | d + 1, i, h0, h1, hl => by
    by_cases g1 : rd l i < 1
    · exact ⟨false, Ev.step (f := fun _ => some false) (fun k => by simp only [crossbucklaw20_Few.l0]; rw [if_pos (by omega), if_pos h0, if_pos g1]) (Ev.now false), fun h => by cases h⟩
    · by_cases g2 : rd l i > 6000
      · exact ⟨false, Ev.step (f := fun _ => some false) (fun k => by simp only [crossbucklaw20_Few.l0]; rw [if_pos (by omega), if_pos h0, if_neg g1, if_pos g2]) (Ev.now false), fun h => by cases h⟩
      · obtain ⟨b, hb, hall⟩ := few_l0 l d (i + 1) (by omega) (by omega) hl
        have e : wrap64 (i + 1) = i + 1 := by unfold wrap64; omega
        refine ⟨b, Ev.step (f := fun k => crossbucklaw20_Few.l0 k l (i + 1)) (fun k => by simp only [crossbucklaw20_Few.l0]; rw [if_pos (by omega), if_pos h0, if_neg g1, if_neg g2, e]) hb, fun h j h2 h3 => ?_⟩
        by_cases hj : (j : Int) = i
        · rw [hj]; omega
        · exact hall h j (by omega) h3

/-- The times are from 1 to 6000, or the law's own guard lets them out. -/
theorem few_ev (a0 a1 a2 a3 a4 a5 a6 a7 a8 a9 : Int) : ∃ b, Ev (fun k => crossbucklaw20_Few.f k a0 a1 a2 a3 a4 a5 a6 a7 a8 a9) b ∧
    (b = true → (1 ≤ a0 ∧ a0 ≤ 6000) ∧ (1 ≤ a1 ∧ a1 ≤ 6000) ∧ (1 ≤ a2 ∧ a2 ≤ 6000) ∧ (1 ≤ a5 ∧ a5 ≤ 6000) ∧ (1 ≤ a6 ∧ a6 ≤ 6000)) := by
  obtain ⟨b, hb, h⟩ := few_l0 [a0, a1, a2, a3, a4, a5, a6, a7, a8, a9] 10 0 (by omega) (by simp) (by simp)
  refine ⟨b, Ev.congr (fun k => by simp only [crossbucklaw20_Few.f]) hb, fun hbt => ?_⟩
  have h := h hbt
  exact ⟨h 0 (by omega) (by simp), h 1 (by omega) (by simp), h 2 (by omega) (by simp), h 5 (by omega) (by simp), h 6 (by omega) (by simp)⟩
theorem lights_eq (p s : Int) : phase_Lights.f p s = some (phaseOf p == 1, decide (1 < phaseOf p), decide (0 < phaseOf p) && phaseOf p != 5 && phaseOf p != 6, phaseOf p == 4 || phaseOf p == 5 || phaseOf p == 7 || phaseOf p == 3, phaseOf p == 4 || phaseOf p == 5 || phaseOf p == 7) := rfl

def up (s : Int) : Int := (mn (mx s 0) 1073741823) + 1
theorem up_eq (s : Int) (h : 0 ≤ s ∧ s ≤ 1000) : up s = s + 1 := by
  unfold up mn mx
  (repeat' split) <;> omega

/-- Each way a step may go, from a phase that is not the failed one. -/
theorem step_cases (am re en op ov p s : Int) (c u bD bU bX bY ob : Bool) (h : 0 ≤ p ∧ p ≤ 6) :
    (p = 0 ∧ ((stepP am re en op ov p s c u bD bU bX bY ob = (1, 1) ∧ (u = true ∨ (c = true ∧ op ≤ s))) ∨ stepP am re en op ov p s c u bD bU bX bY ob = (0, up s))) ∨
    (p = 1 ∧ (stepP am re en op ov p s c u bD bU bX bY ob = (6, 1) ∨ (stepP am re en op ov p s c u bD bU bX bY ob = (2, 1) ∧ am ≤ s) ∨ stepP am re en op ov p s c u bD bU bX bY ob = (1, up s))) ∨
    (p = 2 ∧ (stepP am re en op ov p s c u bD bU bX bY ob = (6, 1) ∨ (stepP am re en op ov p s c u bD bU bX bY ob = (3, 1) ∧ re ≤ s) ∨ stepP am re en op ov p s c u bD bU bX bY ob = (2, up s))) ∨
    (p = 3 ∧ (stepP am re en op ov p s c u bD bU bX bY ob = (6, 1) ∨ (stepP am re en op ov p s c u bD bU bX bY ob = (4, 1) ∧ en ≤ s ∧ (ob = false ∨ en + ov ≤ s)) ∨ stepP am re en op ov p s c u bD bU bX bY ob = (3, up s))) ∨
    (p = 4 ∧ (stepP am re en op ov p s c u bD bU bX bY ob = (6, 1) ∨ stepP am re en op ov p s c u bD bU bX bY ob = (5, 1) ∨ stepP am re en op ov p s c u bD bU bX bY ob = (4, up s))) ∨
    (p = 5 ∧ (stepP am re en op ov p s c u bD bU bX bY ob = (6, 1) ∨ stepP am re en op ov p s c u bD bU bX bY ob = (5, up s))) ∨
    (p = 6 ∧ (stepP am re en op ov p s c u bD bU bX bY ob = (1, 1) ∨ stepP am re en op ov p s c u bD bU bX bY ob = (0, 1) ∨ stepP am re en op ov p s c u bD bU bX bY ob = (6, up s))) := by
  have hc : p = 0 ∨ p = 1 ∨ p = 2 ∨ p = 3 ∨ p = 4 ∨ p = 5 ∨ p = 6 := by omega
  rcases hc with rfl | rfl | rfl | rfl | rfl | rfl | rfl
  · refine .inl ⟨rfl, ?_⟩
    by_cases g : u = true ∨ (c = true ∧ op ≤ s)
    · exact .inl ⟨by simp [stepP, nextP, g], g⟩
    · exact .inr (by simp [stepP, nextP, g, up])
  · refine .inr (.inl ⟨rfl, ?_⟩)
    cases c
    · exact .inl (by simp [stepP, nextP])
    · by_cases g : am ≤ s
      · exact .inr (.inl ⟨by simp [stepP, nextP, shutP, g], g⟩)
      · exact .inr (.inr (by simp [stepP, nextP, shutP, g, up]))
  · refine .inr (.inr (.inl ⟨rfl, ?_⟩))
    cases c
    · exact .inl (by simp [stepP, nextP])
    · by_cases g : re ≤ s
      · exact .inr (.inl ⟨by simp [stepP, nextP, shutP, g], g⟩)
      · exact .inr (.inr (by simp [stepP, nextP, shutP, g, up]))
  · refine .inr (.inr (.inr (.inl ⟨rfl, ?_⟩)))
    cases c
    · exact .inl (by simp [stepP, nextP])
    · by_cases g : en ≤ s ∧ (ob = false ∨ en + ov ≤ s)
      · exact .inr (.inl ⟨by simp [stepP, nextP, shutP, g], g⟩)
      · exact .inr (.inr (by simp [stepP, nextP, shutP, g, up]))
  · refine .inr (.inr (.inr (.inr (.inl ⟨rfl, ?_⟩))))
    cases c
    · exact .inl (by simp [stepP, nextP])
    · by_cases g : bD = true ∧ bX = true
      · exact .inr (.inl (by simp [stepP, nextP, shutP, g]))
      · exact .inr (.inr (by simp [stepP, nextP, shutP, g, up]))
  · refine .inr (.inr (.inr (.inr (.inr (.inl ⟨rfl, ?_⟩)))))
    cases c
    · exact .inl (by simp [stepP, nextP])
    · exact .inr (by simp [stepP, nextP, shutP, up])
  · refine .inr (.inr (.inr (.inr (.inr (.inr ⟨rfl, ?_⟩)))))
    cases u
    · by_cases g : bU = true ∧ bY = true
      · exact .inr (.inl (by simp [stepP, nextP, g]))
      · exact .inr (.inr (by simp [stepP, nextP, g, up]))
    · exact .inl (by simp [stepP, nextP])
theorem L0 (s : Int) : phase_Lights.f 0 s = some (false, false, false, false, false) := rfl
theorem L1 (s : Int) : phase_Lights.f 1 s = some (true, false, true, false, false) := rfl
theorem L2 (s : Int) : phase_Lights.f 2 s = some (false, true, true, false, false) := rfl
theorem L3 (s : Int) : phase_Lights.f 3 s = some (false, true, true, true, false) := rfl
theorem L4 (s : Int) : phase_Lights.f 4 s = some (false, true, true, true, true) := rfl
theorem L5 (s : Int) : phase_Lights.f 5 s = some (false, true, false, true, true) := rfl
theorem L6 (s : Int) : phase_Lights.f 6 s = some (false, true, false, false, false) := rfl
end Go.Proofs.Ytngmjmcamkfopaa.Pure
