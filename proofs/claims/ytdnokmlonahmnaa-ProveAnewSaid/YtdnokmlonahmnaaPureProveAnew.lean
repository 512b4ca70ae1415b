/- The plain law of ProveAnew, over numbers and lists. -/
import Derived.Test.YtdnokmlonahmnaaAx5
import Derived.OpenShut
namespace Go.Proofs.Ytdnokmlonahmnaa.Pure
open Go.RowKit Go.Proofs.Ytdnokmlonahmnaa.A Go.Proofs.YtdnokmlonahmnaaW.PrintWords Go.Proofs.YtdnokmlonahmnaaW.PrintLast
set_option linter.unusedVariables false
set_option linter.unusedSimpArgs false
theorem small_true : crossbucklaw18_small.f = some true := by decide +kernel

/-- What a step counts. -/
def stepS (n : Int) (down : Bool) (least : Int) : Int := if down then (if (if n < 0 then 0 else n) < (if least < 1 then 1 else least) - 1 then (if n < 0 then 0 else n) else (if least < 1 then 1 else least) - 1) + 1 else 0

theorem step_eq (n : Int) (e x d y : Bool) (least : Int) (hn : -9223372036854775808 ≤ n ∧ n ≤ 9223372036854775807) (hl : -9223372036854775808 ≤ least ∧ least ≤ 9223372036854775807) :
    prove_Step.f n e x d y least = some (stepS n (e && d) least) := by
  unfold prove_Step.f prove_Down.f stepS
  cases e <;> cases d <;> simp only [Bool.and_true, Bool.and_false, Bool.false_and, Bool.true_and, if_true, Option.bind_some, Bool.false_eq_true, if_false]
  congr 1
  unfold mn mx wrap64
  (repeat' split) <;> omega

theorem proved_eq (n least : Int) : prove_Proved.f n least = some (decide ((if least < 1 then 1 else least) ≤ n)) := by
  unfold prove_Proved.f mx
  rfl

theorem loop (least n : Int) (hl : 1 ≤ least ∧ least ≤ 9223372036854775807) (hn : 0 ≤ n ∧ n ≤ 300) : ∀ (d : Nat) (i c : Int), 0 ≤ i → i ≤ n → n - i = d → c = (if i < least then i else least) →
    Ev (fun k => crossbucklaw18_ProveAnew.l0 k n least true c i) true := by
  intro d
  induction d with
  | zero =>
    intro i c h0 h1 hd hc
    refine Ev.step (f := fun _ => some true) (fun k => ?_) (Ev.now true)
    simp only [crossbucklaw18_ProveAnew.l0]
    rw [if_neg (by omega), if_pos trivial, if_pos (by unfold mn; subst hc; (repeat' split) <;> omega), proved_eq]
    subst hc
    have : i = n := by omega
    subst this
    simp only [Option.bind_some, Option.some.injEq, beq_iff_eq]
    rw [decide_eq_decide]
    (repeat' split) <;> omega
  | succ d ih =>
    intro i c h0 h1 hd hc
    refine Ev.step (f := fun k => crossbucklaw18_ProveAnew.l0 k n least true (if i + 1 < least then i + 1 else least) (i + 1)) (fun k => ?_) (ih (i + 1) _ (by omega) (by omega) (by omega) rfl)
    simp only [crossbucklaw18_ProveAnew.l0]
    rw [if_pos (by omega), step_eq _ _ _ _ _ _ (by subst hc; split <;> omega) (by omega)]
    simp only [Option.bind_some]
    have e1 : wrap64 (i + 1) = i + 1 := by unfold wrap64; omega
    have e2 : stepS c (true && true) least = (if i + 1 < least then i + 1 else least) := by
      unfold stepS
      subst hc
      simp only [Bool.and_self, if_true]
      (repeat' split) <;> omega
    rw [e1, e2]

theorem ProveAnew : ∀ (a0 : Int) (a1_0 : Bool) (a1_1 : Bool) (a1_2 : Bool) (a1_3 : Bool) (a2 : Int) (a3 : Int), (Lit.int .i64 a0).wf = true → (Lit.int .i64 a2).wf = true → (Lit.int .i64 a3).wf = true → ∃ k, crossbucklaw18_ProveAnew.f k a0 a1_0 a1_1 a1_2 a1_3 a2 a3 = some true := by
  intro c e x d y n least w0 w2 w3
  have hc := bounds_i64 w0
  have hn := bounds_i64 w2
  have hl := bounds_i64 w3
  refine Ev.rounds ?_
  have j0t : ∀ k b, crossbucklaw18_ProveAnew.j0 (k + 1) c n least true true b x d y = some true := fun k b => by simp [crossbucklaw18_ProveAnew.j0]
  by_cases g : (e = true ∧ d = true) ∨ n < 0 ∨ 300 < n ∨ least < 1
  · refine Ev.step (g := fun k => crossbucklaw18_ProveAnew.f k c e x d y n least) (f := fun _ => some true) (fun k => ?_) (Ev.now true)
    unfold crossbucklaw18_ProveAnew.f
    rw [small_true]
    simp only [Option.bind_some]
    have j : ∀ b, b = true → crossbucklaw18_ProveAnew.j0 (k + 1) c n least true b e x d y = some true := fun b hb => by subst hb; simp [crossbucklaw18_ProveAnew.j0]
    by_cases h1 : e = true
    · rw [if_pos h1]
      by_cases h2 : d = true
      · rw [if_pos h2]; exact j _ rfl
      · rw [if_neg h2]
        by_cases h3 : n < 0
        · rw [if_pos h3]; exact j _ rfl
        · rw [if_neg h3]
          by_cases h4 : n > 300
          · rw [if_pos h4]; exact j _ rfl
          · rw [if_neg h4]; exact j _ (by rw [decide_eq_true_eq]; rcases g with ⟨_, g⟩ | g | g | g <;> first | contradiction | omega)
    · rw [if_neg h1]
      by_cases h3 : n < 0
      · rw [if_pos h3]; exact j _ rfl
      · rw [if_neg h3]
        by_cases h4 : n > 300
        · rw [if_pos h4]; exact j _ rfl
        · rw [if_neg h4]; exact j _ (by rw [decide_eq_true_eq]; rcases g with ⟨g, _⟩ | g | g | g <;> first | contradiction | omega)
  · have g1 : (e && d) = false := by
      cases e <;> cases d <;> first | rfl | exact absurd (.inl ⟨rfl, rfl⟩) g
    have g2 : 0 ≤ n ∧ n ≤ 300 ∧ 1 ≤ least := by
      refine ⟨?_, ?_, ?_⟩
      · by_cases h : n < 0
        · exact absurd (.inr (.inl h)) g
        · omega
      · by_cases h : 300 < n
        · exact absurd (.inr (.inr (.inl h))) g
        · omega
      · by_cases h : least < 1
        · exact absurd (.inr (.inr (.inr h))) g
        · omega
    have hs : stepS c (e && d) least = 0 := by rw [g1]; rfl
    have main : Ev (fun k => crossbucklaw18_ProveAnew.j0 k c n least true false e x d y) true := by
      refine Ev.step (f := fun k => crossbucklaw18_ProveAnew.j1 k n least true 0 false) (fun k => ?_) ?_
      · simp only [crossbucklaw18_ProveAnew.j0]
        rw [if_neg (by decide), step_eq _ _ _ _ _ _ hc hl, hs]
        simp only [Option.bind_some]
        rw [if_pos trivial, proved_eq]
        simp only [Option.bind_some]
        rw [show decide ((if least < 1 then 1 else least) ≤ 0) = false from decide_eq_false (by split <;> omega)]
      · refine Ev.step (f := fun k => crossbucklaw18_ProveAnew.l0 k n least true 0 0) (fun k => ?_) (loop least n ⟨g2.2.2, hl.2⟩ ⟨g2.1, g2.2.1⟩ n.toNat 0 0 (by omega) g2.1 (by omega) (by split <;> omega))
        simp [crossbucklaw18_ProveAnew.j1]
    refine Ev.congr (fun k => ?_) main
    unfold crossbucklaw18_ProveAnew.f
    rw [small_true]
    simp only [Option.bind_some]
    have hd : decide (least < 1) = false := decide_eq_false (by omega)
    simp only [if_neg (show ¬ (n < 0) by omega), if_neg (show ¬ (n > 300) by omega), hd]
    cases e <;> cases d <;> first | (exact absurd g1 (by decide)) | simp

end Go.Proofs.Ytdnokmlonahmnaa.Pure
