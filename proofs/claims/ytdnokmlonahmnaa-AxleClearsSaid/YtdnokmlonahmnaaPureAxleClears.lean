/- The plain law of AxleClears, over numbers and lists. -/
import Derived.Test.YtdnokmlonahmnaaAx10
import Derived.OpenShut
namespace Go.Proofs.Ytdnokmlonahmnaa.Pure
open Go.RowKit Go.Proofs.Ytdnokmlonahmnaa.A Go.Proofs.YtdnokmlonahmnaaW.PrintWords Go.Proofs.YtdnokmlonahmnaaW.PrintLast
set_option linter.unusedVariables false
set_option linter.unusedSimpArgs false
theorem small_true : crossbucklaw11_small.f = some true := rfl
theorem on_eq (h : Bool) (i o : Int) (x : Bool) : axle_On.f h i o x = some ((i - o) % 256) := by
  unfold axle_On.f axle_ahead.f
  simp only [Option.bind_some, Option.some.injEq]
  omega
theorem clear_eq (h : Bool) (i o : Int) (x : Bool) : axle_Clear.f h i o x = some (h && !x && ((i - o) % 256 == 0)) := by
  unfold axle_Clear.f
  rw [on_eq]
  cases h <;> cases x <;> simp
theorem step_eq (h : Bool) (i o : Int) (x : Bool) (a b : Int) (r : Bool) (hr : (x || (h && (decide (64 < (a - i) % 256) || decide (64 < (b - o) % 256))) || decide (128 ≤ (a - b) % 256)) = r) :
    axle_Step.f h i o x a b = some (true, a % 256, b % 256, r) := by
  subst hr
  rfl

/-- Is a counter as it was, or on by so many? -/
def Or (i s n : Int) : Prop := i % 256 = s % 256 ∨ i % 256 = (s + n) % 256

theorem loop1 (s n p t : Int) (hn : 1 ≤ n ∧ n ≤ 64) (hp : 0 ≤ p ∧ p < n) (ht : 1 ≤ t ∧ t ≤ 50) : ∀ (d : Nat) (j i o : Int), 0 ≤ j → j ≤ t → t - j = d → Or i s n → Or o s p →
    Ev (fun k => crossbucklaw11_AxleClears.l1 k s n p t true j true i o false) true := by
  intro d
  induction d with
  | zero =>
    intro j i o h0 h1 hd hi ho
    refine Ev.step (f := fun _ => some true) (fun k => ?_) (Ev.now true)
    simp only [crossbucklaw11_AxleClears.l1]
    rw [if_neg (by omega), step_eq true i o false _ _ false (by
      have e1 : decide (64 < (wrap64 (s + n) - i) % 256) = false := decide_eq_false (by unfold wrap64; unfold Or at hi; omega)
      have e2 : decide (64 < (wrap64 (s + n) - o) % 256) = false := decide_eq_false (by unfold wrap64; unfold Or at ho; omega)
      have e3 : decide (128 ≤ (wrap64 (s + n) - wrap64 (s + n)) % 256) = false := decide_eq_false (by omega)
      rw [e1, e2, e3]; rfl)]
    simp only [Option.bind_some]
    rw [if_pos trivial, clear_eq]
    simp
  | succ d ih =>
    intro j i o h0 h1 hd hi ho
    have e0 : wrap64 (j + 1) = j + 1 := by unfold wrap64; omega
    refine Ev.step (f := fun k => crossbucklaw11_AxleClears.l1 k s n p t true (j + 1) true (wrap64 (s + n) % 256) (wrap64 (s + p) % 256) false) (fun k => ?_)
      (ih (j + 1) _ _ (by omega) (by omega) (by omega) (.inr (by unfold wrap64; omega)) (.inr (by unfold wrap64; omega)))
    simp only [crossbucklaw11_AxleClears.l1]
    rw [if_pos (by omega), step_eq true i o false _ _ false (by
      have e1 : decide (64 < (wrap64 (s + n) - i) % 256) = false := decide_eq_false (by unfold wrap64; unfold Or at hi; omega)
      have e2 : decide (64 < (wrap64 (s + p) - o) % 256) = false := decide_eq_false (by unfold wrap64; unfold Or at ho; omega)
      have e3 : decide (128 ≤ (wrap64 (s + n) - wrap64 (s + p)) % 256) = false := decide_eq_false (by unfold wrap64; omega)
      rw [e1, e2, e3]; rfl)]
    simp only [Option.bind_some]
    rw [clear_eq, on_eq]
    have e4 : ((wrap64 (s + n) % 256 - wrap64 (s + p) % 256) % 256 == 0) = false := beq_eq_false_iff_ne.2 (by unfold wrap64; omega)
    rw [e4]
    simp only [Option.bind_some, Bool.and_false, Bool.false_eq_true, if_false]
    rw [if_pos (by unfold wrap64; omega), e0]

theorem loop0 (s n p t : Int) (hn : 1 ≤ n ∧ n ≤ 64) (hp : 0 ≤ p ∧ p < n) (ht : 1 ≤ t ∧ t ≤ 50) : ∀ (d : Nat) (j i o : Int), 0 ≤ j → j ≤ t → t - j = d → Or i s n → o % 256 = s % 256 →
    Ev (fun k => crossbucklaw11_AxleClears.l0 k s n p t true j true i o false) true := by
  intro d
  induction d with
  | zero =>
    intro j i o h0 h1 hd hi ho
    refine Ev.step (f := fun k => crossbucklaw11_AxleClears.l1 k s n p t true 0 true i o false) (fun k => ?_) (loop1 s n p t hn hp ht t.toNat 0 i o (by omega) (by omega) (by omega) hi (.inl ho))
    simp only [crossbucklaw11_AxleClears.l0]
    rw [if_neg (by omega)]
  | succ d ih =>
    intro j i o h0 h1 hd hi ho
    have e0 : wrap64 (j + 1) = j + 1 := by unfold wrap64; omega
    refine Ev.step (f := fun k => crossbucklaw11_AxleClears.l0 k s n p t true (j + 1) true (wrap64 (s + n) % 256) (s % 256) false) (fun k => ?_)
      (ih (j + 1) _ _ (by omega) (by omega) (by omega) (.inr (by unfold wrap64; omega)) (by omega))
    simp only [crossbucklaw11_AxleClears.l0]
    rw [if_pos (by omega), step_eq true i o false _ _ false (by
      have e1 : decide (64 < (wrap64 (s + n) - i) % 256) = false := decide_eq_false (by unfold wrap64; unfold Or at hi; omega)
      have e2 : decide (64 < (s - o) % 256) = false := decide_eq_false (by omega)
      have e3 : decide (128 ≤ (wrap64 (s + n) - s) % 256) = false := decide_eq_false (by unfold wrap64; omega)
      rw [e1, e2, e3]; rfl)]
    simp only [Option.bind_some]
    rw [clear_eq, on_eq]
    have e4 : ((wrap64 (s + n) % 256 - s % 256) % 256 == 0) = false := beq_eq_false_iff_ne.2 (by unfold wrap64; omega)
    rw [e4]
    simp only [Option.bind_some, Bool.and_false, Bool.false_eq_true, if_false]
    rw [if_pos (by unfold wrap64; omega), e0]

theorem AxleClears : ∀ (a0 : Int) (a1 : Int) (a2 : Int) (a3 : Int), (Lit.int .i64 a0).wf = true → (Lit.int .i64 a1).wf = true → (Lit.int .i64 a2).wf = true → (Lit.int .i64 a3).wf = true → ∃ k, crossbucklaw11_AxleClears.f k a0 a1 a2 a3 = some true := by
  intro s n p t _ _ _ _
  refine Ev.rounds ?_
  have out : ∀ k b, b = true → crossbucklaw11_AxleClears.j0 (k + 1) s n p t true b = some true := fun k b hb => by subst hb; simp [crossbucklaw11_AxleClears.j0]
  have main : Ev (fun k => crossbucklaw11_AxleClears.f (k + 1) s n p t) true := by
    by_cases g : n < 1 ∨ n > 64 ∨ p < 0 ∨ p ≥ n ∨ t < 1 ∨ t > 50
    · refine Ev.congr (f := fun _ => some true) (fun k => ?_) (Ev.now true)
      unfold crossbucklaw11_AxleClears.f
      rw [small_true]; simp only [Option.bind_some]
      by_cases g1 : n < 1
      · rw [if_pos g1]; exact out _ _ rfl
      · rw [if_neg g1]
        by_cases g2 : n > 64
        · rw [if_pos g2]; exact out _ _ rfl
        · rw [if_neg g2]
          by_cases g3 : p < 0
          · rw [if_pos g3]; exact out _ _ rfl
          · rw [if_neg g3]
            by_cases g4 : p ≥ n
            · rw [if_pos g4]; exact out _ _ rfl
            · rw [if_neg g4]
              by_cases g5 : t < 1
              · rw [if_pos g5]; exact out _ _ rfl
              · rw [if_neg g5]; exact out _ _ (decide_eq_true (by omega))
    · refine Ev.congr (f := fun k => crossbucklaw11_AxleClears.l0 k s n p t true 0 true (s % 256) (s % 256) false) (fun k => ?_) (loop0 s n p t (by omega) (by omega) (by omega) t.toNat 0 _ _ (by omega) (by omega) (by omega) (.inl (by omega)) (by omega))
      unfold crossbucklaw11_AxleClears.f
      rw [small_true]; simp only [Option.bind_some]
      rw [if_neg (by omega), if_neg (by omega), if_neg (by omega), if_neg (by omega), if_neg (by omega), decide_eq_false (by omega)]
      simp only [crossbucklaw11_AxleClears.j0]
      rw [if_neg (by decide), step_eq false 0 0 false s s false (by simp)]
      simp only [Option.bind_some]
      rw [clear_eq]
      simp
  obtain ⟨K, hK⟩ := main
  exact ⟨K + 1, fun k hk => by obtain ⟨j, rfl⟩ : ∃ j, k = j + 1 := ⟨k - 1, by omega⟩; exact hK j (by omega)⟩

end Go.Proofs.Ytdnokmlonahmnaa.Pure
