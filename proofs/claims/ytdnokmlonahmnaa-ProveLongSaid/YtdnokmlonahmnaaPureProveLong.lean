/- The plain law of ProveLong, over numbers and lists. -/
import Derived.Test.YtdnokmlonahmnaaAx4
import Derived.OpenShut
namespace Go.Proofs.Ytdnokmlonahmnaa.Pure
open Go.RowKit Go.Proofs.Ytdnokmlonahmnaa.A Go.Proofs.YtdnokmlonahmnaaW.PrintWords Go.Proofs.YtdnokmlonahmnaaW.PrintLast
set_option linter.unusedVariables false
set_option linter.unusedSimpArgs false
theorem small_true : crossbucklaw18_small.f = some true := by decide +kernel

/-- What a step counts. -/
def stepS (n : Int) (down : Bool) (least : Int) : Int := if down then (if (if n < 0 then 0 else n) < (if least < 1 then 1 else least) - 1 then (if n < 0 then 0 else n) else (if least < 1 then 1 else least) - 1) + 1 else 0

theorem step_eq (n : Int) (e x d y : Bool) (least : Int) (hn : -9223372036854775808 ≤ n ∧ n ≤ 9223372036854775807) (hl : -9223372036854775808 ≤ least ∧ least ≤ 9223372036854775807) :
    prove_Step.f n e x d y least = some (stepS n (e && d) least) := by
  unfold prove_Step.f prove_Down.f stepS
  cases e <;> cases d <;> simp only [Bool.and_true, Bool.and_false, Bool.false_and, Bool.true_and, if_true, Option.bind_some, Bool.false_eq_true, if_false]
  congr 1
  unfold mn mx wrap64
  (repeat' split) <;> omega

theorem proved_eq (n least : Int) : prove_Proved.f n least = some (decide ((if least < 1 then 1 else least) ≤ n)) := by
  unfold prove_Proved.f mx
  rfl

/-- Whether the barriers were down, at a place. -/
def dn (l : List S23) (i : Int) : Bool := (rd_T23 l i).f0 && (rd_T23 l i).f2

theorem inner (l : List S23) (least n i : Int) (hl : 1 ≤ least ∧ least ≤ 9223372036854775807) (hi : 0 ≤ i ∧ i < l.length ∧ (l.length : Int) ≤ 300) (hn : n ≤ least)
    (rest : Ev (fun k => crossbucklaw18_ProveLong.l0 k l least true n (i + 1)) true) : ∀ (d : Nat) (x : Bool) (j : Int), 0 ≤ j → j ≤ i + 1 → i + 1 - j = d →
      (least ≤ n ↔ (x = true ∧ ∀ q, j ≤ q → q < least → q ≤ i → dn l (i - q) = true)) →
      Ev (fun k => crossbucklaw18_ProveLong.l1 k l least true n i x j) true := by
  have ends : ∀ (x : Bool) (j : Int), 0 ≤ j → (¬ j < least ∨ ¬ j ≤ i) → (least ≤ n ↔ x = true) → Ev (fun k => crossbucklaw18_ProveLong.l1 k l least true n i x j) true := by
    intro x j h0 hj hx
    refine Ev.step (f := fun k => crossbucklaw18_ProveLong.l0 k l least true n (i + 1)) (fun k => ?_) rest
    simp only [crossbucklaw18_ProveLong.l1]
    have e1 : wrap64 (i + 1) = i + 1 := by unfold wrap64; omega
    have e2 : ((decide ((if least < 1 then 1 else least) ≤ n)) != x) = false := by
      rw [if_neg (by omega)]
      cases x
      · simp at hx ⊢; omega
      · simp at hx ⊢; omega
    by_cases h1 : j < least
    · rw [if_pos h1, if_neg (by omega), proved_eq]
      simp only [Option.bind_some]
      rw [if_neg (by rw [e2]; decide), e1]
    · rw [if_neg h1, proved_eq]
      simp only [Option.bind_some]
      rw [if_neg (by rw [e2]; decide), e1]
  intro d
  induction d with
  | zero =>
    intro x j h0 h1 hd hx
    refine ends x j h0 (.inr (by omega)) (hx.trans ⟨fun h => h.1, fun h => ⟨h, fun q h1 h2 h3 => by omega⟩⟩)
  | succ d ih =>
    intro x j h0 h1 hd hx
    by_cases g1 : j < least
    · have g2 : j ≤ i := by omega
      have e1 : wrap64 (j + 1) = j + 1 := by unfold wrap64; omega
      have e2 : wrap64 (i - j) = i - j := by unfold wrap64; omega
      have hx' : least ≤ n ↔ ((x && dn l (i - j)) = true ∧ ∀ q, j + 1 ≤ q → q < least → q ≤ i → dn l (i - q) = true) := by
        rw [hx]
        constructor
        · rintro ⟨a, b⟩
          exact ⟨by rw [a, b j (by omega) g1 g2]; rfl, fun q h1 h2 h3 => b q (by omega) h2 h3⟩
        · rintro ⟨a, b⟩
          rw [Bool.and_eq_true] at a
          refine ⟨a.1, fun q h1 h2 h3 => ?_⟩
          by_cases hq : q = j
          · subst hq; exact a.2
          · exact b q (by omega) h2 h3
      refine Ev.step (f := fun k => crossbucklaw18_ProveLong.l1 k l least true n i (x && dn l (i - j)) (j + 1)) (fun k => ?_) (ih _ (j + 1) (by omega) (by omega) (by omega) hx')
      simp only [crossbucklaw18_ProveLong.l1]
      rw [if_pos g1, if_pos g2, e1, e2]
      cases x
      · simp
      · rw [if_pos rfl, if_pos (by omega), if_pos (by omega)]
        unfold dn
        cases h3 : (rd_T23 l (i - j)).f0 <;> simp
    · exact ends x j h0 (.inl g1) (hx.trans ⟨fun h => h.1, fun h => ⟨h, fun q h1 h2 h3 => by omega⟩⟩)

/-- What the count tells: for how many ticks, least at most, the barriers were down. -/
def Tells (l : List S23) (least i n : Int) : Prop := 0 ≤ n ∧ n ≤ least ∧ n ≤ i ∧ (∀ q, 0 ≤ q → q < n → dn l (i - 1 - q) = true) ∧ (n < least → n = i ∨ dn l (i - 1 - n) = false)

theorem tells_step (l : List S23) (least i n : Int) (hl : 1 ≤ least) (hi : 0 ≤ i) (h : Tells l least i n) : Tells l least (i + 1) (stepS n (dn l i) least) := by
  obtain ⟨h0, h1, h2, h3, h4⟩ := h
  unfold stepS
  cases hd : dn l i
  · simp only [Bool.false_eq_true, if_false]
    exact ⟨by omega, by omega, by omega, fun q h5 h6 => by omega, fun _ => .inr (by rw [show i + 1 - 1 - 0 = i by omega]; exact hd)⟩
  · simp only [if_true]
    rw [if_neg (show ¬ n < 0 by omega), if_neg (show ¬ least < 1 by omega)]
    have key : ∀ q, 0 ≤ q → q < n + 1 → dn l (i + 1 - 1 - q) = true := fun q h5 h6 => by
      by_cases hq : q = 0
      · subst hq; rw [show i + 1 - 1 - 0 = i by omega]; exact hd
      · have := h3 (q - 1) (by omega) (by omega)
        rwa [show i - 1 - (q - 1) = i + 1 - 1 - q by omega] at this
    by_cases g : n < least - 1
    · rw [if_pos g]
      refine ⟨by omega, by omega, by omega, key, fun _ => ?_⟩
      rcases h4 (by omega) with h5 | h5
      · exact .inl (by omega)
      · right; rwa [show i + 1 - 1 - (n + 1) = i - 1 - n by omega]
    · rw [if_neg g]
      exact ⟨by omega, by omega, by omega, fun q h5 h6 => key q h5 (by omega), fun h5 => by omega⟩

theorem loop (l : List S23) (least : Int) (hl : 1 ≤ least ∧ least ≤ 9223372036854775807) (hlen : (l.length : Int) ≤ 300) : ∀ (d : Nat) (i n : Int), 0 ≤ i → i ≤ l.length → (l.length : Int) - i = d → Tells l least i n →
    Ev (fun k => crossbucklaw18_ProveLong.l0 k l least true n i) true := by
  intro d
  induction d with
  | zero =>
    intro i n h0 h1 hd ht
    refine Ev.step (f := fun _ => some true) (fun k => ?_) (Ev.now true)
    simp only [crossbucklaw18_ProveLong.l0]
    rw [if_neg (by omega)]
  | succ d ih =>
    intro i n h0 h1 hd ht
    have ht' := tells_step l least i n hl.1 h0 ht
    have hrest := ih (i + 1) _ (by omega) (by omega) (by omega) ht'
    have e1 : wrap64 (i + 1) = i + 1 := by unfold wrap64; omega
    refine Ev.step (f := fun k => crossbucklaw18_ProveLong.l1 k l least true (stepS n (dn l i) least) i (decide (least ≤ i + 1)) 0) (fun k => ?_)
      (inner l least _ i hl ⟨h0, by omega, hlen⟩ ht'.2.1 hrest (i + 1).toNat _ 0 (by omega) (by omega) (by omega) ?_)
    · simp only [crossbucklaw18_ProveLong.l0]
      rw [if_pos (by omega), if_pos h0, step_eq _ _ _ _ _ _ (by obtain ⟨a, b, c, _⟩ := ht; omega) (by omega), e1]
      rfl
    · obtain ⟨h2, h3, h4, h5, h6⟩ := ht'
      rw [decide_eq_true_eq]
      constructor
      · intro h
        refine ⟨by omega, fun q h7 h8 h9 => ?_⟩
        have := h5 q h7 (by omega)
        rwa [show i + 1 - 1 - q = i - q by omega] at this
      · rintro ⟨h7, h8⟩
        by_cases h9 : stepS n (dn l i) least < least
        · rcases h6 h9 with h10 | h10
          · omega
          · have := h8 (stepS n (dn l i) least) h2 h9 (by omega)
            rw [show i + 1 - 1 - stepS n (dn l i) least = i - stepS n (dn l i) least by omega, this] at h10
            cases h10
        · omega

theorem ProveLong : ∀ (l0 : List S23) (a1 : Int), (Lit.int .i64 a1).wf = true → ∃ k, crossbucklaw18_ProveLong.f k l0 a1 = some true := by
  intro l least w1
  have h1 := bounds_i64 w1
  refine Ev.rounds ?_
  have main : Ev (fun k => crossbucklaw18_ProveLong.f (k + 1) l least) true := by
    by_cases g1 : (l.length : Int) > 300
    · refine Ev.congr (f := fun _ => some true) (fun k => ?_) (Ev.now true)
      unfold crossbucklaw18_ProveLong.f
      rw [small_true]; simp only [Option.bind_some]; rw [if_pos g1]; simp [crossbucklaw18_ProveLong.j0]
    · by_cases g2 : least < 1
      · refine Ev.congr (f := fun _ => some true) (fun k => ?_) (Ev.now true)
        unfold crossbucklaw18_ProveLong.f
        rw [small_true]; simp only [Option.bind_some]; rw [if_neg g1, decide_eq_true g2]; simp [crossbucklaw18_ProveLong.j0]
      · refine Ev.congr (f := fun k => crossbucklaw18_ProveLong.l0 k l least true 0 0) (fun k => ?_) (loop l least ⟨by omega, h1.2⟩ (by omega) l.length 0 0 (by omega) (by omega) (by omega) ⟨by omega, by omega, by omega, fun q h2 h3 => by omega, fun _ => .inl rfl⟩)
        unfold crossbucklaw18_ProveLong.f
        rw [small_true]; simp only [Option.bind_some]; rw [if_neg g1, decide_eq_false g2]; simp [crossbucklaw18_ProveLong.j0]
  obtain ⟨K, hK⟩ := main
  exact ⟨K + 1, fun k hk => by obtain ⟨j, rfl⟩ : ∃ j, k = j + 1 := ⟨k - 1, by omega⟩; exact hK j (by omega)⟩

end Go.Proofs.Ytdnokmlonahmnaa.Pure
