/- The plain law of ProveSooner, over numbers and lists. -/
import Derived.Test.YtdnokmlonahmnaaAx6
import Derived.OpenShut
namespace Go.Proofs.Ytdnokmlonahmnaa.Pure
open Go.RowKit Go.Proofs.Ytdnokmlonahmnaa.A Go.Proofs.YtdnokmlonahmnaaW.PrintWords Go.Proofs.YtdnokmlonahmnaaW.PrintLast
set_option linter.unusedVariables false
set_option linter.unusedSimpArgs false
theorem small_true : crossbucklaw18_small.f = some true := by decide +kernel

/-- What a step counts. -/
def stepS (n : Int) (down : Bool) (least : Int) : Int := if down then (if (if n < 0 then 0 else n) < (if least < 1 then 1 else least) - 1 then (if n < 0 then 0 else n) else (if least < 1 then 1 else least) - 1) + 1 else 0

theorem step_eq (n : Int) (e x d y : Bool) (least : Int) (hn : -9223372036854775808 ≤ n ∧ n ≤ 9223372036854775807) (hl : -9223372036854775808 ≤ least ∧ least ≤ 9223372036854775807) :
    prove_Step.f n e x d y least = some (stepS n (e && d) least) := by
  unfold prove_Step.f prove_Down.f stepS
  cases e <;> cases d <;> simp only [Bool.and_true, Bool.and_false, Bool.false_and, Bool.true_and, if_true, Option.bind_some, Bool.false_eq_true, if_false]
  congr 1
  unfold mn mx wrap64
  (repeat' split) <;> omega

theorem proved_eq (n least : Int) : prove_Proved.f n least = some (decide ((if least < 1 then 1 else least) ≤ n)) := by
  unfold prove_Proved.f mx
  rfl

theorem loop (l : List S23) (least more : Int) (hl : 1 ≤ least ∧ least ≤ more ∧ more ≤ 9223372036854775807) (hlen : (l.length : Int) ≤ 300) : ∀ (d : Nat) (i n m : Int), 0 ≤ i → i ≤ l.length → (l.length : Int) - i = d → 0 ≤ m → m ≤ more → n = (if least < m then least else m) →
    Ev (fun k => crossbucklaw18_ProveSooner.l0 k l least more true n m i) true := by
  intro d
  induction d with
  | zero =>
    intro i n m h0 h1 hd hm hm' hn
    refine Ev.step (f := fun _ => some true) (fun k => ?_) (Ev.now true)
    simp only [crossbucklaw18_ProveSooner.l0]
    rw [if_neg (by omega)]
  | succ d ih =>
    intro i n m h0 h1 hd hm hm' hn
    have b1 : ∀ (x : Bool), stepS n x least = (if least < stepS m x more then least else stepS m x more) := by
      intro x
      unfold stepS
      subst hn
      cases x <;> simp only [if_true, Bool.false_eq_true, if_false] <;> (repeat' split) <;> omega
    have b2 : ∀ (x : Bool), 0 ≤ stepS m x more ∧ stepS m x more ≤ more := by
      intro x
      unfold stepS
      cases x <;> simp only [if_true, Bool.false_eq_true, if_false] <;> (repeat' split) <;> omega
    refine Ev.step (f := fun k => crossbucklaw18_ProveSooner.l0 k l least more true (stepS n ((rd_T23 l i).f0 && (rd_T23 l i).f2) least) (stepS m ((rd_T23 l i).f0 && (rd_T23 l i).f2) more) (i + 1)) (fun k => ?_) (ih (i + 1) _ _ (by omega) (by omega) (by omega) (b2 _).1 (b2 _).2 (b1 _))
    simp only [crossbucklaw18_ProveSooner.l0]
    have e1 : wrap64 (i + 1) = i + 1 := by unfold wrap64; omega
    rw [if_pos (by omega), if_pos h0, step_eq _ _ _ _ _ _ (by subst hn; split <;> omega) (by omega)]
    simp only [Option.bind_some]
    rw [step_eq _ _ _ _ _ _ (by omega) (by omega)]
    simp only [Option.bind_some]
    have h2 := b1 ((rd_T23 l i).f0 && (rd_T23 l i).f2)
    have h3 := b2 ((rd_T23 l i).f0 && (rd_T23 l i).f2)
    rw [if_pos (by rw [h2]; unfold mn; (repeat' split) <;> omega), proved_eq, proved_eq, e1]
    simp only [Option.bind_some]
    rw [if_neg (show ¬ more < 1 by omega), if_neg (show ¬ least < 1 by omega)]
    by_cases h4 : more ≤ stepS m ((rd_T23 l i).f0 && (rd_T23 l i).f2) more
    · rw [if_pos (decide_eq_true h4), if_pos (decide_eq_true (by rw [h2]; split <;> omega))]
    · rw [if_neg (by simpa using h4)]

theorem ProveSooner : ∀ (l0 : List S23) (a1 : Int) (a2 : Int), (Lit.int .i64 a1).wf = true → (Lit.int .i64 a2).wf = true → ∃ k, crossbucklaw18_ProveSooner.f k l0 a1 a2 = some true := by
  intro l least more w1 w2
  have h1 := bounds_i64 w1
  have h2 := bounds_i64 w2
  refine Ev.rounds ?_
  have main : Ev (fun k => crossbucklaw18_ProveSooner.f (k + 1) l least more) true := by
    by_cases g1 : (l.length : Int) > 300
    · refine Ev.congr (f := fun _ => some true) (fun k => ?_) (Ev.now true)
      unfold crossbucklaw18_ProveSooner.f
      rw [small_true]; simp only [Option.bind_some]; rw [if_pos g1]; simp [crossbucklaw18_ProveSooner.j0]
    · by_cases g2 : least < 1
      · refine Ev.congr (f := fun _ => some true) (fun k => ?_) (Ev.now true)
        unfold crossbucklaw18_ProveSooner.f
        rw [small_true]; simp only [Option.bind_some]; rw [if_neg g1, if_pos g2]; simp [crossbucklaw18_ProveSooner.j0]
      · by_cases g3 : more < least
        · refine Ev.congr (f := fun _ => some true) (fun k => ?_) (Ev.now true)
          unfold crossbucklaw18_ProveSooner.f
          rw [small_true]; simp only [Option.bind_some]; rw [if_neg g1, if_neg g2, decide_eq_true g3]; simp [crossbucklaw18_ProveSooner.j0]
        · refine Ev.congr (f := fun k => crossbucklaw18_ProveSooner.l0 k l least more true 0 0 0) (fun k => ?_) (loop l least more ⟨by omega, by omega, h2.2⟩ (by omega) l.length 0 0 0 (by omega) (by omega) (by omega) (by omega) (by omega) (by split <;> omega))
          unfold crossbucklaw18_ProveSooner.f
          rw [small_true]; simp only [Option.bind_some]; rw [if_neg g1, if_neg g2, decide_eq_false g3]; simp [crossbucklaw18_ProveSooner.j0]
  obtain ⟨K, hK⟩ := main
  exact ⟨K + 1, fun k hk => by obtain ⟨j, rfl⟩ : ∃ j, k = j + 1 := ⟨k - 1, by omega⟩; exact hK j (by omega)⟩

end Go.Proofs.Ytdnokmlonahmnaa.Pure
