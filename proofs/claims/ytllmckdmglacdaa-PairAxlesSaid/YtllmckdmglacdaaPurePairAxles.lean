/- The plain law of PairAxles. -/
import Derived.Test.YtllmckdmglacdaaAx7
import Derived.Test.YtllmckdmglacdaaPurePair
namespace Go.Proofs.Ytllmckdmglacdaa.Pure
open Go.RowKit Go.Proofs.Ytllmckdmglacdaa.A Go.Proofs.YtllmckdmglacdaaW.PrintWords Go.Proofs.YtllmckdmglacdaaW.PrintLast
set_option linter.unusedVariables false
set_option linter.unusedSimpArgs false

theorem on_gray (i : Int) (h : 0 ≤ i) : gray4 (rd [1, 3, 2, 0] (i % 4)) = (i + 1) % 4 := by
  have : i % 4 = 0 ∨ i % 4 = 1 ∨ i % 4 = 2 ∨ i % 4 = 3 := by omega
  rcases this with g | g | g | g <;> rw [g]
  · rw [show (i + 1) % 4 = 1 by omega]; decide
  · rw [show (i + 1) % 4 = 2 by omega]; decide
  · rw [show (i + 1) % 4 = 3 by omega]; decide
  · rw [show (i + 1) % 4 = 0 by omega]; decide
theorem back_gray (i : Int) (h : 0 ≤ i) : gray4 (rd [2, 3, 1, 0] (i % 4)) = (-(i + 1)) % 4 := by
  have : i % 4 = 0 ∨ i % 4 = 1 ∨ i % 4 = 2 ∨ i % 4 = 3 := by omega
  rcases this with g | g | g | g <;> rw [g]
  · rw [show (-(i + 1)) % 4 = 3 by omega]; decide
  · rw [show (-(i + 1)) % 4 = 2 by omega]; decide
  · rw [show (-(i + 1)) % 4 = 1 by omega]; decide
  · rw [show (-(i + 1)) % 4 = 0 by omega]; decide
theorem back_loop (n m : Int) (hn : 0 ≤ n ∧ n ≤ 500) (hm : 0 ≤ m ∧ m ≤ 500) : ∀ (d : Nat) (i lie : Int), 0 ≤ i → i + d = 4 * m → gray4 lie = (-i) % 4 → Ev (fun k => crossbucklaw10_PairAxles.l1 k n m true [2, 3, 1, 0] n i lie (4 * n - i) false) true
  | 0, i, lie, h0, h1, hg => by
    have e4 : wrap64 (4 * m) = 4 * m := by unfold wrap64; omega
    have e5 : wrap64 (n - m) = n - m := by unfold wrap64; omega
    refine Ev.step (fun k => by rw [crossbucklaw10_PairAxles.l1, e4, if_neg (show ¬ i < 4 * m by omega), if_pos rfl, if_pos rfl, axles_eq, Option.bind_some, e5, if_pos (show (4 * n - i) / 4 = n - m by omega), rest_eq]) ?_
    have hz : lie % 4 = 0 := (gray4_zero lie).1 (by omega)
    simp only [hz, decide_true, Bool.not_false, Bool.and_self, Option.bind_some]
    exact Ev.now true
  | d + 1, i, lie, h0, h1, hg => by
    have e : wrap64 (i + 1) = i + 1 := by unfold wrap64; omega
    have e4 : wrap64 (4 * m) = 4 * m := by unfold wrap64; omega
    have et : Int.tmod i 4 = i % 4 := Int.tmod_eq_emod_of_nonneg h0
    refine Ev.step (fun k => by rw [crossbucklaw10_PairAxles.l1, e4, if_pos (show i < 4 * m by omega), et, if_pos (show 0 ≤ i % 4 by omega), if_pos (show i % 4 < (([2, 3, 1, 0] : List Int).length : Int) by show i % 4 < 4; omega), step_sp, Option.bind_some]) ?_
    rw [sp_eq _ _ _ _ (by omega), back_gray i h0, hg]
    have hw : ((-(i + 1)) % 4 - (-i) % 4) % 4 = 3 := by omega
    rw [hw]
    simp only [e]
    have next := back_loop n m hn hm d (i + 1) (rd [2, 3, 1, 0] (i % 4) % 4) (by omega) (by omega) (by rw [gray4_mod, back_gray i h0])
    have e7 : 4 * n - i + dl 3 = 4 * n - (i + 1) := by
      have : dl 3 = -1 := rfl
      omega
    rw [e7]
    exact next
theorem on_loop (n m : Int) (hn : 0 ≤ n ∧ n ≤ 500) (hm : 0 ≤ m ∧ m ≤ 500) : ∀ (d : Nat) (i lie : Int), 0 ≤ i → i + d = 4 * n → gray4 lie = i % 4 → Ev (fun k => crossbucklaw10_PairAxles.l0 k n m true [1, 3, 2, 0] [2, 3, 1, 0] i lie i false) true
  | 0, i, lie, h0, h1, hg => by
    have e4 : wrap64 (4 * n) = 4 * n := by unfold wrap64; omega
    refine Ev.step (fun k => by rw [crossbucklaw10_PairAxles.l0, e4, if_neg (show ¬ i < 4 * n by omega), axles_eq, Option.bind_some, show i / 4 = n by omega]) ?_
    have := back_loop n m hn hm (4 * m).toNat 0 lie (by omega) (by omega) (by omega)
    rw [show 4 * n - 0 = i by omega] at this
    exact this
  | d + 1, i, lie, h0, h1, hg => by
    have e : wrap64 (i + 1) = i + 1 := by unfold wrap64; omega
    have e4 : wrap64 (4 * n) = 4 * n := by unfold wrap64; omega
    have et : Int.tmod i 4 = i % 4 := Int.tmod_eq_emod_of_nonneg h0
    refine Ev.step (fun k => by rw [crossbucklaw10_PairAxles.l0, e4, if_pos (show i < 4 * n by omega), et, if_pos (show 0 ≤ i % 4 by omega), if_pos (show i % 4 < (([1, 3, 2, 0] : List Int).length : Int) by show i % 4 < 4; omega), step_sp, Option.bind_some]) ?_
    rw [sp_eq _ _ _ _ (by omega), on_gray i h0, hg]
    have hw : ((i + 1) % 4 - i % 4) % 4 = 1 := by omega
    rw [hw]
    simp only [e]
    exact on_loop n m hn hm d (i + 1) (rd [1, 3, 2, 0] (i % 4) % 4) (by omega) (by omega) (by rw [gray4_mod, on_gray i h0])
theorem PairAxles : ∀ (a0 a1 : Int), (Lit.int .i64 a0).wf = true → (Lit.int .i64 a1).wf = true → ∃ k, crossbucklaw10_PairAxles.f k a0 a1 = some true := by
  intro n m _ _
  refine Ev.rounds (g := fun k => crossbucklaw10_PairAxles.f k n m) ?_
  simp only [crossbucklaw10_PairAxles.f]
  refine Ev.bind small10_ev ?_
  have out : Ev (fun k => crossbucklaw10_PairAxles.j0 k n m true true) true := Ev.step (f := fun _ => some true) (fun k => by simp [crossbucklaw10_PairAxles.j0]) (Ev.now true)
  by_cases h0 : n < 0
  · simp only [h0, if_true]; exact out
  · by_cases h1 : n > 500
    · simp only [h0, h1, if_true, if_false]; exact out
    · by_cases h2 : m < 0
      · simp only [h0, h1, h2, if_true, if_false]; exact out
      · simp only [h0, h1, h2, if_false]
        by_cases h3 : m > 500
        · rw [decide_eq_true h3]; exact out
        · rw [decide_eq_false h3]
          refine Ev.step (f := fun k => crossbucklaw10_PairAxles.l0 k n m true [1, 3, 2, 0] [2, 3, 1, 0] 0 0 0 false) (fun k => by simp [crossbucklaw10_PairAxles.j0]) ?_
          exact on_loop n m (by omega) (by omega) (4 * n).toNat 0 0 (by omega) (by omega) (by decide)
end Go.Proofs.Ytllmckdmglacdaa.Pure
