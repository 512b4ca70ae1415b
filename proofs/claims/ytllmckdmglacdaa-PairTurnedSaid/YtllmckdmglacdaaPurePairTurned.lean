/- The plain law of PairTurned. -/
import Derived.Test.YtllmckdmglacdaaAx8
import Derived.Test.YtllmckdmglacdaaPurePair
namespace Go.Proofs.Ytllmckdmglacdaa.Pure
open Go.RowKit Go.Proofs.Ytllmckdmglacdaa.A Go.Proofs.YtllmckdmglacdaaW.PrintWords Go.Proofs.YtllmckdmglacdaaW.PrintLast
set_option linter.unusedVariables false
set_option linter.unusedSimpArgs false

/-- A lie with the treadles the other way round. -/
def swp (m : Int) : Int := wrap64 (wrap64 (Int.tdiv m 2) + wrap64 (Int.tmod m 2 * 2))
theorem swp_gray (a : Int) : gray4 (swp (a % 4)) = (-gray4 a) % 4 := by
  rcases gray4_cases a with ⟨h, g⟩ | ⟨h, g⟩ | ⟨h, g⟩ | ⟨h, g⟩ <;> rw [h, g] <;> decide +kernel
theorem turned_loop (l : List Int) (hl : (l.length : Int) ≤ 200) : ∀ (d : Nat) (i x p y : Int) (j : Bool), 0 ≤ i → i + d = l.length → gray4 y = (-gray4 x) % 4 → -i ≤ p ∧ p ≤ i → Ev (fun k => crossbucklaw10_PairTurned.l0 k l true i x p j y (-p) j) true
  | 0, i, x, p, y, j, h0, h1, hg, hb => by
    refine Ev.step (fun k => by rw [crossbucklaw10_PairTurned.l0, if_neg (show ¬ i < (l.length : Int) by omega), if_pos rfl, rest_eq, rest_eq, Option.bind_some, Option.bind_some]) ?_
    have hx := gray4_zero x
    have hy := gray4_zero y
    have := gray4_lt x
    have e : decide (x % 4 = 0) = decide (y % 4 = 0) := decide_eq_decide.2 (by rw [← hx, ← hy]; omega)
    simp only [e, beq_self_eq_true]
    exact Ev.now true
  | d + 1, i, x, p, y, j, h0, h1, hg, hb => by
    have e : wrap64 (i + 1) = i + 1 := by unfold wrap64; omega
    refine Ev.step (fun k => by rw [crossbucklaw10_PairTurned.l0, if_pos (show i < (l.length : Int) by omega), if_pos h0, and3, step_sp, Option.bind_some, step_sp, Option.bind_some]) ?_
    change Ev (fun k => if (sp x p j (rd l i % 4)).2.1 = wrap64 (-(sp y (-p) j (swp (rd l i % 4))).2.1) then _ else _) true
    have hsw := swp_gray (rd l i)
    have g1 := gray4_lt x
    have g2 := gray4_lt (rd l i)
    have hway : (gray4 (swp (rd l i % 4)) - gray4 y) % 4 = (-((gray4 (rd l i) - gray4 x) % 4)) % 4 := by omega
    have hd : dl ((-((gray4 (rd l i) - gray4 x) % 4)) % 4) = -dl ((gray4 (rd l i) - gray4 x) % 4) := by
      have : (gray4 (rd l i) - gray4 x) % 4 = 0 ∨ (gray4 (rd l i) - gray4 x) % 4 = 1 ∨ (gray4 (rd l i) - gray4 x) % 4 = 2 ∨ (gray4 (rd l i) - gray4 x) % 4 = 3 := by omega
      rcases this with h | h | h | h <;> rw [h] <;> decide
    have hj : decide ((-((gray4 (rd l i) - gray4 x) % 4)) % 4 = 2) = decide ((gray4 (rd l i) - gray4 x) % 4 = 2) := decide_eq_decide.2 (by omega)
    have hdl := dl_lt ((gray4 (rd l i) - gray4 x) % 4)
    change Ev (fun k => if (sp x p j (rd l i % 4)).2.1 = wrap64 (-(sp y (-p) j (swp (rd l i % 4))).2.1) then (if ((sp x p j (rd l i % 4)).2.2 != (sp y (-p) j (swp (rd l i % 4))).2.2) = true then some false else crossbucklaw10_PairTurned.l0 k l true (wrap64 (i + 1)) (sp x p j (rd l i % 4)).1 (sp x p j (rd l i % 4)).2.1 (sp x p j (rd l i % 4)).2.2 (sp y (-p) j (swp (rd l i % 4))).1 (sp y (-p) j (swp (rd l i % 4))).2.1 (sp y (-p) j (swp (rd l i % 4))).2.2) else some false) true
    rw [sp_eq _ _ _ _ (by omega), sp_eq y _ _ _ (by omega), gray4_mod, hway, hd, hj, e]
    have e2 : wrap64 (-(-p + -dl ((gray4 (rd l i) - gray4 x) % 4))) = p + dl ((gray4 (rd l i) - gray4 x) % 4) := by unfold wrap64; omega
    simp only [e2, if_true, bne_self_eq_false, Bool.false_eq_true, if_false]
    rw [show -p + -dl ((gray4 (rd l i) - gray4 x) % 4) = -(p + dl ((gray4 (rd l i) - gray4 x) % 4)) by omega]
    exact turned_loop l hl d (i + 1) _ _ _ _ (by omega) (by omega) (by rw [gray4_mod, gray4_mod, gray4_mod, hsw]) (by omega)
theorem PairTurned : ∀ (l0 : List Int), (∀ x ∈ l0, (Lit.int .i64 x).wf = true) → ∃ k, crossbucklaw10_PairTurned.f k l0 = some true := by
  intro l _
  refine Ev.rounds (g := fun k => crossbucklaw10_PairTurned.f k l) ?_
  simp only [crossbucklaw10_PairTurned.f]
  refine Ev.bind small10_ev ?_
  by_cases hl : (l.length : Int) > 200
  · simp only [hl, if_true]; exact Ev.now true
  · simp only [hl, if_false]
    exact turned_loop l (by omega) l.length 0 0 0 0 false (by omega) (by omega) (by decide) (by omega)
end Go.Proofs.Ytllmckdmglacdaa.Pure
