/- The plain law of PairLies. -/
import Derived.Test.YtllmckdmglacdaaAx8
import Derived.Test.YtllmckdmglacdaaPurePair
namespace Go.Proofs.Ytllmckdmglacdaa.Pure
open Go.RowKit Go.Proofs.Ytllmckdmglacdaa.A Go.Proofs.YtllmckdmglacdaaW.PrintWords Go.Proofs.YtllmckdmglacdaaW.PrintLast
set_option linter.unusedVariables false
set_option linter.unusedSimpArgs false

theorem lies_loop (l : List Int) (hl : (l.length : Int) ≤ 200) : ∀ (d : Nat) (i lie pos : Int), 0 ≤ i → i + d = l.length → gray4 lie = pos % 4 → -i ≤ pos ∧ pos ≤ i → Ev (fun k => crossbucklaw10_PairLies.l0 k l true i lie pos false) true
  | 0, i, lie, pos, h0, h1, hg, hb => Ev.step (f := fun _ => some true) (fun k => by simp only [crossbucklaw10_PairLies.l0]; rw [if_neg (by omega)]) (Ev.now true)
  | d + 1, i, lie, pos, h0, h1, hg, hb => by
    have e : wrap64 (i + 1) = i + 1 := by unfold wrap64; omega
    refine Ev.step (fun k => by rw [crossbucklaw10_PairLies.l0, if_pos (show i < (l.length : Int) by omega), if_pos h0, step_sp, Option.bind_some]) ?_
    rw [sp_eq _ _ _ _ (by omega)]
    have hd := dl_lt ((gray4 (rd l i) - gray4 lie) % 4)
    by_cases hj : (gray4 (rd l i) - gray4 lie) % 4 = 2
    · simp only [hj, decide_true, Bool.or_true, if_true]
      exact Ev.now true
    · have hp : (pos + dl ((gray4 (rd l i) - gray4 lie) % 4)) % 4 = gray4 (rd l i) := by
        have := gray4_lt (rd l i)
        have := gray4_lt lie
        unfold dl
        (repeat' split) <;> omega
      simp only [hj, decide_false, Bool.or_false, Bool.false_eq_true, if_false, and3, hp, e]
      have next := lies_loop l hl d (i + 1) (rd l i % 4) (pos + dl ((gray4 (rd l i) - gray4 lie) % 4)) (by omega) (by omega) (by rw [gray4_mod, hp]) (by omega)
      rcases gray4_cases (rd l i) with ⟨h, g⟩ | ⟨h, g⟩ | ⟨h, g⟩ | ⟨h, g⟩
      · rw [show bits .and .i64 (rd l i % 4) 1 = 0 by rw [g]; decide, show bits .and .i64 (rd l i % 4) 2 = 0 by rw [g]; decide]
        rw [h] at next ⊢
        exact next
      · rw [show bits .and .i64 (rd l i % 4) 1 = 1 by rw [g]; decide, show bits .and .i64 (rd l i % 4) 2 = 0 by rw [g]; decide]
        rw [h] at next ⊢
        exact next
      · rw [show bits .and .i64 (rd l i % 4) 1 = 1 by rw [g]; decide, show bits .and .i64 (rd l i % 4) 2 = 2 by rw [g]; decide]
        rw [h] at next ⊢
        exact next
      · rw [show bits .and .i64 (rd l i % 4) 1 = 0 by rw [g]; decide, show bits .and .i64 (rd l i % 4) 2 = 2 by rw [g]; decide]
        rw [h] at next ⊢
        exact next
theorem PairLies : ∀ (l0 : List Int), (∀ x ∈ l0, (Lit.int .i64 x).wf = true) → ∃ k, crossbucklaw10_PairLies.f k l0 = some true := by
  intro l _
  refine Ev.rounds (g := fun k => crossbucklaw10_PairLies.f k l) ?_
  simp only [crossbucklaw10_PairLies.f]
  refine Ev.bind small10_ev ?_
  by_cases hl : (l.length : Int) > 200
  · simp only [hl, if_true]; exact Ev.now true
  · simp only [hl, if_false]
    exact lies_loop l (by omega) l.length 0 0 0 (by omega) (by omega) (by decide) (by omega)
end Go.Proofs.Ytllmckdmglacdaa.Pure
