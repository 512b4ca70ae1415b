/- The plain law of DemandGood. -/
import Derived.Test.YtjjnfjhhimijmaaAx5
import Derived.Test.YtjjnfjhhimijmaaPureDemand
import Derived.Test.YtjjnfjhhimijmaaArith
namespace Go.Proofs.Ytjjnfjhhimijmaa.Pure
open Go.RowKit Go.Proofs.Ytjjnfjhhimijmaa.A Go.Proofs.YtjjnfjhhimijmaaW.PrintWords Go.Proofs.YtjjnfjhhimijmaaW.PrintLast
set_option linter.unusedVariables false
set_option linter.unusedSimpArgs false

def freeT : S39 := ⟨⟨false, 0, 0, false⟩, ⟨0, 0, false⟩, true, 0, false, false⟩
theorem good_loop (n : Int) (op : Bool) (a0 a1 a2 a3 a4 a6 : Bool) (a7 : Int) (a9 : Bool) (l0 : List S81) (h7 : a7 ≠ 1) (hn : 0 ≤ n ∧ n ≤ 50) : ∀ (d : Nat) (i : Int) (j : Nat), i = j → i + d = n →
    Ev (fun k => crossbucklaw19_DemandGood.l0 k n op true (List.replicate j freeT) i a0 a1 a2 a3 a4 true a6 a7 true a9 0 l0) true
  | 0, i, j, hj, hd => by
    refine Ev.step (f := fun k => (demand_Good.f k a0 a1 a2 a3 a4 true a6 a7 true a9 0 l0 (List.replicate j freeT)).bind fun t => (if t = true then ((demand_Of.f k a0 a1 a2 a3 a4 true a6 a7 true a9 0 l0 (List.replicate j freeT) false op).bind fun bt => (some (!bt.1 && (!bt.2)))) else (some false))) (fun k => by rw [crossbucklaw19_DemandGood.l0, if_neg (by omega), if_pos rfl]) ?_
    have hl : ((List.replicate j freeT).length : Int) ≤ 1000 := by simp; omega
    have hg : goodB true a7 true (List.replicate j freeT) = true := by
      unfold goodB
      rw [decide_eq_false h7]
      cases j <;> simp [freeT]
    refine Ev.bind (good_ev a0 a1 a2 a3 a4 true a6 a7 true a9 0 l0 _ hl) ?_
    rw [hg]
    simp only [if_true]
    have ho := of_ev a0 a1 a2 a3 a4 true a6 a7 true a9 0 l0 (List.replicate j freeT) false op hl
    rw [hg] at ho
    refine Ev.bind ho ?_
    have hc : closeB true false 0 (List.replicate j freeT) op = false := by
      unfold closeB
      cases j <;> simp [freeT]
    rw [hc]
    exact Ev.now true
  | d + 1, i, j, hj, hd => by
    have e : wrap64 (i + 1) = i + 1 := by unfold wrap64; omega
    have hb := good_loop n op a0 a1 a2 a3 a4 a6 a7 a9 l0 h7 hn d (i + 1) (j + 1) (by omega) (by omega)
    refine Ev.step (f := fun k => crossbucklaw19_DemandGood.l0 k n op true (List.replicate (j + 1) freeT) (i + 1) a0 a1 a2 a3 a4 true a6 a7 true a9 0 l0) (fun k => ?_) hb
    rw [crossbucklaw19_DemandGood.l0, if_pos (show i < n by omega), if_pos (by simp; omega), e, List.replicate_succ']
    rfl
theorem DemandGood : ∀ (a0_0 : Bool) (a0_1 : Bool) (a0_2 : Bool) (a0_3 : Bool) (a0_4 : Bool) (a0_5 : Bool) (a0_6 : Bool) (a0_7 : Int) (a0_8 : Bool) (a0_9 : Bool) (a0_10 : Int) (l0_11 : List S81) (a1 : Int) (a2 : Bool), (Lit.int .i64 a0_7).wf = true → (Lit.int .i64 a0_10).wf = true → (Lit.int .i64 a1).wf = true → ∃ k, crossbucklaw19_DemandGood.f k a0_0 a0_1 a0_2 a0_3 a0_4 a0_5 a0_6 a0_7 a0_8 a0_9 a0_10 l0_11 a1 a2 = some true := by
  intro a0_0 a0_1 a0_2 a0_3 a0_4 a0_5 a0_6 a0_7 a0_8 a0_9 a0_10 l0_11 a1 a2 _ _ _
  refine Ev.rounds (g := fun k => crossbucklaw19_DemandGood.f k a0_0 a0_1 a0_2 a0_3 a0_4 a0_5 a0_6 a0_7 a0_8 a0_9 a0_10 l0_11 a1 a2) ?_
  simp only [crossbucklaw19_DemandGood.f, crossbucklaw19_small.f, Option.bind_some]
  have out : Ev (fun k => crossbucklaw19_DemandGood.j0 k a1 a2 true true a0_0 a0_1 a0_2 a0_3 a0_4 a0_5 a0_6 a0_7 a0_8 a0_9 a0_10 l0_11) true := Ev.step (f := fun _ => some true) (fun k => by rw [crossbucklaw19_DemandGood.j0, if_pos rfl]) (Ev.now true)
  by_cases h0 : a1 < 0
  · simp only [h0, if_true]; exact out
  · simp only [h0, if_false]
    by_cases h1 : a1 > 50
    · rw [decide_eq_true h1]; exact out
    · rw [decide_eq_false h1]
      have h7 : wrap64 (Go.bits .and .i64 a0_7 1 * 2) ≠ 1 := by
        have e := Arith.and1 a0_7
        rw [e]
        unfold wrap64
        omega
      refine Ev.step (f := fun k => crossbucklaw19_DemandGood.l0 k a1 a2 true ([] : List S39) 0 a0_0 a0_1 a0_2 a0_3 a0_4 true a0_6 (wrap64 (Go.bits .and .i64 a0_7 1 * 2)) true a0_9 0 l0_11) (fun k => by rw [crossbucklaw19_DemandGood.j0, if_neg (by decide)]) ?_
      exact good_loop a1 a2 a0_0 a0_1 a0_2 a0_3 a0_4 a0_6 _ a0_9 l0_11 h7 (by omega) a1.toNat 0 0 rfl (by omega)
end Go.Proofs.Ytjjnfjhhimijmaa.Pure
