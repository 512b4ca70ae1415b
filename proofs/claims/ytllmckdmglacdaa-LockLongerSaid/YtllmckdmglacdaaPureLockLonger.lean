/- The plain law of LockLonger. -/
import Derived.Test.YtllmckdmglacdaaAx13
import Derived.Test.YtllmckdmglacdaaPureLock
namespace Go.Proofs.Ytllmckdmglacdaa.Pure
open Go.RowKit Go.Proofs.Ytllmckdmglacdaa.A Go.Proofs.YtllmckdmglacdaaW.PrintWords Go.Proofs.YtllmckdmglacdaaW.PrintLast
set_option linter.unusedVariables false
set_option linter.unusedSimpArgs false

theorem longer_loop (l : List Bool) (m n : Int) (hm : m ≤ n) (hb : -9223372036854775808 ≤ m ∧ n ≤ 9223372036854775807) (hl : (l.length : Int) ≤ 400) : ∀ (d : Nat) (i x y : Int) (c : Bool), 0 ≤ i → i + d = l.length → (0 ≤ x ∧ x ≤ y ∧ y ≤ 9223372036854775807) → Ev (fun k => crossbucklaw22_LockLonger.l0 k l m n true i c x c y) true
  | 0, i, x, y, c, h0, h1, hv => Ev.step (f := fun _ => some true) (fun k => by simp only [crossbucklaw22_LockLonger.l0]; rw [if_neg (by omega)]) (Ev.now true)
  | d + 1, i, x, y, c, h0, h1, hv => by
    have e : wrap64 (i + 1) = i + 1 := by unfold wrap64; omega
    refine Ev.step (fun k => by rw [crossbucklaw22_LockLonger.l0, if_pos (show i < (l.length : Int) by omega), if_pos h0]) ?_
    rcases Bool.eq_false_or_eq_true (rdOf false l i) with hc | hc
    · rw [hc]
      simp only [lstep_on, locked_eq, Option.bind_some, Bool.true_or, if_true, bne_self_eq_false, Bool.false_eq_true, if_false, e]
      exact longer_loop l m n hm hb hl d (i + 1) _ _ true (by omega) (by omega) (by (repeat' split) <;> omega)
    · rw [hc]
      have hx : 0 ≤ (if x < 1 then 0 else wrap64 (x - 1)) ∧ (if x < 1 then 0 else wrap64 (x - 1)) ≤ (if y < 1 then 0 else wrap64 (y - 1)) ∧ (if y < 1 then 0 else wrap64 (y - 1)) ≤ 9223372036854775807 := by
        unfold wrap64
        (repeat' split) <;> omega
      simp only [lstep_off, locked_eq, Option.bind_some, Bool.false_or, bne_self_eq_false, Bool.false_eq_true, if_false, e]
      have next := longer_loop l m n hm hb hl d (i + 1) _ _ false (by omega) (by omega) hx
      by_cases g : (if x < 1 then 0 else wrap64 (x - 1)) > 0
      · rw [decide_eq_true g, decide_eq_true (by omega)]
        simp only [if_true]
        exact next
      · rw [decide_eq_false g]
        simp only [Bool.false_eq_true, if_false]
        exact next
theorem LockLonger : ∀ (l0 : List Bool) (a1 a2 : Int), (Lit.int .i64 a1).wf = true → (Lit.int .i64 a2).wf = true → ∃ k, crossbucklaw22_LockLonger.f k l0 a1 a2 = some true := by
  intro l m n hm hn
  have hm := bounds_i64 hm
  have hn := bounds_i64 hn
  refine Ev.rounds (g := fun k => crossbucklaw22_LockLonger.f k l m n) ?_
  simp only [crossbucklaw22_LockLonger.f]
  refine Ev.bind small22_ev ?_
  have out : Ev (fun k => crossbucklaw22_LockLonger.j0 k l m n true true) true := Ev.step (f := fun _ => some true) (fun k => by simp [crossbucklaw22_LockLonger.j0]) (Ev.now true)
  by_cases hl : (l.length : Int) > 400
  · simp only [hl, if_true]; exact out
  · simp only [hl, if_false]
    by_cases g : m > n
    · rw [decide_eq_true g]; exact out
    · rw [decide_eq_false g]
      refine Ev.step (f := fun k => crossbucklaw22_LockLonger.l0 k l m n true 0 false 0 false 0) (fun k => by simp [crossbucklaw22_LockLonger.j0]) ?_
      exact longer_loop l m n (by omega) (by omega) (by omega) l.length 0 0 0 false (by omega) (by omega) (by omega)
end Go.Proofs.Ytllmckdmglacdaa.Pure
