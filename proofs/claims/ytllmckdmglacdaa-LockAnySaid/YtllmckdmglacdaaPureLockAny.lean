/- The plain law of LockAny. -/
import Derived.Test.YtllmckdmglacdaaAx3
namespace Go.Proofs.Ytllmckdmglacdaa.Pure
open Go.RowKit Go.Proofs.Ytllmckdmglacdaa.A Go.Proofs.YtllmckdmglacdaaW.PrintWords Go.Proofs.YtllmckdmglacdaaW.PrintLast
set_option linter.unusedVariables false
set_option linter.unusedSimpArgs false

theorem small22a_ev : Ev (fun k => crossbucklaw22_small.f k) true := Ev.of (fun k => crossbucklaw22_small.mono k) (k := 12) (by decide +kernel)
theorem rd_drop38 (l : List S38) (i : Int) (h0 : 0 ≤ i) (h1 : i < l.length) : l.drop i.toNat = rd_T38 l i :: l.drop (i + 1).toNat := by
  have hi : i.toNat < l.length := by omega
  rw [List.drop_eq_getElem_cons hi, show (i + 1).toNat = i.toNat + 1 by omega]
  congr 1
  unfold rd_T38
  rw [List.getD_eq_getElem?_getD, List.getElem?_eq_getElem hi]
  rfl
theorem any38_evd (l : List S38) (hl : (l.length : Int) ≤ 1000) : ∀ (d : Nat) (i : Int), 0 ≤ i → i + d = l.length → Ev (fun k => lock_Any.l0 k l i) ((l.drop i.toNat).any lockedB)
  | 0, i, h0, h1 => by
    have e : l.drop i.toNat = [] := List.drop_eq_nil_of_le (by omega)
    rw [e]
    exact Ev.step (f := fun _ => some false) (fun k => by simp only [lock_Any.l0]; rw [if_neg (by omega)]) (Ev.now false)
  | d + 1, i, h0, h1 => by
    have e : wrap64 (i + 1) = i + 1 := by unfold wrap64; omega
    have hb := any38_evd l hl d (i + 1) (by omega) (by omega)
    rw [rd_drop38 l i h0 (by omega), List.any_cons]
    rcases Bool.eq_false_or_eq_true (lockedB (rd_T38 l i)) with hc | hc
    · rw [hc, Bool.true_or]
      exact Ev.step (f := fun _ => some true) (fun k => by rw [lock_Any.l0, if_pos (show i < (l.length : Int) by omega), if_pos h0, if_pos hc]) (Ev.now true)
    · rw [hc, Bool.false_or]
      exact Ev.step (f := fun k => lock_Any.l0 k l (i + 1)) (fun k => by rw [lock_Any.l0, if_pos (show i < (l.length : Int) by omega), if_pos h0, if_neg (by rw [hc]; decide), e]) hb
theorem any38_ev (l : List S38) (hl : (l.length : Int) ≤ 1000) : Ev (fun k => lock_Any.f k l) (l.any lockedB) := by
  have := any38_evd l hl l.length 0 (by omega) (by omega)
  simpa [lock_Any.f] using this
theorem LockAny : ∀ (l0 : List S38) (a1_0 : Bool) (a1_1 : Int), (∀ x ∈ l0, (Lit.int .i64 x.f1).wf = true) → (Lit.int .i64 a1_1).wf = true → ∃ k, crossbucklaw22_LockAny.f k l0 a1_0 a1_1 = some true := by
  intro l a0 a1 _ _
  refine Ev.rounds (g := fun k => crossbucklaw22_LockAny.f k l a0 a1) ?_
  simp only [crossbucklaw22_LockAny.f]
  refine Ev.bind small22a_ev ?_
  by_cases hl : (l.length : Int) > 100
  · simp only [hl, if_true]; exact Ev.now true
  · simp only [hl, if_false, if_true, Option.bind_some, List.nil_append, List.length_nil, List.length_cons]
    have q1 : 0 + l.length < 8796093022208 := by omega
    have q2 : l.length + (0 + 1) < 8796093022208 := by omega
    simp only [q1, q2, if_true]
    refine Ev.bind (any38_ev (l ++ [⟨a0, a1⟩]) (by simp; omega)) ?_
    refine Ev.bind (any38_ev l (by omega)) ?_
    have e : ((l ++ [(⟨a0, a1⟩ : S38)]).any lockedB) = ((l.any lockedB) || (a0 || decide (a1 > 0))) := by
      rw [List.any_append, List.any_cons, List.any_nil]
      simp [lockedB]
    rw [e]
    simp only [lock_Locked.f, Option.bind_some]
    cases (l.any lockedB) <;> cases a0 <;> simp <;> exact Ev.now true
end Go.Proofs.Ytllmckdmglacdaa.Pure
