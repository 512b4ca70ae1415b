/- The plain law of LockSteps. -/
import Derived.Test.YtllmckdmglacdaaAx10
import Derived.Test.YtllmckdmglacdaaPureLock
namespace Go.Proofs.Ytllmckdmglacdaa.Pure
open Go.RowKit Go.Proofs.Ytllmckdmglacdaa.A Go.Proofs.YtllmckdmglacdaaW.PrintWords Go.Proofs.YtllmckdmglacdaaW.PrintLast
set_option linter.unusedVariables false
set_option linter.unusedSimpArgs false

theorem refStep22 (c : Bool) (h : Int) (may : Bool) (hold : Int) : crossbuckref22_Step.f c h may hold = lock_Step.f c h may hold := by
  unfold crossbuckref22_Step.f lock_Step.f
  cases may
  · simp only [Bool.false_eq_true, if_false]
    by_cases g : h ≤ 0
    · rw [if_pos g, if_pos (by omega)]
    · rw [if_neg g, if_neg (by omega)]
  · rfl
theorem refLocked (c : Bool) (h : Int) : crossbuckref22_Locked.f c h = some (c || decide (h > 0)) := by
  unfold crossbuckref22_Locked.f
  cases c <;> rfl
theorem any_ev (l : List S38) (hl : (l.length : Int) ≤ 1000) : ∀ (d : Nat) (i : Int), 0 ≤ i → i + d = l.length → ∃ b, Ev (fun k => lock_Any.l0 k l i) b ∧ Ev (fun k => crossbuckref22_Any.l0 k l i) b
  | 0, i, h0, h1 => ⟨false, Ev.step (f := fun _ => some false) (fun k => by simp only [lock_Any.l0]; rw [if_neg (by omega)]) (Ev.now false), Ev.step (f := fun _ => some false) (fun k => by simp only [crossbuckref22_Any.l0]; rw [if_neg (by omega)]) (Ev.now false)⟩
  | d + 1, i, h0, h1 => by
    have e : wrap64 (i + 1) = i + 1 := by unfold wrap64; omega
    obtain ⟨b, hb1, hb2⟩ := any_ev l hl d (i + 1) (by omega) (by omega)
    rcases Bool.eq_false_or_eq_true (lockedB (rd_T38 l i)) with hc | hc
    · refine ⟨true, Ev.step (f := fun _ => some true) (fun k => by rw [lock_Any.l0, if_pos (show i < (l.length : Int) by omega), if_pos h0, if_pos hc]) (Ev.now true), Ev.step (f := fun _ => some true) (fun k => ?_) (Ev.now true)⟩
      have hc' := hc
      unfold lockedB at hc'
      rw [crossbuckref22_Any.l0, if_pos (show i < (l.length : Int) by omega), if_pos h0, refLocked, Option.bind_some, if_pos hc']
    · refine ⟨b, Ev.step (f := fun k => lock_Any.l0 k l (i + 1)) (fun k => by rw [lock_Any.l0, if_pos (show i < (l.length : Int) by omega), if_pos h0, if_neg (by rw [hc]; decide), e]) hb1, Ev.step (f := fun k => crossbuckref22_Any.l0 k l (i + 1)) (fun k => ?_) hb2⟩
      rw [crossbuckref22_Any.l0, if_pos (show i < (l.length : Int) by omega), if_pos h0, refLocked, Option.bind_some, if_neg (by unfold lockedB at hc; rw [hc]; decide), e]
theorem hold_ev (a0 a1 a2 a3 a4 a5 a6 fr ap a9 : Int) (hf : 0 ≤ fr ∧ fr ≤ 9223372036854775807) (ha : 0 ≤ ap ∧ ap ≤ 9223372036854775807) :
    Ev (fun k => lock_Hold.f k a0 a1 a2 a3 a4 a5 a6 fr ap a9) (if ap + fr + 2 > 9223372036854775807 then 9223372036854775807 else ap + fr + 2) := by
  have e1 : wrap64 (9223372036854775807 - 2) = 9223372036854775805 := by unfold wrap64; omega
  refine ⟨3, fun k hk => ?_⟩
  obtain ⟨k, rfl⟩ : ∃ m, k = m + 3 := ⟨k - 3, by omega⟩
  have r0 : rd [ap, fr] 0 = ap := rfl
  have r1 : rd [ap, fr] 1 = fr := rfl
  have w1 : wrap64 (0 + 1) = 1 := by unfold wrap64; omega
  have w2 : wrap64 (1 + 1) = 2 := by unfold wrap64; omega
  simp only [lock_Hold.f, lock_Hold.l0, Option.bind_some, List.length_cons, List.length_nil, e1, r0, r1, w1, w2]
  rw [if_pos (by decide), if_pos (by decide), if_pos (by decide)]
  by_cases g1 : ap > 9223372036854775805
  · rw [if_pos g1, if_pos (by omega)]
  · have e2 : wrap64 (2 + ap) = 2 + ap := by unfold wrap64; omega
    have e3 : wrap64 (9223372036854775807 - (2 + ap)) = 9223372036854775807 - (2 + ap) := by unfold wrap64; omega
    rw [if_neg g1, if_pos (by decide), if_pos (by decide), if_pos (by decide), e2, e3]
    by_cases g2 : fr > 9223372036854775807 - (2 + ap)
    · rw [if_pos g2, if_pos (by omega)]
    · have e4 : wrap64 (2 + ap + fr) = 2 + ap + fr := by unfold wrap64; omega
      rw [if_neg g2, if_neg (by decide), e4, if_neg (by omega)]
      congr 1
      omega
theorem refHold (a0 a1 a2 a3 a4 a5 a6 fr ap a9 : Int) (hf : 0 ≤ fr ∧ fr ≤ 9223372036854775807) (ha : 0 ≤ ap ∧ ap ≤ 9223372036854775807) :
    crossbuckref22_Hold.f a0 a1 a2 a3 a4 a5 a6 fr ap a9 = some (if ap + fr + 2 > 9223372036854775807 then 9223372036854775807 else ap + fr + 2) := by
  have hs : crossbuckref22_sum.f ap fr = some (if ap + fr > 9223372036854775807 then 9223372036854775807 else ap + fr) := by
    unfold crossbuckref22_sum.f
    have e1 : wrap64 (9223372036854775807 - fr) = 9223372036854775807 - fr := by unfold wrap64; omega
    rw [e1]
    by_cases g0 : fr > 0
    · rw [if_pos g0]
      by_cases g1 : ap > 9223372036854775807 - fr
      · rw [if_pos g1, if_pos (by omega)]
      · have e2 : wrap64 (ap + fr) = ap + fr := by unfold wrap64; omega
        rw [if_neg g1, if_neg (by omega), e2]
    · have e2 : wrap64 (ap + fr) = ap + fr := by unfold wrap64; omega
      rw [if_neg g0, if_neg (by omega), e2]
  unfold crossbuckref22_Hold.f
  rw [hs, Option.bind_some]
  unfold crossbuckref22_sum.f
  have e1 : wrap64 (9223372036854775807 - 2) = 9223372036854775805 := by unfold wrap64; omega
  rw [e1, if_pos (by decide)]
  by_cases g : ap + fr > 9223372036854775807
  · rw [if_pos g, if_pos (by decide), if_pos (by omega)]
    rfl
  · rw [if_neg g]
    by_cases g1 : ap + fr > 9223372036854775805
    · rw [if_pos g1, if_pos (by omega)]
      rfl
    · have e2 : wrap64 (ap + fr + 2) = ap + fr + 2 := by unfold wrap64; omega
      rw [if_neg g1, if_neg (by omega), e2]
      rfl
theorem steps_loop (l : List S38) (may : Bool) (hold a0 a1 a2 a3 a4 a5 a6 fr ap a9 : Int) (hf : fr ≤ 9223372036854775807) (ha : ap ≤ 9223372036854775807) (hl : (l.length : Int) ≤ 100) :
    ∀ (d : Nat) (i : Int), 0 ≤ i → i + d = l.length → Ev (fun k => crossbucklaw22_LockSteps.l0 k l may hold true i a0 a1 a2 a3 a4 a5 a6 fr ap a9) true
  | 0, i, h0, h1 => by
    obtain ⟨b, hb1, hb2⟩ := any_ev l (by omega) l.length 0 (by omega) (by omega)
    refine Ev.step (fun k => by rw [crossbucklaw22_LockSteps.l0, if_neg (show ¬ i < (l.length : Int) by omega), if_pos rfl]) ?_
    refine Ev.bind (Ev.congr (fun k => by rw [lock_Any.f]) hb1) ?_
    refine Ev.bind (Ev.congr (fun k => by rw [crossbuckref22_Any.f]) hb2) ?_
    simp only [beq_self_eq_true, if_true]
    by_cases g1 : ap < 0
    · simp only [g1, if_true]; exact Ev.now true
    · by_cases g2 : fr < 0
      · simp only [g1, g2, if_true, if_false]; exact Ev.now true
      · simp only [g1, g2, if_false]
        refine Ev.bind (hold_ev _ _ _ _ _ _ _ _ _ _ ⟨by omega, hf⟩ ⟨by omega, ha⟩) ?_
        simp only [refHold _ _ _ _ _ _ _ fr ap _ ⟨by omega, hf⟩ ⟨by omega, ha⟩, Option.bind_some, beq_self_eq_true]
        exact Ev.now true
  | d + 1, i, h0, h1 => by
    have e : wrap64 (i + 1) = i + 1 := by unfold wrap64; omega
    refine Ev.step (fun k => by rw [crossbucklaw22_LockSteps.l0, if_pos (show i < (l.length : Int) by omega), if_pos h0, refStep22]) ?_
    simp only [lock_Step.f, Option.bind_some, beq_self_eq_true, Bool.not_true, Bool.or_self, Bool.false_eq_true, if_false, locked_eq, refLocked, bne_self_eq_false, e]
    exact steps_loop l may hold a0 a1 a2 a3 a4 a5 a6 fr ap a9 hf ha hl d (i + 1) (by omega) (by omega)
theorem LockSteps : ∀ (l0 : List S38) (a1 : Bool) (a2 : Int) (a3_0 : Int) (a3_1 : Int) (a3_2 : Int) (a3_3 : Int) (a3_4 : Int) (a3_5 : Int) (a3_6 : Int) (a3_7 : Int) (a3_8 : Int) (a3_9 : Int), (∀ x ∈ l0, (Lit.int .i64 x.f1).wf = true) → (Lit.int .i64 a2).wf = true → (Lit.int .i64 a3_0).wf = true → (Lit.int .i64 a3_1).wf = true → (Lit.int .i64 a3_2).wf = true → (Lit.int .i64 a3_3).wf = true → (Lit.int .i64 a3_4).wf = true → (Lit.int .i64 a3_5).wf = true → (Lit.int .i64 a3_6).wf = true → (Lit.int .i64 a3_7).wf = true → (Lit.int .i64 a3_8).wf = true → (Lit.int .i64 a3_9).wf = true → ∃ k, crossbucklaw22_LockSteps.f k l0 a1 a2 a3_0 a3_1 a3_2 a3_3 a3_4 a3_5 a3_6 a3_7 a3_8 a3_9 = some true := by
  intro l may hold a0 a1 a2 a3 a4 a5 a6 fr ap a9 _ _ _ _ _ _ _ _ _ hf ha _
  have hf := bounds_i64 hf
  have ha := bounds_i64 ha
  refine Ev.rounds (g := fun k => crossbucklaw22_LockSteps.f k l may hold a0 a1 a2 a3 a4 a5 a6 fr ap a9) ?_
  simp only [crossbucklaw22_LockSteps.f]
  refine Ev.bind small22_ev ?_
  by_cases hl : (l.length : Int) > 100
  · simp only [hl, if_true]; exact Ev.now true
  · simp only [hl, if_false]
    exact steps_loop l may hold a0 a1 a2 a3 a4 a5 a6 fr ap a9 hf.2 ha.2 (by omega) l.length 0 (by omega) (by omega)
end Go.Proofs.Ytllmckdmglacdaa.Pure
