/- The plain law of PolicyTells. -/
import Derived.Test.YtnmcnailgdcmoaaAx6
import Derived.Test.YtnmcnailgdcmoaaPureSig
import Derived.Test.YtnmcnailgdcmoaaPureRestart
namespace Go.Proofs.Ytnmcnailgdcmoaa.Pure
open Go.RowKit Go.Proofs.Ytnmcnailgdcmoaa.A Go.Proofs.YtnmcnailgdcmoaaW.PrintWords Go.Proofs.YtnmcnailgdcmoaaW.PrintLast Go.Proofs.YtnmcnailgdcmoaaW.PrintMore
set_option linter.unusedVariables false
set_option linter.unusedSimpArgs false
theorem bit0 (j : Nat) : bitAt 0 j = false := by
  unfold bitAt shr
  rw [Int.zero_ediv]
  rfl
theorem refenter_eq (p : Int) (h : 0 ≤ p ∧ p ≤ 7) : crossbuckref20_Enter.f p = some (p, 1) := by
  unfold crossbuckref20_Enter.f
  rw [if_neg (by omega), if_neg (by omega)]
theorem rowF_suc (wr ju : Int) (n : Nat) : rowF wr ju n ++ [trackR wr ju n] = rowF wr ju (n + 1) := by
  unfold rowF
  rw [List.range_succ, List.map_append]
  rfl
theorem refrestart_end (k : Nat) (row : List S31) (ph wr ju : Int) : crossbuckref23_Restart.j1 (k + 1) row true ph wr ju = some (3, 1, row) := by
  simp only [crossbuckref23_Restart.j1]
  rw [if_pos (by first | trivial | rfl), refenter_eq 3 (by omega)]
  rfl
theorem mn_rsN (t : Int) (i : Nat) : ((i : Int) < mn t 8) ↔ i < rsN t := by
  unfold rsN mn mx
  (repeat' split) <;> omega
theorem refrestart_loop (had : Bool) (t ph wr ju : Int) : ∀ (d i : Nat), i + d = rsN t → Ev (fun k => crossbuckref23_Restart.l0 k had t (rowF (if had = true then wr else 0) (if had = true then ju else 0) i) (i : Int) ph wr ju)
    (rsNew (if had = true then ph else 7), 1, rowF (if had = true then wr else 0) (if had = true then ju else 0) (rsN t)) := by
  intro d
  induction d with
  | zero =>
    intro i hi
    obtain rfl : i = rsN t := by omega
    have hlt : ¬ ((rsN t : Int) < mn t 8) := by rw [mn_rsN]; omega
    refine ⟨2, fun k hk => ?_⟩
    obtain ⟨k, rfl⟩ : ∃ q, k = q + 1 + 1 := ⟨k - 2, by omega⟩
    show crossbuckref23_Restart.l0 (k + 1 + 1) _ _ _ _ _ _ _ = _
    generalize rowF (if had = true then wr else 0) (if had = true then ju else 0) (rsN t) = row
    rw [crossbuckref23_Restart.l0, if_neg hlt]
    cases had
    · rw [if_neg (by decide), refrestart_end]
      rfl
    · rw [if_pos rfl]
      by_cases g0 : ph < 0
      · rw [if_pos g0, refrestart_end]
        simp [rsNew, g0]
      · rw [if_neg g0]
        by_cases g6 : ph > 6
        · rw [decide_eq_true g6, refrestart_end]
          have : ph ≥ 7 := by omega
          simp [rsNew, this]
        · rw [decide_eq_false g6]
          simp only [crossbuckref23_Restart.j1]
          rw [if_neg (by decide)]
          have h7 : ¬ (ph < 0 ∨ ph ≥ 7) := by omega
          by_cases e0 : ph = 0
          · rw [if_pos e0, refenter_eq 6 (by omega)]
            simp [rsNew, e0]
          · rw [if_neg e0, refenter_eq ph (by omega)]
            simp only [if_true, rsNew, h7, e0, if_false, Option.bind_some]
  | succ d ih =>
    intro i hi
    have h8 := rsN_le t
    have e0 : wrap64 ((i : Int) + 1) = ((i + 1 : Nat) : Int) := by unfold wrap64; omega
    have e64 : IntKind.u64.wrap (i : Int) = (i : Int) := by rw [IntKind.wrap_u64]; omega
    have hlt : (i : Int) < mn t 8 := by rw [mn_rsN]; omega
    refine Ev.step (fun k => ?_) (ih (i + 1) (by omega))
    rw [crossbuckref23_Restart.l0, if_pos hlt, ← rowF_suc]
    cases had
    · rw [if_neg (by decide), if_pos (by rw [rowF_len]; omega), e0]
      have e : trackR (if (false : Bool) = true then wr else 0) (if (false : Bool) = true then ju else 0) i = ⟨⟨false, 0, 0, false⟩, ⟨0, 0, false⟩, false, 0, false, false⟩ := by
        show trackR 0 0 i = _
        unfold trackR
        rw [bit0]
      rw [e]
    · rw [if_pos rfl, e64, if_pos (by omega), if_pos (by rw [rowF_len]; omega), e0]
      rfl
theorem same_loop (l : List S31) (hl : l.length ≤ 8) : ∀ (d i : Nat), i + d = l.length → Ev (fun k => crossbuckref23_Same.l0 k l l (i : Int)) true := by
  intro d
  induction d with
  | zero =>
    intro i hi
    refine Ev.step (f := fun _ => some true) (fun k => ?_) (Ev.now _)
    rw [crossbuckref23_Same.l0, if_neg (by omega)]
  | succ d ih =>
    intro i hi
    have e0 : wrap64 ((i : Int) + 1) = ((i + 1 : Nat) : Int) := by unfold wrap64; omega
    refine Ev.step (f := fun k => crossbuckref23_Same.l0 k l l ((i + 1 : Nat) : Int)) (fun k => ?_) (ih (i + 1) (by omega))
    rw [crossbuckref23_Same.l0, if_pos (by omega), if_pos (by omega), if_pos (by omega), if_neg (by simp), e0]
theorem PolicyTells : ∀ (a0_0 : Bool) (a0_1 : Bool) (a0_2 : Bool) (a0_3 : Bool) (a0_4 : Bool) (a0_5 : Bool) (a0_6 : Bool) (a0_7 : Int) (a0_8 : Bool) (a0_9 : Bool) (a0_10 : Int) (l0_11 : List S34) (l1 : List S31) (a2_0 : Int) (a2_1 : Int) (a3 : Bool) (a4_0 : Int) (a4_1 : Int) (a4_2 : Int) (a5 : Bool) (a6 : Int), (Lit.int .i64 a0_7).wf = true → (Lit.int .i64 a0_10).wf = true → (∀ x ∈ l1, (Lit.int .i64 x.f0.f1).wf = true ∧ (Lit.int .i64 x.f0.f2).wf = true ∧ (Lit.int .i64 x.f1.f0).wf = true ∧ (Lit.int .i64 x.f1.f1).wf = true ∧ (Lit.int .i64 x.f3).wf = true) → (Lit.int .i64 a2_0).wf = true → (Lit.int .i64 a2_1).wf = true → (Lit.int .i64 a4_0).wf = true → (Lit.int .i64 a4_1).wf = true → (Lit.int .i64 a4_2).wf = true → (Lit.int .i64 a6).wf = true → ∃ k, crossbucklaw23_PolicyTells.f k a0_0 a0_1 a0_2 a0_3 a0_4 a0_5 a0_6 a0_7 a0_8 a0_9 a0_10 l0_11 l1 a2_0 a2_1 a3 a4_0 a4_1 a4_2 a5 a6 = some true := by
  intro a0 a1 a2 a3 a4 a5 a6 a7 a8 a9 r l0 l ph s pr rp rw rj had n _ _ _ _ _ _ _ _ _
  refine Ev.rounds ?_
  simp only [crossbucklaw23_PolicyTells.f, small23, Option.bind_some]
  by_cases g : (l.length : Int) > 100
  · simp only [g, if_true]; exact Ev.now true
  simp only [g, if_false]
  refine Ev.bind (restart_ev rp rw rj had n) ?_
  have hr := refrestart_loop had n rp rw rj (rsN n) 0 (by omega)
  refine Ev.bind (f := _) (show Ev (fun k => crossbuckref23_Restart.f k rp rw rj had n) _ from Ev.congr (fun k => rfl) hr) ?_
  simp only [if_true]
  refine Ev.bind (sig_ev a0 a1 a2 a3 a4 a5 a6 a7 a8 a9 r l0 l ph s pr (by omega)) ?_
  refine Ev.bind (refsig_ev a0 a1 a2 a3 a4 a5 a6 a7 a8 a9 r l0 l ph s pr (by omega)) ?_
  simp only [if_true, beq_self_eq_true, Bool.and_self]
  refine Ev.bind (f := fun _ t => some t) (a := true) ?_ (Ev.now true)
  have h8 := rsN_le n
  simp only [crossbuckref23_Same.f, if_true]
  exact same_loop _ (by rw [rowF_len]; exact h8) (rowF (if had = true then rw else 0) (if had = true then rj else 0) (rsN n)).length 0 (by omega)
end Go.Proofs.Ytnmcnailgdcmoaa.Pure
