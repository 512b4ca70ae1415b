/- The plain law of PolicyRestarts. -/
import Derived.Test.YtnmcnailgdcmoaaAx8
import Derived.Test.YtnmcnailgdcmoaaPureSig
import Derived.Test.YtnmcnailgdcmoaaPureRestart
namespace Go.Proofs.Ytnmcnailgdcmoaa.Pure
open Go.RowKit Go.Proofs.Ytnmcnailgdcmoaa.A Go.Proofs.YtnmcnailgdcmoaaW.PrintWords Go.Proofs.YtnmcnailgdcmoaaW.PrintLast Go.Proofs.YtnmcnailgdcmoaaW.PrintMore
set_option linter.unusedVariables false
set_option linter.unusedSimpArgs false
theorem rd_rowF (wr ju : Int) (n q : Nat) (h : q < n) : rd_T31 (rowF wr ju n) (q : Int) = trackR wr ju q := by
  unfold rd_T31 rowF
  rw [Int.toNat_natCast, List.getD_eq_getElem?_getD, List.getElem?_map, List.getElem?_range h]
  rfl
theorem mn_mx (t : Int) : (rsN t : Int) = mn (mx t 0) 8 := by
  rw [rsN_eq]
  unfold mn mx
  (repeat' split) <;> omega
theorem restarts_loop (t ph wr ju W J p : Int) (hp : 1 ≤ p ∧ p ≤ 6 ∧ (p = ph ∨ p = 6 ∧ ph = 0 ∨ p = 3)) : ∀ (d i : Nat), i + d = rsN t → Ev (fun k => crossbucklaw23_PolicyRestarts.l0 k t true (rowF W J (rsN t)) (i : Int) ph wr ju p 1) true := by
  intro d
  induction d with
  | zero =>
    intro i hi
    refine Ev.step (f := fun _ => some true) (fun k => ?_) (Ev.now _)
    simp only [crossbucklaw23_PolicyRestarts.l0]
    rw [rowF_len, if_neg (by omega), if_pos (by first | trivial | rfl), if_pos (mn_mx t), if_pos (by first | trivial | rfl), if_neg (by omega), if_pos (by omega), if_pos (by omega)]
    by_cases g : p = ph
    · rw [if_pos g]
    · rw [if_neg g]
      by_cases g6 : p = 6
      · rw [if_pos g6]
        by_cases g0 : ph = 0
        · rw [if_pos g0]
        · rw [if_neg g0]; simp; omega
      · rw [if_neg g6]; simp; omega
  | succ d ih =>
    intro i hi
    have hlt : i < rsN t := by omega
    have h8 := rsN_le t
    have e0 : wrap64 ((i : Int) + 1) = ((i + 1 : Nat) : Int) := by unfold wrap64; omega
    refine Ev.step (f := fun k => crossbucklaw23_PolicyRestarts.l0 k t true (rowF W J (rsN t)) ((i + 1 : Nat) : Int) ph wr ju p 1) (fun k => ?_) (ih (i + 1) (by omega))
    simp only [crossbucklaw23_PolicyRestarts.l0]
    rw [rowF_len, if_pos (by omega), if_pos (by omega), rd_rowF W J _ i hlt, e0]
    simp [trackR]
theorem PolicyRestarts : ∀ (a0_0 : Int) (a0_1 : Int) (a0_2 : Int) (a1 : Bool) (a2 : Int), (Lit.int .i64 a0_0).wf = true → (Lit.int .i64 a0_1).wf = true → (Lit.int .i64 a0_2).wf = true → (Lit.int .i64 a2).wf = true → ∃ k, crossbucklaw23_PolicyRestarts.f k a0_0 a0_1 a0_2 a1 a2 = some true := by
  intro ph wr ju had t _ _ _ _
  refine Ev.rounds ?_
  have hr := restart_ev ph wr ju had t
  simp only [crossbucklaw23_PolicyRestarts.f, small23, Option.bind_some]
  refine Ev.bind hr ?_
  refine restarts_loop t ph wr ju _ _ _ ?_ (rsN t) 0 (by omega)
  cases had
  · have e : rsNew (if false = true then ph else 7) = 3 := rfl
    exact ⟨by show (1 : Int) ≤ rsNew (if (false : Bool) = true then ph else 7); rw [e]; decide, by show rsNew (if (false : Bool) = true then ph else 7) ≤ (6 : Int); rw [e]; decide, Or.inr (Or.inr e)⟩
  · simp only [if_true]
    unfold rsNew
    split
    · exact ⟨by decide, by decide, Or.inr (Or.inr rfl)⟩
    · split
      · exact ⟨by decide, by decide, Or.inr (Or.inl ⟨rfl, by assumption⟩)⟩
      · exact ⟨by omega, by omega, Or.inl rfl⟩
end Go.Proofs.Ytnmcnailgdcmoaa.Pure
