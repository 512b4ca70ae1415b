/- How one begins again, in plain words: what the printed policy.Restart comes to. -/
import Derived.Test.YtnmcnailgdcmoaaAx3
import Derived.Test.YtnmcnailgdcmoaaArith
namespace Go.Proofs.Ytnmcnailgdcmoaa.Pure
open Go.RowKit Go.Proofs.Ytnmcnailgdcmoaa.A Go.Proofs.YtnmcnailgdcmoaaW.PrintWords Go.Proofs.YtnmcnailgdcmoaaW.PrintLast Go.Proofs.YtnmcnailgdcmoaaW.PrintMore
set_option linter.unusedVariables false
set_option linter.unusedSimpArgs false

def bitAt (m : Int) (j : Nat) : Bool := Go.bits .and .i64 (shr .i64 m (j : Int)) 1 == 1
def trackR (wr ju : Int) (j : Nat) : S31 := ⟨⟨false, 0, 0, bitAt wr j⟩, ⟨0, 0, bitAt ju j⟩, false, 0, false, false⟩
def rowR (wr ju : Int) (n k : Nat) : List S31 := (List.range n).map fun j => if j < k then trackR wr ju j else z31
def rowF (wr ju : Int) (n : Nat) : List S31 := (List.range n).map (trackR wr ju)
theorem rowR_len (wr ju : Int) (n k : Nat) : (rowR wr ju n k).length = n := by unfold rowR; simp
theorem rowF_len (wr ju : Int) (n : Nat) : (rowF wr ju n).length = n := by unfold rowF; simp
theorem rowR_get (wr ju : Int) (n k : Nat) (h : k < n) : (rowR wr ju n k)[k]? = some z31 := by
  unfold rowR
  rw [List.getElem?_map, List.getElem?_range h]
  simp
theorem rowR_set (wr ju : Int) (n k : Nat) (h : k < n) : (rowR wr ju n k).set k (trackR wr ju k) = rowR wr ju n (k + 1) := by
  apply List.ext_getElem?
  intro q
  rw [List.getElem?_set]
  unfold rowR
  by_cases hq : k = q
  · subst hq
    rw [if_pos rfl, if_pos (by simpa using h), List.getElem?_map, List.getElem?_range h]
    simp
  · rw [if_neg hq, List.getElem?_map, List.getElem?_map]
    by_cases hn : q < n
    · rw [List.getElem?_range hn]
      simp only [Option.map_some]
      by_cases hk : q < k
      · rw [if_pos hk, if_pos (by omega)]
      · rw [if_neg hk, if_neg (by omega)]
    · rw [List.getElem?_eq_none (by simpa using hn)]
      rfl
theorem rowR_zero (wr ju : Int) (n : Nat) : rowR wr ju n 0 = List.replicate n z31 := by
  apply List.ext_getElem?
  intro q
  unfold rowR
  rw [List.getElem?_map, List.getElem?_replicate]
  by_cases hn : q < n
  · rw [List.getElem?_range hn, if_pos hn]; simp
  · rw [List.getElem?_eq_none (by simpa using hn), if_neg hn]; rfl
theorem rowR_all (wr ju : Int) (n : Nat) : rowR wr ju n n = rowF wr ju n := by
  unfold rowR rowF
  apply List.map_congr_left
  intro j hj
  rw [if_pos (by simpa using hj)]
def rsNew (p : Int) : Int := if p < 0 ∨ p ≥ 7 then 3 else if p = 0 then 6 else p
def rsN (t : Int) : Nat := (mx 0 (mn t 8)).toNat
theorem rsN_eq (t : Int) : (rsN t : Int) = mx 0 (mn t 8) := by
  unfold rsN mx mn
  split <;> split <;> omega
theorem rsN_le (t : Int) : rsN t ≤ 8 := by
  unfold rsN mx mn
  split <;> split <;> omega
theorem set_eq (m : Int) (j : Nat) : policy_set.f m (j : Int) = some (bitAt m j) := by
  unfold policy_set.f
  rw [if_pos (Int.natCast_nonneg j)]
  rfl
theorem enter_eq (p : Int) (h : 0 ≤ p ∧ p ≤ 7) : phase_Enter.f p = some (p, 1) := by
  unfold phase_Enter.f
  rw [if_neg (by omega), if_neg (by omega)]
theorem restart_loop (ph wr ju : Int) (n : Nat) (hn : n ≤ 8) : ∀ (d j : Nat), j + d = n → Ev (fun k => policy_Restart.l0 k (rowR wr ju n j) (n : Int) (j : Int) ph wr ju) (rsNew ph, 1, rowF wr ju n) := by
  intro d
  induction d with
  | zero =>
    intro j hj
    obtain rfl : j = n := by omega
    refine Ev.step (f := fun _ => some (rsNew ph, 1, rowF wr ju j)) (fun k => ?_) (Ev.now _)
    simp only [policy_Restart.l0]
    rw [if_neg (by omega), rowR_all]
    unfold rsNew
    by_cases g0 : ph < 0
    · rw [if_pos g0, if_pos (Or.inl g0), enter_eq 3 (by omega)]; rfl
    · rw [if_neg g0]
      by_cases g7 : ph ≥ 7
      · rw [if_pos g7, if_pos (Or.inr g7), enter_eq 3 (by omega)]; rfl
      · rw [if_neg g7, if_neg (show ¬ (ph < 0 ∨ ph ≥ 7) by omega)]
        by_cases e0 : ph = 0
        · rw [if_pos e0, if_pos e0, enter_eq 6 (by omega)]; rfl
        · rw [if_neg e0, if_neg e0, enter_eq ph (by omega)]; rfl
  | succ d ih =>
    intro j hj
    have hlt : j < n := by omega
    have e0 : wrap64 ((j : Int) + 1) = ((j + 1 : Nat) : Int) := by unfold wrap64; omega
    refine Ev.step (f := fun k => policy_Restart.l0 k (rowR wr ju n (j + 1)) (n : Int) ((j + 1 : Nat) : Int) ph wr ju) (fun k => ?_) (ih (j + 1) (by omega))
    simp only [policy_Restart.l0]
    have er : rd_T31 (rowR wr ju n j) (j : Int) = z31 := by
      unfold rd_T31
      rw [Int.toNat_natCast, List.getD_eq_getElem?_getD, rowR_get wr ju n j hlt]
      rfl
    rw [if_pos (by omega), set_eq, set_eq]
    simp only [Option.bind_some, rowR_len, Int.toNat_natCast]
    rw [if_pos (by omega), if_pos (by omega), er, e0]
    have er2 : ∀ x : S31, rd_T31 ((rowR wr ju n j).set j x) (j : Int) = x := by
      intro x
      unfold rd_T31
      rw [Int.toNat_natCast, List.getD_eq_getElem?_getD, List.getElem?_set_self (by rw [rowR_len]; exact hlt)]
      rfl
    rw [er2, List.set_set]
    have := rowR_set wr ju n j hlt
    rw [← this]
    rfl
theorem restart_ev (ph wr ju : Int) (had : Bool) (t : Int) : Ev (fun k => policy_Restart.f k ph wr ju had t) (rsNew (if had = true then ph else 7), 1, rowF (if had = true then wr else 0) (if had = true then ju else 0) (rsN t)) := by
  have main : ∀ p w u : Int, Ev (fun k => policy_Restart.j0 k t p w u) (rsNew p, 1, rowF w u (rsN t)) := by
    intro p w u
    refine Ev.step (fun k => ?_) (restart_loop p w u (rsN t) (rsN_le t) (rsN t) 0 (by omega))
    simp only [policy_Restart.j0]
    have h1 := rsN_eq t
    have h2 := rsN_le t
    rw [if_pos (by omega), if_pos (by show rsN t ≤ _; omega)]
    show (some (List.replicate (rsN t) z31)).bind _ = _
    rw [Option.bind_some, List.length_replicate, rowR_zero]
    rfl
  cases had
  · refine Ev.congr (fun k => ?_) (main 7 0 0)
    unfold policy_Restart.f
    rw [if_neg (by decide)]
  · refine Ev.congr (fun k => ?_) (main ph wr ju)
    unfold policy_Restart.f
    rw [if_pos rfl]
end Go.Proofs.Ytnmcnailgdcmoaa.Pure
