/- The plain law of PairBack. -/
import Derived.Test.YtllmckdmglacdaaAx6
import Derived.Test.YtllmckdmglacdaaPurePair
namespace Go.Proofs.Ytllmckdmglacdaa.Pure
open Go.RowKit Go.Proofs.Ytllmckdmglacdaa.A Go.Proofs.YtllmckdmglacdaaW.PrintWords Go.Proofs.YtllmckdmglacdaaW.PrintLast
set_option linter.unusedVariables false
set_option linter.unusedSimpArgs false

/-- A pair after the first n lies. -/
def fwd (l : List Int) (pos : Int) : Nat → Int × Int × Bool
  | 0 => (0, pos, false)
  | n + 1 => sp (fwd l pos n).1 (fwd l pos n).2.1 (fwd l pos n).2.2 (rd l n)
theorem fwd_near (l : List Int) (pos : Int) (hp : -4611686018427387904 ≤ pos ∧ pos ≤ 4611686018427387904) : ∀ n : Nat, n ≤ 200 → pos - n ≤ (fwd l pos n).2.1 ∧ (fwd l pos n).2.1 ≤ pos + n
  | 0, _ => by simp [fwd]
  | n + 1, hn => by
    have ih := fwd_near l pos hp n (by omega)
    have hd := dl_lt ((gray4 (rd l n) - gray4 (fwd l pos n).1) % 4)
    rw [fwd, sp_eq _ _ _ _ (by omega)]
    simp only []
    omega
theorem fwd_lie (l : List Int) (pos : Int) (n : Nat) : (fwd l pos (n + 1)).1 = rd l n % 4 := rfl
theorem fwd_jump (l : List Int) (pos : Int) (n : Nat) (h : (fwd l pos (n + 1)).2.2 = false) : (fwd l pos n).2.2 = false := by
  rw [fwd, sp] at h
  simp only [Bool.or_eq_false_iff] at h
  exact h.1
theorem fwd_jumps (l : List Int) (pos : Int) : ∀ (m n : Nat), n ≤ m → (fwd l pos m).2.2 = false → (fwd l pos n).2.2 = false
  | 0, n, h, hj => by rw [Nat.le_zero.1 h]; exact hj
  | m + 1, n, h, hj => by
    rcases Nat.lt_or_eq_of_le h with h | h
    · exact fwd_jumps l pos m n (by omega) (fwd_jump l pos m hj)
    · rw [h]; exact hj
/-- A step back along a lie that the pair came from. -/
theorem back_sp (l : List Int) (pos : Int) (hp : -4611686018427387904 ≤ pos ∧ pos ≤ 4611686018427387904) (n : Nat) (hn : n < 200) (a : Int) (ha : a % 4 = (fwd l pos n).1 % 4) (hj : (fwd l pos (n + 1)).2.2 = false) :
    sp (fwd l pos (n + 1)).1 (fwd l pos (n + 1)).2.1 (fwd l pos (n + 1)).2.2 a = (a % 4, (fwd l pos n).2.1, false) := by
  have h1 := fwd_near l pos hp n (by omega)
  have h2 := fwd_near l pos hp (n + 1) (by omega)
  rw [sp_eq _ _ _ _ (by omega), hj]
  have hga : gray4 a = gray4 (fwd l pos n).1 := by rw [← gray4_mod a, ha, gray4_mod]
  have e1 : (fwd l pos (n + 1)).2.1 = (fwd l pos n).2.1 + dl ((gray4 (rd l n) - gray4 (fwd l pos n).1) % 4) := by rw [fwd, sp_eq _ _ _ _ (by omega)]
  have hw : (gray4 (rd l n) - gray4 (fwd l pos n).1) % 4 ≠ 2 := by
    rw [fwd, sp] at hj
    simp only [Bool.or_eq_false_iff, decide_eq_false_iff_not] at hj
    exact hj.2
  rw [fwd_lie, gray4_mod, e1, hga]
  generalize gray4 (rd l n) = x at *
  generalize gray4 (fwd l pos n).1 = y at *
  have hz : (x - y) % 4 = 0 ∨ (x - y) % 4 = 1 ∨ (x - y) % 4 = 3 := by omega
  rcases hz with h | h | h
  · rw [h, show (y - x) % 4 = 0 by omega]; simp [dl]
  · rw [h, show (y - x) % 4 = 3 by omega]; simp [dl]; omega
  · rw [h, show (y - x) % 4 = 1 by omega]; simp [dl]; omega
theorem bk_loop (l : List Int) (pos : Int) (hp : -4611686018427387904 ≤ pos ∧ pos ≤ 4611686018427387904) (hl : l.length ≤ 200) (h1 : 1 ≤ l.length) (hj : (fwd l pos l.length).2.2 = false) :
    ∀ (i : Nat), i < l.length → ∀ lie p (j : Bool), (lie, p, j) = fwd l pos (i + 1) → Ev (fun k => crossbucklaw10_PairBack.l1 k l true ((i : Int) - 1) 0 pos false lie p j) true
  | 0, hi, lie, p, j, he => by
    refine Ev.step (fun k => by rw [crossbucklaw10_PairBack.l1, if_neg (show ¬ ((0 : Nat) : Int) - 1 ≥ 0 by omega), if_pos (show (l.length : Int) > 0 by omega), step_sp, Option.bind_some, if_pos rfl]) ?_
    have hjj := fwd_jumps l pos _ 1 hi hj
    have hb := back_sp l pos hp 0 (by omega) 0 rfl hjj
    rw [← he] at hb
    rw [hb]
    simp [fwd]
    exact Ev.now true
  | i + 1, hi, lie, p, j, he => by
    have e : wrap64 (((i + 1 : Nat) : Int) - 1 - 1) = (i : Int) - 1 := by unfold wrap64; omega
    have e0 : ((i + 1 : Nat) : Int) - 1 = (i : Int) := by omega
    refine Ev.step (fun k => by rw [crossbucklaw10_PairBack.l1, if_pos (show ((i + 1 : Nat) : Int) - 1 ≥ 0 by omega), if_pos (show 0 ≤ ((i + 1 : Nat) : Int) - 1 by omega), if_pos (show ((i + 1 : Nat) : Int) - 1 < (l.length : Int) by omega), step_sp, Option.bind_some, e]) ?_
    rw [e0]
    have hjj := fwd_jumps l pos _ (i + 2) hi hj
    have hb := back_sp l pos hp (i + 1) (by omega) (rd l i) (by rw [fwd_lie]; omega) hjj
    rw [← he] at hb
    rw [hb]
    refine bk_loop l pos hp hl h1 hj i (by omega) _ _ _ ?_
    have := fwd_jumps l pos _ (i + 1) (by omega) hj
    rw [← fwd_lie l pos i, ← this]
theorem fw_loop (l : List Int) (pos : Int) (hp : -4611686018427387904 ≤ pos ∧ pos ≤ 4611686018427387904) (hl : l.length ≤ 200) : ∀ (d i : Nat), i + d = l.length → Ev (fun k => crossbucklaw10_PairBack.l0 k l true i 0 pos false (fwd l pos i).1 (fwd l pos i).2.1 (fwd l pos i).2.2) true
  | 0, i, h1 => by
    have hi : i = l.length := by omega
    subst hi
    refine Ev.step (fun k => by rw [crossbucklaw10_PairBack.l0, if_neg (show ¬ (l.length : Int) < (l.length : Int) by omega)]) ?_
    rcases Bool.eq_false_or_eq_true (fwd l pos l.length).2.2 with hj | hj
    · simp only [hj, if_true, rest_eq, Option.bind_some, Bool.not_true, Bool.and_false, Bool.not_false]
      exact Ev.now true
    · simp only [hj, Bool.false_eq_true, if_false]
      have e : wrap64 ((l.length : Int) - 2) = (l.length : Int) - 2 := by unfold wrap64; omega
      rw [e]
      cases hn : l.length with
      | zero =>
        refine Ev.step (fun k => by rw [crossbucklaw10_PairBack.l1, if_neg (show ¬ ((0 : Nat) : Int) - 2 ≥ 0 by omega), hn, if_neg (show ¬ ((0 : Nat) : Int) > 0 by omega), if_pos rfl]) ?_
        simp [fwd]
        exact Ev.now true
      | succ m =>
        rw [show ((m + 1 : Nat) : Int) - 2 = (m : Int) - 1 by omega]
        refine bk_loop l pos hp hl (by omega) hj m (by omega) _ _ _ ?_
        rw [hn] at hj
        rw [← hj]
  | d + 1, i, h1 => by
    have e : wrap64 ((i : Int) + 1) = ((i + 1 : Nat) : Int) := by unfold wrap64; omega
    refine Ev.step (fun k => by rw [crossbucklaw10_PairBack.l0, if_pos (show (i : Int) < (l.length : Int) by omega), if_pos (show 0 ≤ (i : Int) by omega), step_sp, Option.bind_some, e]) ?_
    exact fw_loop l pos hp hl d (i + 1) (by omega)
theorem PairBack : ∀ (a0 : Int) (l1 : List Int), (Lit.int .i64 a0).wf = true → (∀ x ∈ l1, (Lit.int .i64 x).wf = true) → ∃ k, crossbucklaw10_PairBack.f k a0 l1 = some true := by
  intro pos l _ _
  refine Ev.rounds (g := fun k => crossbucklaw10_PairBack.f k pos l) ?_
  simp only [crossbucklaw10_PairBack.f]
  refine Ev.bind small10_ev ?_
  have out : Ev (fun k => crossbucklaw10_PairBack.j0 k pos l true true) true := Ev.step (f := fun _ => some true) (fun k => by simp [crossbucklaw10_PairBack.j0]) (Ev.now true)
  by_cases hl : (l.length : Int) > 200
  · simp only [hl, if_true]; exact out
  · by_cases h0 : pos > 4611686018427387904
    · simp only [hl, h0, if_true, if_false]; exact out
    · simp only [hl, h0, if_false]
      by_cases h1 : pos < -4611686018427387904
      · rw [decide_eq_true h1]; exact out
      · rw [decide_eq_false h1]
        refine Ev.step (f := fun k => crossbucklaw10_PairBack.l0 k l true 0 0 pos false 0 pos false) (fun k => by simp [crossbucklaw10_PairBack.j0]) ?_
        exact fw_loop l pos (by omega) (by omega) l.length 0 (by omega)
end Go.Proofs.Ytllmckdmglacdaa.Pure
