/- The plain law of TrackTrains, over numbers and lists. -/
import Derived.Test.YtnmcnailgdcmoaaBx6
import Derived.Test.YtnmcnailgdcmoaaPureTrack
namespace Go.Proofs.Ytnmcnailgdcmoaa.Pure
open Go.RowKit Go.Proofs.Ytnmcnailgdcmoaa.B Go.Proofs.Ytnmcnailgdcmoaa.Track Go.Proofs.YtnmcnailgdcmoaaW.PrintWords Go.Proofs.YtnmcnailgdcmoaaW.PrintLast Go.Proofs.YtnmcnailgdcmoaaW.PrintMore
set_option linter.unusedVariables false
set_option linter.unusedSimpArgs false
theorem small12 : crossbucklaw12_small.f = some true := rfl
theorem gray0 : gray4 0 = 0 := rfl
theorem pos0 (p : Int) : posN 0 p = p := by unfold posN; rw [if_neg (by decide), if_neg (by decide)]
/-- A fresh tick, with the treadles at rest. -/
theorem calm (k : Nat) (h : Bool) (ai ao pos : Int) (cl : Bool) (si : Int) (fa ca : Bool) (ci co cc d0 d1 d2 : Int)
    (hl : h = true → (ci - ai) % 256 ≤ 64 ∧ (co - ao) % 256 ≤ 64) (ho : (ci - co) % 256 < 128) (c : Bool) (hc : ((ci - co) % 256 == 0) = c) :
    track_Step.f (k + 4) h ai ao false 0 pos false cl si fa ca true ci co cc 0 d0 d1 d2 false = some (true, ci % 256, co % 256, false, 0, pos, false, c, sN c si, false, kN c false (sN c si) (wait cc d0 d1 d2)) := by
  have e1 : wN true false h ai ao false ci co = false := by
    unfold wN w0 B.ahead
    rw [if_neg (by decide), if_pos (by first | trivial | rfl | simp), decide_eq_false (show ¬ 128 ≤ (ci - co) % 256 by omega)]
    cases h
    · rfl
    · obtain ⟨g1, g2⟩ := hl rfl
      rw [decide_eq_false (show ¬ 64 < (ci - ai) % 256 by omega), decide_eq_false (show ¬ 64 < (co - ao) % 256 by omega)]
      rfl
  have e2 : jN true false 0 false 0 = false := rfl
  have e3 : fN true false false = false := rfl
  have e4 : cN false (hN true h) false (iN true ai ci) (iN true ao co) (lN true 0 0) false = c := by
    unfold cN hN iN lN B.ahead
    rw [if_pos (by first | trivial | rfl | simp), if_pos (by first | trivial | rfl | simp), if_pos (by first | trivial | rfl | simp)]
    have : (ci % 256 - co % 256) % 256 = (ci - co) % 256 := by omega
    rw [this, hc]
    cases c <;> rfl
  rw [step_eq k h ai ao false 0 pos false cl si fa ca true ci co cc 0 d0 d1 d2 false false false false c (sN c si) e1 e2 e3 e4 rfl]
  have e5 : pN true 0 pos 0 = pos := by unfold pN; rw [if_pos (by first | trivial | rfl | simp), gray0]; exact pos0 pos
  rw [e5]
  rfl
theorem trains_loop (x0 x1 x2 x4 d0 d1 d2 : Int) (h1 : 1 ≤ x1 ∧ x1 ≤ 64) (h2 : 0 ≤ x2 ∧ x2 ≤ 2) (h4 : x4 ≤ 200) : ∀ (d : Nat) (i ai ao p : Int) (cl fa ca : Bool), 1 ≤ i → i ≤ x4 + 1 → x4 + 1 - i = d →
    ((x0 - ai) % 256 = 0 ∨ (x0 + x1 - ai) % 256 = 0) → (x0 - ao) % 256 = 0 →
    Ev (fun k => crossbucklaw12_TrackTrains.l0 k x0 x1 x2 x4 true i d0 d1 d2 true ai ao false 0 p false cl (i - 1) fa ca) true := by
  intro d
  induction d with
  | zero =>
    intro i ai ao p cl fa ca hi hx hd ha hao
    refine ⟨5, fun k hk => ?_⟩
    obtain ⟨q, rfl⟩ : ∃ q, k = q + 4 + 1 := ⟨k - 5, by omega⟩
    simp only [crossbucklaw12_TrackTrains.l0]
    rw [if_neg (by omega), calm q true ai ao p cl (i - 1) fa ca (wrap64 (x0 + x1)) (wrap64 (x0 + x1)) x2 d0 d1 d2 (fun _ => by unfold wrap64; omega) (by omega) true (by simp)]
    simp [kN, sN]
  | succ d ih =>
    intro i ai ao p cl fa ca hi hx hd ha hao
    have e0 : wrap64 (i + 1) = i + 1 := by unfold wrap64; omega
    have es : sN false (i - 1) = i := by
      unfold sN mn mx
      rw [if_neg (by decide)]
      split <;> split <;> omega
    have hn := ih (i + 1) (wrap64 (x0 + x1) % 256) (x0 % 256) p false false (kN false false i (wait x2 d0 d1 d2)) (by omega) (by omega) (by omega) (by right; unfold wrap64; omega) (by omega)
    rw [show i + 1 - 1 = i by omega] at hn
    obtain ⟨K, hK⟩ := hn
    refine ⟨K + 5, fun k hk => ?_⟩
    obtain ⟨q, rfl⟩ : ∃ q, k = q + 4 + 1 := ⟨k - 5, by omega⟩
    have hq := hK (q + 4) (by omega)
    simp only [crossbucklaw12_TrackTrains.l0]
    rw [if_pos (by omega), calm q true ai ao p cl (i - 1) fa ca (wrap64 (x0 + x1)) x0 x2 d0 d1 d2 (fun _ => by unfold wrap64; omega) (by unfold wrap64; omega) false (by unfold wrap64; rw [beq_eq_false_iff_ne]; omega), es, e0]
    simp only [Option.bind_some]
    rw [if_neg (by decide), if_neg (by decide), if_pos (by first | trivial | rfl | simp)]
    rcases (show x2 = 0 ∨ x2 = 1 ∨ x2 = 2 by omega) with g | g | g <;> subst g
    · rw [if_pos (by first | trivial | rfl), if_neg (by simp [kN, wait])]; exact hq
    · rw [if_neg (by decide), if_pos (by first | trivial | rfl), if_neg (by simp [kN, wait])]; exact hq
    · rw [if_neg (by decide), if_neg (by decide), if_pos (by first | trivial | rfl), if_neg (by simp [kN, wait])]; exact hq

theorem TrackTrains : ∀ (a0 a1 a2 a3_0 a3_1 a3_2 a4 : Int), (Lit.int .i64 a0).wf = true → (Lit.int .i64 a1).wf = true → (Lit.int .i64 a2).wf = true → (Lit.int .i64 a3_0).wf = true → (Lit.int .i64 a3_1).wf = true → (Lit.int .i64 a3_2).wf = true → (Lit.int .i64 a4).wf = true → ∃ k, crossbucklaw12_TrackTrains.f k a0 a1 a2 a3_0 a3_1 a3_2 a4 = some true := by
  intro x0 x1 x2 d0 d1 d2 x4 _ _ _ _ _ _ _
  refine Ev.rounds ?_
  have out : Ev (fun k => crossbucklaw12_TrackTrains.j0 k x0 x1 x2 x4 true true d0 d1 d2) true :=
    Ev.step (f := fun _ => some true) (fun k => by simp only [crossbucklaw12_TrackTrains.j0]; rw [if_pos (by first | trivial | rfl | simp)]) (Ev.now true)
  by_cases g1 : x1 < 1
  · refine Ev.congr (fun k => ?_) out
    unfold crossbucklaw12_TrackTrains.f; rw [small12, Option.bind_some, if_pos g1]
  by_cases g2 : x1 > 64
  · refine Ev.congr (fun k => ?_) out
    unfold crossbucklaw12_TrackTrains.f; rw [small12, Option.bind_some, if_neg g1, if_pos g2]
  by_cases g3 : x2 < 0
  · refine Ev.congr (fun k => ?_) out
    unfold crossbucklaw12_TrackTrains.f; rw [small12, Option.bind_some, if_neg g1, if_neg g2, if_pos g3]
  by_cases g4 : x2 > 2
  · refine Ev.congr (fun k => ?_) out
    unfold crossbucklaw12_TrackTrains.f; rw [small12, Option.bind_some, if_neg g1, if_neg g2, if_neg g3, if_pos g4]
  by_cases g5 : x4 < 1
  · refine Ev.congr (fun k => ?_) out
    unfold crossbucklaw12_TrackTrains.f; rw [small12, Option.bind_some, if_neg g1, if_neg g2, if_neg g3, if_neg g4, if_pos g5]
  by_cases g6 : x4 > 200
  · refine Ev.congr (fun k => ?_) out
    unfold crossbucklaw12_TrackTrains.f; rw [small12, Option.bind_some, if_neg g1, if_neg g2, if_neg g3, if_neg g4, if_neg g5, decide_eq_true g6]
  refine Ev.congr (f := fun k => crossbucklaw12_TrackTrains.j0 k x0 x1 x2 x4 true false d0 d1 d2) (fun k => ?_) ?_
  · unfold crossbucklaw12_TrackTrains.f; rw [small12, Option.bind_some, if_neg g1, if_neg g2, if_neg g3, if_neg g4, if_neg g5, decide_eq_false g6]
  have hl := trains_loop x0 x1 x2 x4 d0 d1 d2 (by omega) (by omega) (by omega) x4.toNat 1 (x0 % 256) (x0 % 256) 0 true false false (by omega) (by omega) (by omega) (by left; omega) (by omega)
  rw [show (1 : Int) - 1 = 0 by omega] at hl
  obtain ⟨K, hK⟩ := hl
  refine ⟨K + 6, fun k hk => ?_⟩
  obtain ⟨q, rfl⟩ : ∃ q, k = q + 4 + 1 := ⟨k - 5, by omega⟩
  simp only [crossbucklaw12_TrackTrains.j0]
  rw [if_neg (by decide), calm q false 0 0 0 false 0 false false x0 x0 0 d0 d1 d2 (fun h => by cases h) (by omega) true (by simp)]
  simp only [Option.bind_some]
  rw [if_pos (by first | trivial | rfl | simp)]
  obtain ⟨q2, rfl⟩ : ∃ q2, q = q2 + 1 := ⟨q - 1, by omega⟩
  show crossbucklaw12_TrackTrains.j1 (q2 + 1 + 4) _ _ _ _ _ _ _ _ _ _ _ _ _ _ _ _ _ _ _ _ = _
  rw [show q2 + 1 + 4 = (q2 + 4) + 1 by omega]
  simp only [crossbucklaw12_TrackTrains.j1]
  rw [if_neg (by simp [kN])]
  exact hK (q2 + 4) (by omega)
end Go.Proofs.Ytnmcnailgdcmoaa.Pure
