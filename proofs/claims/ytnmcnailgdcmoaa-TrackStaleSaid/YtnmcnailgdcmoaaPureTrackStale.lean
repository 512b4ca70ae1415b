/- The plain law of TrackStale, over numbers and lists. -/
import Derived.Test.YtnmcnailgdcmoaaBx7
import Derived.Test.YtnmcnailgdcmoaaPureTrack
namespace Go.Proofs.Ytnmcnailgdcmoaa.Pure
open Go.RowKit Go.Proofs.Ytnmcnailgdcmoaa.B Go.Proofs.Ytnmcnailgdcmoaa.Track Go.Proofs.YtnmcnailgdcmoaaW.PrintWords Go.Proofs.YtnmcnailgdcmoaaW.PrintLast Go.Proofs.YtnmcnailgdcmoaaW.PrintMore
set_option linter.unusedVariables false
set_option linter.unusedSimpArgs false
theorem small12' : crossbucklaw12_small.f = some true := rfl
theorem stale (k : Nat) (h : Bool) (ai ao : Int) (wr : Bool) (lie pos : Int) (jm cl : Bool) (si : Int) (fa ca : Bool) (ci co cc cb d0 d1 d2 : Int) :
    track_Step.f (k + 4) h ai ao wr lie pos jm cl si fa ca false ci co cc cb d0 d1 d2 false = some (h, ai, ao, wr, lie, pos, jm, false, mn (mx si 0) 1073741823 + 1, true, true) := by
  rw [step_eq k h ai ao wr lie pos jm cl si fa ca false ci co cc cb d0 d1 d2 false wr jm true false (mn (mx si 0) 1073741823 + 1) rfl rfl rfl rfl rfl]
  rfl
theorem stale_loop (x3 : Int) (h3 : 1 ≤ x3 ∧ x3 ≤ 200) (h : Bool) (ai ao : Int) (wr : Bool) (lie pos : Int) (jm cl0 : Bool) (si0 : Int) (fa0 ca0 : Bool) (ci co cc cb d0 d1 d2 : Int) : ∀ (d : Nat) (i : Int) (cl : Bool) (si : Int) (fa ca : Bool), 0 ≤ i → i ≤ x3 → x3 - i = d →
    (1 ≤ i → cl = false ∧ fa = true ∧ ca = true ∧ i ≤ si) →
    Ev (fun k => crossbucklaw12_TrackStale.l0 k x3 true i h ai ao wr lie pos jm cl0 si0 fa0 ca0 false ci co cc cb d0 d1 d2 h ai ao wr lie pos jm cl si fa ca) true := by
  intro d
  induction d with
  | zero =>
    intro i cl si fa ca h0 hx hd hi
    obtain ⟨rfl, rfl, rfl, hs⟩ := hi (by omega)
    refine Ev.step (f := fun k => some true) (fun k => ?_) (Ev.now true)
    simp only [crossbucklaw12_TrackStale.l0]
    rw [if_neg (by omega), if_pos (by first | trivial | rfl | simp), if_pos (by simp), if_pos (by simp), if_pos (by first | trivial | rfl | simp), if_pos (by first | trivial | rfl | simp), if_neg (by decide), decide_eq_true (by omega)]
  | succ d ih =>
    intro i cl si fa ca h0 hx hd hi
    have e0 : wrap64 (i + 1) = i + 1 := by unfold wrap64; omega
    obtain ⟨K, hK⟩ := ih (i + 1) false (mn (mx si 0) 1073741823 + 1) true true (by omega) (by omega) (by omega) (fun _ => ⟨rfl, rfl, rfl, by
      by_cases g : 1 ≤ i
      · have := (hi g).2.2.2
        unfold mn mx
        split <;> split <;> omega
      · unfold mn mx
        split <;> split <;> omega⟩)
    refine ⟨K + 5, fun k hk => ?_⟩
    obtain ⟨q, rfl⟩ : ∃ q, k = q + 4 + 1 := ⟨k - 5, by omega⟩
    simp only [crossbucklaw12_TrackStale.l0]
    rw [if_pos (by omega), stale, Option.bind_some, e0]
    exact hK (q + 4) (by omega)
theorem TrackStale : ∀ (a0_0 : Bool) (a0_1 : Int) (a0_2 : Int) (a0_3 : Bool) (a0_4 : Int) (a0_5 : Int) (a0_6 : Bool) (a0_7 : Bool) (a0_8 : Int) (a0_9 : Bool) (a0_10 : Bool) (a1_0 : Bool) (a1_1 : Int) (a1_2 : Int) (a1_3 : Int) (a1_4 : Int) (a2_0 : Int) (a2_1 : Int) (a2_2 : Int) (a3 : Int), (Lit.int .i64 a0_1).wf = true → (Lit.int .i64 a0_2).wf = true → (Lit.int .i64 a0_4).wf = true → (Lit.int .i64 a0_5).wf = true → (Lit.int .i64 a0_8).wf = true → (Lit.int .i64 a1_1).wf = true → (Lit.int .i64 a1_2).wf = true → (Lit.int .i64 a1_3).wf = true → (Lit.int .i64 a1_4).wf = true → (Lit.int .i64 a2_0).wf = true → (Lit.int .i64 a2_1).wf = true → (Lit.int .i64 a2_2).wf = true → (Lit.int .i64 a3).wf = true → ∃ k, crossbucklaw12_TrackStale.f k a0_0 a0_1 a0_2 a0_3 a0_4 a0_5 a0_6 a0_7 a0_8 a0_9 a0_10 a1_0 a1_1 a1_2 a1_3 a1_4 a2_0 a2_1 a2_2 a3 = some true := by
  intro h ai ao wr lie pos jm cl si fa ca fr ci co cc cb d0 d1 d2 n _ _ _ _ _ _ _ _ _ _ _ _ _
  refine Ev.rounds ?_
  have out : Ev (fun k => crossbucklaw12_TrackStale.j0 k n true true h ai ao wr lie pos jm cl si fa ca fr ci co cc cb d0 d1 d2) true :=
    Ev.step (f := fun _ => some true) (fun k => by simp only [crossbucklaw12_TrackStale.j0]; rw [if_pos (by first | trivial | rfl | simp)]) (Ev.now true)
  by_cases g1 : n < 1
  · refine Ev.congr (fun k => ?_) out
    unfold crossbucklaw12_TrackStale.f; rw [small12', Option.bind_some, if_pos g1]
  by_cases g2 : n > 200
  · refine Ev.congr (fun k => ?_) out
    unfold crossbucklaw12_TrackStale.f; rw [small12', Option.bind_some, if_neg g1, decide_eq_true g2]
  refine Ev.congr (f := fun k => crossbucklaw12_TrackStale.j0 k n true false h ai ao wr lie pos jm cl si fa ca fr ci co cc cb d0 d1 d2) (fun k => ?_) ?_
  · unfold crossbucklaw12_TrackStale.f; rw [small12', Option.bind_some, if_neg g1, decide_eq_false g2]
  refine Ev.step (fun k => ?_) (stale_loop n (by omega) h ai ao wr lie pos jm cl si fa ca ci co cc cb d0 d1 d2 n.toNat 0 cl si fa ca (by omega) (by omega) (by omega) (fun h => absurd h (by omega)))
  simp only [crossbucklaw12_TrackStale.j0]
  rw [if_neg (by decide)]
end Go.Proofs.Ytnmcnailgdcmoaa.Pure
