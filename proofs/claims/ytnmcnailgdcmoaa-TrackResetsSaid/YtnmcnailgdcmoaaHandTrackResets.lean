/- TrackResets walked: what was wrong is forgotten just if there is a reset with nothing on the track. -/
import Derived.Test.YtnmcnailgdcmoaaHandSmall12
import Derived.Test.YtnmcnailgdcmoaaBx21
import Derived.Test.YtnmcnailgdcmoaaPureTrack
import Derived.Outline
import Derived.Deep.RegionHeld3
import Derived.Deep.DrawnRows
import Derived.Deep.QuietTactic
import Derived.BigQuiet
import Derived.BigRegion
import Derived.Deep.RegionWith
namespace Go.Proofs.Ytnmcnailgdcmoaa.B
open Go.RowKit Go.Proofs.YtnmcnailgdcmoaaW.PrintWords Go.Proofs.YtnmcnailgdcmoaaW.PrintLast Go.Proofs.YtnmcnailgdcmoaaW.PrintMore
set_option linter.unusedVariables false
set_option linter.unusedSimpArgs false
attribute [local go_sem] Quiet.bel_all
attribute [local go_sem ↓] Go.wp_at_zero Go.wp_at_succ
attribute [local go_sem high] eqA31
namespace Resets
open Go.Proofs.Ytnmcnailgdcmoaa.Track
theorem cases_ (a0_0 : Bool) (a0_1 : Int) (a0_2 : Int) (a0_3 : Bool) (a0_4 : Int) (a0_5 : Int) (a0_6 : Bool) (a0_7 : Bool) (a0_8 : Int) (a0_9 : Bool) (a0_10 : Bool) (a1_1 : Int) (a1_2 : Int) (a1_3 : Int) (a1_4 : Int) (a2_0 : Int) (a2_1 : Int) (a2_2 : Int) : ∃ r1 r2 r3 r4 r5 r6 r7 r8 r9 r10 r11, ∃ q1 q2 q3 q4 q5 q6 q7 q8 q9 q10 q11, track_Step.f 4 a0_0 a0_1 a0_2 a0_3 a0_4 a0_5 a0_6 a0_7 a0_8 a0_9 a0_10 true a1_1 a1_2 a1_3 a1_4 a2_0 a2_1 a2_2 false = some (r1, r2, r3, r4, r5, r6, r7, r8, r9, r10, r11) ∧ track_Step.f 4 a0_0 a0_1 a0_2 a0_3 a0_4 a0_5 a0_6 a0_7 a0_8 a0_9 a0_10 true a1_1 a1_2 a1_3 a1_4 a2_0 a2_1 a2_2 true = some (q1, q2, q3, q4, q5, q6, q7, q8, q9, q10, q11) ∧
    (((bits .and .i64 (wrap64 (a1_1 - a1_2)) 255 == 0) = true ∧ (bits .and .i64 a1_4 3 == 0) = true ∧ q8 = true ∧ q10 = false ∧ q11 = false) ∨ ((bits .and .i64 (wrap64 (a1_1 - a1_2)) 255 == 0) = false ∧ q8 = false) ∨ ((bits .and .i64 (wrap64 (a1_1 - a1_2)) 255 == 0) = true ∧ (bits .and .i64 a1_4 3 == 0) = false ∧ q8 = false)) ∧
    (r10 = true ∨ (r10 = false ∧ a0_3 = false ∧ a0_6 = false ∧ q1 = r1 ∧ q2 = r2 ∧ q3 = r3 ∧ q4 = r4 ∧ q5 = r5 ∧ q6 = r6 ∧ q7 = r7 ∧ q8 = r8 ∧ q9 = r9 ∧ q10 = r10 ∧ q11 = r11)) := by
  have sa := step_eq 0 a0_0 a0_1 a0_2 a0_3 a0_4 a0_5 a0_6 a0_7 a0_8 a0_9 a0_10 true a1_1 a1_2 a1_3 a1_4 a2_0 a2_1 a2_2 false _ _ _ _ _ rfl rfl rfl rfl rfl
  have sb := step_eq 0 a0_0 a0_1 a0_2 a0_3 a0_4 a0_5 a0_6 a0_7 a0_8 a0_9 a0_10 true a1_1 a1_2 a1_3 a1_4 a2_0 a2_1 a2_2 true _ _ _ _ _ rfl rfl rfl rfl rfl
  refine ⟨_, _, _, _, _, _, _, _, _, _, _, _, _, _, _, _, _, _, _, _, _, _, sa, sb, ?_, ?_⟩
  · rw [Arith.and255, Arith.wrap_mod256, Arith.and3]
    have e : (a1_1 % 256 - a1_2 % 256) % 256 = (a1_1 - a1_2) % 256 := by omega
    have e4 : a1_4 % 4 % 4 = a1_4 % 4 := by omega
    unfold kN cN fN wN jN hN iN lN B.ahead
    simp only [if_true, e, e4]
    by_cases g1 : (a1_1 - a1_2) % 256 = 0
    · by_cases g2 : a1_4 % 4 = 0
      · left
        simp [g1, g2]
      · right; right
        simp [g1, g2]
    · right; left
      simp [g1]
  · cases hr : fN true (wN true false a0_0 a0_1 a0_2 a0_3 a1_1 a1_2) (jN true false a0_4 a0_6 a1_4)
    · right
      have hw : wN true false a0_0 a0_1 a0_2 a0_3 a1_1 a1_2 = false := by
        cases h : wN true false a0_0 a0_1 a0_2 a0_3 a1_1 a1_2
        · rfl
        · rw [h] at hr; simp [fN] at hr
      have hj : jN true false a0_4 a0_6 a1_4 = false := by
        cases h : jN true false a0_4 a0_6 a1_4
        · rfl
        · rw [h] at hr; simp [fN] at hr
      have hw0 : w0 true a0_0 a0_1 a0_2 a0_3 a1_1 a1_2 = false := hw
      have hj0 : j0 true a0_4 a0_6 a1_4 = false := hj
      have hw2 : wN true true a0_0 a0_1 a0_2 a0_3 a1_1 a1_2 = false := by unfold wN; rw [if_pos rfl, hw0]; rfl
      have hj2 : jN true true a0_4 a0_6 a1_4 = false := by unfold jN; rw [if_pos rfl, hj0]; rfl
      have h3 : a0_3 = false := by
        cases a0_3
        · rfl
        · simp [w0] at hw0
      have h6 : a0_6 = false := by
        cases a0_6
        · rfl
        · simp [j0] at hj0
      rw [hw, hj, hw2, hj2]
      exact ⟨rfl, h3, h6, rfl, rfl, rfl, rfl, rfl, rfl, rfl, rfl, rfl, rfl, rfl⟩
    · left; rfl
set_option maxHeartbeats 40000000 in
set_option maxRecDepth 100000 in
theorem core (w : World) (a0_0 : Bool) (a0_1 : Int) (a0_2 : Int) (a0_3 : Bool) (a0_4 : Int) (a0_5 : Int) (a0_6 : Bool) (a0_7 : Bool) (a0_8 : Int) (a0_9 : Bool) (a0_10 : Bool) (a1_0 : Bool) (a1_1 : Int) (a1_2 : Int) (a1_3 : Int) (a1_4 : Int) (a2_0 : Int) (a2_1 : Int) (a2_2 : Int) (r1 : Bool) (r2 : Int) (r3 : Int) (r4 : Bool) (r5 : Int) (r6 : Int) (r7 : Bool) (r8 : Bool) (r9 : Int) (r10 : Bool) (r11 : Bool) (q1 : Bool) (q2 : Int) (q3 : Int) (q4 : Bool) (q5 : Int) (q6 : Int) (q7 : Bool) (q8 : Bool) (q9 : Int) (q10 : Bool) (q11 : Bool) (HA : Aside0 (track_Step.f 4 a0_0 a0_1 a0_2 a0_3 a0_4 a0_5 a0_6 a0_7 a0_8 a0_9 a0_10 true a1_1 a1_2 a1_3 a1_4 a2_0 a2_1 a2_2 false = some (r1, r2, r3, r4, r5, r6, r7, r8, r9, r10, r11))) (HB : Aside0 (track_Step.f 4 a0_0 a0_1 a0_2 a0_3 a0_4 a0_5 a0_6 a0_7 a0_8 a0_9 a0_10 true a1_1 a1_2 a1_3 a1_4 a2_0 a2_1 a2_2 true = some (q1, q2, q3, q4, q5, q6, q7, q8, q9, q10, q11)))
    (hz : ((bits .and .i64 (wrap64 (a1_1 - a1_2)) 255 == 0) = true ∧ (bits .and .i64 a1_4 3 == 0) = true ∧ q8 = true ∧ q10 = false ∧ q11 = false) ∨ ((bits .and .i64 (wrap64 (a1_1 - a1_2)) 255 == 0) = false ∧ q8 = false) ∨ ((bits .and .i64 (wrap64 (a1_1 - a1_2)) 255 == 0) = true ∧ (bits .and .i64 a1_4 3 == 0) = false ∧ q8 = false))
    (hf : r10 = true ∨ (r10 = false ∧ a0_3 = false ∧ a0_6 = false ∧ q1 = r1 ∧ q2 = r2 ∧ q3 = r3 ∧ q4 = r4 ∧ q5 = r5 ∧ q6 = r6 ∧ q7 = r7 ∧ q8 = r8 ∧ q9 = r9 ∧ q10 = r10 ∧ q11 = r11)) :
    Calls Try.prog 5 #[.agg #[.bool a0_0, .int .i64 a0_1, .int .i64 a0_2, .bool a0_3, .int .i64 a0_4, .int .i64 a0_5, .bool a0_6, .bool a0_7, .int .i64 a0_8, .bool a0_9, .bool a0_10], .agg #[.bool a1_0, .int .i64 a1_1, .int .i64 a1_2, .int .i64 a1_3, .int .i64 a1_4], .agg #[.int .i64 a2_0, .int .i64 a2_1, .int .i64 a2_2]] w fun e w' => e = .returned (.bool true) ∧ Below w.heap.size w w' := by
  have HZ := Aside0.mk hz
  have HF := Aside0.mk hf
  clear hz hf
  go_enter Try.func5, Try.ntmps5
  go_wp2_with fail
  refine (crossbucklaw12_small.calls true _ rfl).mono ?_
  rintro e w1 ⟨rfl, hb1⟩
  have H1 := Aside0.mk hb1
  have k1 : Quiet.Has w1 [(⟨w.heap.size, 0, none⟩, .bool a0_0), (⟨w.heap.size, 1, none⟩, .int .i64 a0_1), (⟨w.heap.size, 2, none⟩, .int .i64 a0_2), (⟨w.heap.size, 3, none⟩, .bool a0_3), (⟨w.heap.size, 4, none⟩, .int .i64 a0_4), (⟨w.heap.size, 5, none⟩, .int .i64 a0_5), (⟨w.heap.size, 6, none⟩, .bool a0_6), (⟨w.heap.size, 7, none⟩, .bool a0_7), (⟨w.heap.size, 8, none⟩, .int .i64 a0_8), (⟨w.heap.size, 9, none⟩, .bool a0_9), (⟨w.heap.size, 10, none⟩, .bool a0_10), (⟨w.heap.size + 1, 0, none⟩, .bool a1_0), (⟨w.heap.size + 1, 1, none⟩, .int .i64 a1_1), (⟨w.heap.size + 1, 2, none⟩, .int .i64 a1_2), (⟨w.heap.size + 1, 3, none⟩, .int .i64 a1_3), (⟨w.heap.size + 1, 4, none⟩, .int .i64 a1_4), (⟨w.heap.size + 1 + 1, 0, none⟩, .int .i64 a2_0), (⟨w.heap.size + 1 + 1, 1, none⟩, .int .i64 a2_1), (⟨w.heap.size + 1 + 1, 2, none⟩, .int .i64 a2_2)] := Quiet.Has.bel (by simp only [Quiet.has_cons, Quiet.has_nil, and_true]; refine ⟨?_, ?_, ?_, ?_, ?_, ?_, ?_, ?_, ?_, ?_, ?_, ?_, ?_, ?_, ?_, ?_, ?_, ?_, ?_⟩ <;> go_simp) hb1
  have z1 : w1.frozen? ⟨w.heap.size + 1, 0, none⟩ = false := (Below.frozen hb1 (by first | (simp; done) | (simp; omega))).trans (by go_simp)
  clear hb1
  have u := k1
  simp only [Quiet.has_cons, Quiet.has_nil, and_true] at u
  obtain ⟨u0, u1, u2, u3, u4, u5, u6, u7, u8, u9, u10, u11, u12, u13, u14, u15, u16, u17, u18⟩ := u
  go_wp2_with fail
  refine (track_Step.calls 4 a0_0 a0_1 a0_2 a0_3 a0_4 a0_5 a0_6 a0_7 a0_8 a0_9 a0_10 true a1_1 a1_2 a1_3 a1_4 a2_0 a2_1 a2_2 false r1 r2 r3 r4 r5 r6 r7 r8 r9 r10 r11 _ HA.out).mono ?_
  rintro e w2 ⟨rfl, hb2⟩
  have H2 := Aside0.mk hb2
  have k2 : Quiet.Has w2 [(⟨w.heap.size, 0, none⟩, .bool a0_0), (⟨w.heap.size, 1, none⟩, .int .i64 a0_1), (⟨w.heap.size, 2, none⟩, .int .i64 a0_2), (⟨w.heap.size, 3, none⟩, .bool a0_3), (⟨w.heap.size, 4, none⟩, .int .i64 a0_4), (⟨w.heap.size, 5, none⟩, .int .i64 a0_5), (⟨w.heap.size, 6, none⟩, .bool a0_6), (⟨w.heap.size, 7, none⟩, .bool a0_7), (⟨w.heap.size, 8, none⟩, .int .i64 a0_8), (⟨w.heap.size, 9, none⟩, .bool a0_9), (⟨w.heap.size, 10, none⟩, .bool a0_10), (⟨w.heap.size + 1, 0, none⟩, .bool true), (⟨w.heap.size + 1, 1, none⟩, .int .i64 a1_1), (⟨w.heap.size + 1, 2, none⟩, .int .i64 a1_2), (⟨w.heap.size + 1, 3, none⟩, .int .i64 a1_3), (⟨w.heap.size + 1, 4, none⟩, .int .i64 a1_4), (⟨w.heap.size + 1 + 1, 0, none⟩, .int .i64 a2_0), (⟨w.heap.size + 1 + 1, 1, none⟩, .int .i64 a2_1), (⟨w.heap.size + 1 + 1, 2, none⟩, .int .i64 a2_2)] := Quiet.Has.bel (by simp only [Quiet.has_cons, Quiet.has_nil, and_true]; refine ⟨?_, ?_, ?_, ?_, ?_, ?_, ?_, ?_, ?_, ?_, ?_, ?_, ?_, ?_, ?_, ?_, ?_, ?_, ?_⟩ <;> go_simp) hb2
  clear u0 u1 u2 u3 u4 u5 u6 u7 u8 u9 u10 u11 u12 u13 u14 u15 u16 u17 u18 z1 hb2
  have kA2 := ((((((((((((k2.alloc (.cells #[.bool r1, .int .i64 r2, .int .i64 r3, .bool r4, .int .i64 r5, .int .i64 r6, .bool r7, .bool r8, .int .i64 r9, .bool r10, .bool r11] 31)).more (show _ = some (.bool r1) from Quiet.alloc_cell 0)).more (show _ = some (.int .i64 r2) from Quiet.alloc_cell 1)).more (show _ = some (.int .i64 r3) from Quiet.alloc_cell 2)).more (show _ = some (.bool r4) from Quiet.alloc_cell 3)).more (show _ = some (.int .i64 r5) from Quiet.alloc_cell 4)).more (show _ = some (.int .i64 r6) from Quiet.alloc_cell 5)).more (show _ = some (.bool r7) from Quiet.alloc_cell 6)).more (show _ = some (.bool r8) from Quiet.alloc_cell 7)).more (show _ = some (.int .i64 r9) from Quiet.alloc_cell 8)).more (show _ = some (.bool r10) from Quiet.alloc_cell 9)).more (show _ = some (.bool r11) from Quiet.alloc_cell 10))
  have u := kA2
  simp only [Quiet.has_cons, Quiet.has_nil, and_true] at u
  obtain ⟨u0, u1, u2, u3, u4, u5, u6, u7, u8, u9, u10, u11, u12, u13, u14, u15, u16, u17, u18, u19, u20, u21, u22, u23, u24, u25, u26, u27, u28, u29⟩ := u
  go_wp2_with fail
  refine (track_Step.calls 4 a0_0 a0_1 a0_2 a0_3 a0_4 a0_5 a0_6 a0_7 a0_8 a0_9 a0_10 true a1_1 a1_2 a1_3 a1_4 a2_0 a2_1 a2_2 true q1 q2 q3 q4 q5 q6 q7 q8 q9 q10 q11 _ HB.out).mono ?_
  rintro e w3 ⟨rfl, hb3⟩
  have H3 := Aside0.mk hb3
  have k3 := kA2.bel hb3
  clear u0 u1 u2 u3 u4 u5 u6 u7 u8 u9 u10 u11 u12 u13 u14 u15 u16 u17 u18 u19 u20 u21 u22 u23 u24 u25 u26 u27 u28 u29
  clear hb3
  have kA3 := ((((((((((((k3.alloc (.cells #[.bool q1, .int .i64 q2, .int .i64 q3, .bool q4, .int .i64 q5, .int .i64 q6, .bool q7, .bool q8, .int .i64 q9, .bool q10, .bool q11] 31)).more (show _ = some (.bool q1) from Quiet.alloc_cell 0)).more (show _ = some (.int .i64 q2) from Quiet.alloc_cell 1)).more (show _ = some (.int .i64 q3) from Quiet.alloc_cell 2)).more (show _ = some (.bool q4) from Quiet.alloc_cell 3)).more (show _ = some (.int .i64 q5) from Quiet.alloc_cell 4)).more (show _ = some (.int .i64 q6) from Quiet.alloc_cell 5)).more (show _ = some (.bool q7) from Quiet.alloc_cell 6)).more (show _ = some (.bool q8) from Quiet.alloc_cell 7)).more (show _ = some (.int .i64 q9) from Quiet.alloc_cell 8)).more (show _ = some (.bool q10) from Quiet.alloc_cell 9)).more (show _ = some (.bool q11) from Quiet.alloc_cell 10))
  have u := kA3
  simp only [Quiet.has_cons, Quiet.has_nil, and_true] at u
  obtain ⟨u0, u1, u2, u3, u4, u5, u6, u7, u8, u9, u10, u11, u12, u13, u14, u15, u16, u17, u18, u19, u20, u21, u22, u23, u24, u25, u26, u27, u28, u29, u30, u31, u32, u33, u34, u35, u36, u37, u38, u39, u40⟩ := u
  have hz := HZ.out
  have hf := HF.out
  clear HZ HF
  rcases hf with rfl | ⟨rfl, rfl, rfl, rfl, rfl, rfl, rfl, rfl, rfl, rfl, rfl, rfl, rfl, rfl⟩
  · have e0 : (true : Bool) = true := rfl
    cases a0_3 <;> cases a0_6 <;> rcases hz with ⟨h1, h2, h8, h10, h11⟩ | ⟨h1, h8⟩ | ⟨h1, h2, h8⟩
    all_goals
      first | subst h8 | clear h8
      try first | subst h10 | clear h10
      try first | subst h11 | clear h11
      go_wp2_with fail
      go_ret
      exact ⟨rfl, by repeat (with_reducible first | exact Below.refl _ _ | refine Quiet.Bel.set ?_ (by omega) | apply below_alloc | apply below_drew1 | apply pw_below_drewN | refine below_step ?_ H1.out | refine below_step ?_ H2.out | refine below_step ?_ H3.out)⟩
  · rcases hz with ⟨h1, h2, h8, h10, h11⟩ | ⟨h1, h8⟩ | ⟨h1, h2, h8⟩
    all_goals
      first | subst h8 | clear h8
      try first | subst h10 | clear h10
      try first | subst h11 | clear h11
      go_wp2_with fail
      go_ret
      exact ⟨rfl, by repeat (with_reducible first | exact Below.refl _ _ | refine Quiet.Bel.set ?_ (by omega) | apply below_alloc | apply below_drew1 | apply pw_below_drewN | refine below_step ?_ H1.out | refine below_step ?_ H2.out | refine below_step ?_ H3.out)⟩

theorem walk (w : World) (a0_0 : Bool) (a0_1 : Int) (a0_2 : Int) (a0_3 : Bool) (a0_4 : Int) (a0_5 : Int) (a0_6 : Bool) (a0_7 : Bool) (a0_8 : Int) (a0_9 : Bool) (a0_10 : Bool) (a1_0 : Bool) (a1_1 : Int) (a1_2 : Int) (a1_3 : Int) (a1_4 : Int) (a2_0 : Int) (a2_1 : Int) (a2_2 : Int) (_ : (Lit.int .i64 a0_1).wf = true) (_ : (Lit.int .i64 a0_2).wf = true) (_ : (Lit.int .i64 a0_4).wf = true) (_ : (Lit.int .i64 a0_5).wf = true) (_ : (Lit.int .i64 a0_8).wf = true) (_ : (Lit.int .i64 a1_1).wf = true) (_ : (Lit.int .i64 a1_2).wf = true) (_ : (Lit.int .i64 a1_3).wf = true) (_ : (Lit.int .i64 a1_4).wf = true) (_ : (Lit.int .i64 a2_0).wf = true) (_ : (Lit.int .i64 a2_1).wf = true) (_ : (Lit.int .i64 a2_2).wf = true) :
    Calls Try.prog 5 #[.agg #[.bool a0_0, .int .i64 a0_1, .int .i64 a0_2, .bool a0_3, .int .i64 a0_4, .int .i64 a0_5, .bool a0_6, .bool a0_7, .int .i64 a0_8, .bool a0_9, .bool a0_10], .agg #[.bool a1_0, .int .i64 a1_1, .int .i64 a1_2, .int .i64 a1_3, .int .i64 a1_4], .agg #[.int .i64 a2_0, .int .i64 a2_1, .int .i64 a2_2]] w fun e w' => e = .returned (.bool true) ∧ Below w.heap.size w w' := by
  obtain ⟨r1, r2, r3, r4, r5, r6, r7, r8, r9, r10, r11, q1, q2, q3, q4, q5, q6, q7, q8, q9, q10, q11, ha, hb, hz, hf⟩ := cases_ a0_0 a0_1 a0_2 a0_3 a0_4 a0_5 a0_6 a0_7 a0_8 a0_9 a0_10 a1_1 a1_2 a1_3 a1_4 a2_0 a2_1 a2_2
  exact core w a0_0 a0_1 a0_2 a0_3 a0_4 a0_5 a0_6 a0_7 a0_8 a0_9 a0_10 a1_0 a1_1 a1_2 a1_3 a1_4 a2_0 a2_1 a2_2 r1 r2 r3 r4 r5 r6 r7 r8 r9 r10 r11 q1 q2 q3 q4 q5 q6 q7 q8 q9 q10 q11 ⟨ha⟩ ⟨hb⟩ hz hf
end Resets
end Go.Proofs.Ytnmcnailgdcmoaa.B
