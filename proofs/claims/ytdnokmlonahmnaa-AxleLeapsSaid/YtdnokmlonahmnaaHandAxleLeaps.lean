/- The law AxleLeaps, walked: at any counters, any step, it answers true. -/
import Derived.Test.YtdnokmlonahmnaaHandRef11
import Derived.Outline
import Derived.Deep.RegionHeld3
import Derived.Deep.DrawnRows
import Derived.Deep.QuietTactic
import Derived.BigQuiet
import Derived.BigRegion
import Derived.Deep.RegionWith
namespace Go.Proofs.Ytdnokmlonahmnaa.A
open Go.RowKit Go.Proofs.YtdnokmlonahmnaaW.PrintWords Go.Proofs.YtdnokmlonahmnaaW.PrintLast Go.Proofs.YtdnokmlonahmnaaW.PrintMore
set_option linter.unusedVariables false
set_option linter.unusedSimpArgs false
attribute [local go_sem] Quiet.bel_all
attribute [local go_sem ↓] Go.wp_at_zero Go.wp_at_succ
attribute [local go_sem high] eqA34
set_option maxHeartbeats 8000000 in
set_option maxRecDepth 100000 in
theorem leaps_wrong (w : World) (i o s : Int) (h1 : decide (128 ≤ ahead i o) = true) :
    Calls Try.prog 11 #[.int .i64 i, .int .i64 o, .int .i64 s] w fun e w' => e = .returned (.bool true) ∧ Below w.heap.size w w' := by
  have ha : axle_Step.f false 0 0 false i o = some (true, i % 256, o % 256, true) := by simp [axle_Step.f, h1]
  have h1' : decide (128 ≤ ahead (i % 256) (o % 256)) = true := by rw [show ahead (i % 256) (o % 256) = ahead i o from by unfold ahead; omega]; exact h1
  have HA := Aside0.mk ha
  clear ha
  go_enter Try.func11, Try.ntmps11
  go_wp2_with fail
  refine (small11.bel _).mono ?_
  rintro e w1 ⟨rfl, hb1⟩
  have H1 := Aside0.mk hb1
  clear hb1
  go_wp2_with fail
  refine (axle_Step.at _ _ _ _ _ _ _ _ _ _ _ HA.out).mono ?_
  rintro e w' ⟨rfl, rfl⟩
  go_wp2_with fail
  refine (axle_On.at _ _ _ _ _ _ rfl).mono ?_
  rintro e w' ⟨rfl, rfl⟩
  go_wp2
  go_ret
  exact ⟨by first | rfl | simp [h1'], by repeat (with_reducible first | exact Below.refl _ _ | apply below_alloc | apply below_drew1 | apply pw_below_drewN | refine below_step ?_ H1.out)⟩

set_option maxHeartbeats 8000000 in
set_option maxRecDepth 100000 in
theorem leaps_far (w : World) (i o s : Int) (h1 : decide (128 ≤ ahead i o) = false) (h2 : decide (64 < bits BinOp.and IntKind.i64 s 255) = true) (hb : axle_Step.f true (i % 256) (o % 256) false (wrap64 (i + s)) o = some (true, wrap64 (i + s) % 256, o % 256, true)) (hc : axle_Step.f true (i % 256) (o % 256) false i (wrap64 (o + s)) = some (true, i % 256, wrap64 (o + s) % 256, true)) :
    Calls Try.prog 11 #[.int .i64 i, .int .i64 o, .int .i64 s] w fun e w' => e = .returned (.bool true) ∧ Below w.heap.size w w' := by
  have ha : axle_Step.f false 0 0 false i o = some (true, i % 256, o % 256, false) := by simp [axle_Step.f, h1]
  have HA := Aside0.mk ha
  clear ha
  have HB := Aside0.mk hb
  have HC := Aside0.mk hc
  clear hb hc
  go_enter Try.func11, Try.ntmps11
  go_wp2_with fail
  refine (small11.bel _).mono ?_
  rintro e w1 ⟨rfl, hb1⟩
  have H1 := Aside0.mk hb1
  clear hb1
  go_wp2_with fail
  refine (axle_Step.at _ _ _ _ _ _ _ _ _ _ _ HA.out).mono ?_
  rintro e w' ⟨rfl, rfl⟩
  go_wp2_with fail
  refine (axle_Step.at _ _ _ _ _ _ _ _ _ _ _ HB.out).mono ?_
  rintro e w' ⟨rfl, rfl⟩
  go_wp2_with fail
  refine (axle_Step.at _ _ _ _ _ _ _ _ _ _ _ HC.out).mono ?_
  rintro e w' ⟨rfl, rfl⟩
  go_wp2_with fail
  go_quiet (fail)
  go_wp2
  go_ret
  exact ⟨rfl, by repeat (with_reducible first | exact Below.refl _ _ | apply below_alloc | apply below_drew1 | apply pw_below_drewN | refine below_step ?_ H1.out)⟩

set_option maxHeartbeats 8000000 in
set_option maxRecDepth 100000 in
theorem leaps_near (w : World) (i o s : Int) (x y : Bool) (h1 : decide (128 ≤ ahead i o) = false) (h2 : decide (64 < bits BinOp.and IntKind.i64 s 255) = false) (hx : decide (128 ≤ ahead (wrap64 (i + s) % 256) (o % 256)) = x) (hy : decide (128 ≤ ahead (i % 256) (wrap64 (o + s) % 256)) = y) (hb : axle_Step.f true (i % 256) (o % 256) false (wrap64 (i + s)) o = some (true, wrap64 (i + s) % 256, o % 256, x)) (hc : axle_Step.f true (i % 256) (o % 256) false i (wrap64 (o + s)) = some (true, i % 256, wrap64 (o + s) % 256, y)) :
    Calls Try.prog 11 #[.int .i64 i, .int .i64 o, .int .i64 s] w fun e w' => e = .returned (.bool true) ∧ Below w.heap.size w w' := by
  have ha : axle_Step.f false 0 0 false i o = some (true, i % 256, o % 256, false) := by simp [axle_Step.f, h1]
  have HA := Aside0.mk ha
  clear ha
  have HB := Aside0.mk hb
  have HC := Aside0.mk hc
  clear hb hc
  go_enter Try.func11, Try.ntmps11
  go_wp2_with fail
  refine (small11.bel _).mono ?_
  rintro e w1 ⟨rfl, hb1⟩
  have H1 := Aside0.mk hb1
  clear hb1
  go_wp2_with fail
  refine (axle_Step.at _ _ _ _ _ _ _ _ _ _ _ HA.out).mono ?_
  rintro e w' ⟨rfl, rfl⟩
  go_wp2_with fail
  refine (axle_Step.at _ _ _ _ _ _ _ _ _ _ _ HB.out).mono ?_
  rintro e w' ⟨rfl, rfl⟩
  go_wp2_with fail
  refine (axle_Step.at _ _ _ _ _ _ _ _ _ _ _ HC.out).mono ?_
  rintro e w' ⟨rfl, rfl⟩
  go_wp2_with fail
  refine Quiet.start (fun w' => w'.cell? ⟨w1.heap.size + 1 + 1 + 1 + 1 + 1, 0, none⟩ = some (.bool true) ∧ w'.cell? ⟨w1.heap.size + 1 + 1 + 1 + 1 + 1, 1, none⟩ = some (.int .i64 (wrap64 (i + s) % 256)) ∧ w'.cell? ⟨w1.heap.size + 1 + 1 + 1 + 1 + 1, 2, none⟩ = some (.int .i64 (o % 256)) ∧ w'.cell? ⟨w1.heap.size + 1 + 1 + 1 + 1 + 1, 3, none⟩ = some (.bool x) ∧ w'.cell? ⟨w1.heap.size + 1 + 1 + 1 + 1 + 1 + 1 + 1 + 1, 0, none⟩ = some (.bool true) ∧ w'.cell? ⟨w1.heap.size + 1 + 1 + 1 + 1 + 1 + 1 + 1 + 1, 1, none⟩ = some (.int .i64 (i % 256)) ∧ w'.cell? ⟨w1.heap.size + 1 + 1 + 1 + 1 + 1 + 1 + 1 + 1, 2, none⟩ = some (.int .i64 (wrap64 (o + s) % 256)) ∧ w'.cell? ⟨w1.heap.size + 1 + 1 + 1 + 1 + 1 + 1 + 1 + 1, 3, none⟩ = some (.bool y)) (by kernel_rfl) (by kernel_rfl) (fun w' h => ⟨h.cell (by go_simp), h.cell (by go_simp), h.cell (by go_simp), h.cell (by go_simp), h.cell (by go_simp), h.cell (by go_simp), h.cell (by go_simp), h.cell (by go_simp)⟩) (fun W0 hW0 hcell => ?_)
  repeat (first
    | go_big_quiet_skip
    | (go_big_quiet_want; go_big_quiet_op; go_big_quiet_on)
    | (refine Quiet.val _ _ (by rfl) (by (intro w' hC; obtain ⟨c0, c1, c2, c3, c4, c5, c6, c7⟩ := hcell w' hC; go_simp; with_reducible rfl)) (by (simp only [Act.put, List.setIfInBounds_toArray, List.set_cons_zero, List.set_cons_succ]; rfl)) ?_)
    | (refine Quiet.call _ _ (by rfl) (by rfl) Try.func24 (by kernel_rfl) rfl (by simp only [List.map_toArray, List.map_cons, List.map_nil]; rfl) (fun w' hC => axle_On.bel _ _ _ _ _) (by (simp only [Act.put, List.setIfInBounds_toArray, List.set_cons_zero, List.set_cons_succ]; rfl)) ?_))
  refine Quiet.done ?_
  intro w2 hbw2
  go_wp2
  go_ret
  exact ⟨by first | rfl | simp [hx, hy] | simp, Quiet.Bel.out (by repeat (with_reducible first | exact Below.refl _ _ | apply below_alloc | apply below_drew1 | apply pw_below_drewN | refine below_step ?_ H1.out)) hW0 hbw2⟩

theorem AxleLeaps.walk (w : World) (i o s : Int) (wf0 : (Lit.int .i64 i).wf = true) (wf1 : (Lit.int .i64 o).wf = true) (wf2 : (Lit.int .i64 s).wf = true) :
    Calls Try.prog 11 #[.int .i64 i, .int .i64 o, .int .i64 s] w fun e w' => e = .returned (.bool true) ∧ Below w.heap.size w w' := by
  have e0 : bits BinOp.and IntKind.i64 s 255 = s % 256 := Arith.and255 s
  have e1 : ahead (wrap64 (i + s)) (i % 256) = s % 256 := by unfold ahead wrap64; omega
  have e2 : ahead (wrap64 (o + s)) (o % 256) = s % 256 := by unfold ahead wrap64; omega
  have e3 : ahead o (o % 256) = 0 := by unfold ahead; omega
  have e4 : ahead i (i % 256) = 0 := by unfold ahead; omega
  have e5 : ahead (wrap64 (i + s)) o = ahead (wrap64 (i + s) % 256) (o % 256) := by unfold ahead; omega
  have e6 : ahead i (wrap64 (o + s)) = ahead (i % 256) (wrap64 (o + s) % 256) := by unfold ahead; omega
  by_cases h1 : 128 ≤ ahead i o
  · exact leaps_wrong w i o s (decide_eq_true h1)
  · by_cases h2 : 64 < s % 256
    · exact leaps_far w i o s (decide_eq_false h1) (by rw [e0]; exact decide_eq_true h2) (by simp [axle_Step.f, e1, h2]) (by simp [axle_Step.f, e2, h2])
    · refine leaps_near w i o s _ _ (decide_eq_false h1) (by rw [e0]; exact decide_eq_false h2) rfl rfl ?_ ?_
      · simp only [axle_Step.f, e1, e3, e5]
        simp [h2]
      · simp only [axle_Step.f, e2, e4, e6]
        simp [h2]

end Go.Proofs.Ytdnokmlonahmnaa.A
