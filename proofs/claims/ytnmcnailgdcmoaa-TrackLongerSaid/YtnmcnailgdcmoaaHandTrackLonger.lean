/- TrackLonger walked: a longer delay never calls earlier, and touches nothing else. -/
import Derived.Test.YtnmcnailgdcmoaaHandSmall12
import Derived.Test.YtnmcnailgdcmoaaBx21
import Derived.Test.YtnmcnailgdcmoaaPureTrack
import Derived.Outline
import Derived.Deep.RegionHeld3
import Derived.Deep.DrawnRows
import Derived.Deep.QuietTactic
import Derived.BigQuiet
import Derived.BigRegion
import Derived.Deep.RegionWith
namespace Go.Proofs.Ytnmcnailgdcmoaa.B
open Go.RowKit Go.Proofs.YtnmcnailgdcmoaaW.PrintWords Go.Proofs.YtnmcnailgdcmoaaW.PrintLast Go.Proofs.YtnmcnailgdcmoaaW.PrintMore
set_option linter.unusedVariables false
set_option linter.unusedSimpArgs false
attribute [local go_sem] Quiet.bel_all
attribute [local go_sem ↓] Go.wp_at_zero Go.wp_at_succ
attribute [local go_sem high] eqA31
namespace Longer
open Go.Proofs.Ytnmcnailgdcmoaa.Track
theorem cell_alloc_ltL {w : World} {o : Obj} {b k : Nat} {e} (h : b < w.heap.size) : (w.alloc o).cell? ⟨b, k, e⟩ = w.cell? ⟨b, k, e⟩ := World.cell?_of_block (w := w) (Below.heap_alloc w o b h)
attribute [local go_sem] cell_alloc_ltL
set_option maxHeartbeats 40000000 in
set_option maxRecDepth 100000 in
theorem core (w : World) (a0_0 : Bool) (a0_1 : Int) (a0_2 : Int) (a0_3 : Bool) (a0_4 : Int) (a0_5 : Int) (a0_6 : Bool) (a0_7 : Bool) (a0_8 : Int) (a0_9 : Bool) (a0_10 : Bool) (a1_0 : Bool) (a1_1 : Int) (a1_2 : Int) (a1_3 : Int) (a1_4 : Int) (a2_0 : Int) (a2_1 : Int) (a2_2 : Int) (a3_0 : Int) (a3_1 : Int) (a3_2 : Int) (a4 : Bool) (r1 : Bool) (r2 : Int) (r3 : Int) (r4 : Bool) (r5 : Int) (r6 : Int) (r7 : Bool) (r8 : Bool) (r9 : Int) (r10 : Bool) (x y : Bool) (h0 : a2_0 ≤ a3_0) (h1 : a2_1 ≤ a3_1) (h2 : a2_2 ≤ a3_2) (ha : track_Step.f 4 a0_0 a0_1 a0_2 a0_3 a0_4 a0_5 a0_6 a0_7 a0_8 a0_9 a0_10 a1_0 a1_1 a1_2 a1_3 a1_4 a2_0 a2_1 a2_2 a4 = some (r1, r2, r3, r4, r5, r6, r7, r8, r9, r10, x)) (hb : track_Step.f 4 a0_0 a0_1 a0_2 a0_3 a0_4 a0_5 a0_6 a0_7 a0_8 a0_9 a0_10 a1_0 a1_1 a1_2 a1_3 a1_4 a3_0 a3_1 a3_2 a4 = some (r1, r2, r3, r4, r5, r6, r7, r8, r9, r10, y)) (hk : y = false ∨ (y = true ∧ x = true)) :
    Calls Try.prog 7 #[.agg #[.bool a0_0, .int .i64 a0_1, .int .i64 a0_2, .bool a0_3, .int .i64 a0_4, .int .i64 a0_5, .bool a0_6, .bool a0_7, .int .i64 a0_8, .bool a0_9, .bool a0_10], .agg #[.bool a1_0, .int .i64 a1_1, .int .i64 a1_2, .int .i64 a1_3, .int .i64 a1_4], .agg #[.int .i64 a2_0, .int .i64 a2_1, .int .i64 a2_2], .agg #[.int .i64 a3_0, .int .i64 a3_1, .int .i64 a3_2], .bool a4] w fun e w' => e = .returned (.bool true) ∧ Below w.heap.size w w' := by
  have g0 : decide (a2_0 > a3_0) = false := decide_eq_false (by omega)
  have g1 : decide (a2_1 > a3_1) = false := decide_eq_false (by omega)
  have g2 : decide (a2_2 > a3_2) = false := decide_eq_false (by omega)
  have f0 : decide (a3_0 < a2_0) = false := decide_eq_false (by omega)
  have f1 : decide (a3_1 < a2_1) = false := decide_eq_false (by omega)
  have f2 : decide (a3_2 < a2_2) = false := decide_eq_false (by omega)
  have HA := Aside0.mk ha
  have HB := Aside0.mk hb
  have HK := Aside0.mk hk
  clear h0 h1 h2 ha hb hk
  go_enter Try.func7, Try.ntmps7
  go_wp2_with fail
  refine (crossbucklaw12_small.calls true _ rfl).mono ?_
  rintro e w1 ⟨rfl, hb1⟩
  have H1 := Aside0.mk hb1
  have k1 : Quiet.Has w1 [(⟨w.heap.size, 0, none⟩, .bool a0_0), (⟨w.heap.size, 1, none⟩, .int .i64 a0_1), (⟨w.heap.size, 2, none⟩, .int .i64 a0_2), (⟨w.heap.size, 3, none⟩, .bool a0_3), (⟨w.heap.size, 4, none⟩, .int .i64 a0_4), (⟨w.heap.size, 5, none⟩, .int .i64 a0_5), (⟨w.heap.size, 6, none⟩, .bool a0_6), (⟨w.heap.size, 7, none⟩, .bool a0_7), (⟨w.heap.size, 8, none⟩, .int .i64 a0_8), (⟨w.heap.size, 9, none⟩, .bool a0_9), (⟨w.heap.size, 10, none⟩, .bool a0_10), (⟨w.heap.size + 1, 0, none⟩, .bool a1_0), (⟨w.heap.size + 1, 1, none⟩, .int .i64 a1_1), (⟨w.heap.size + 1, 2, none⟩, .int .i64 a1_2), (⟨w.heap.size + 1, 3, none⟩, .int .i64 a1_3), (⟨w.heap.size + 1, 4, none⟩, .int .i64 a1_4), (⟨w.heap.size + 1 + 1, 0, none⟩, .int .i64 a2_0), (⟨w.heap.size + 1 + 1, 1, none⟩, .int .i64 a2_1), (⟨w.heap.size + 1 + 1, 2, none⟩, .int .i64 a2_2), (⟨w.heap.size + 1 + 1 + 1, 0, none⟩, .int .i64 a3_0), (⟨w.heap.size + 1 + 1 + 1, 1, none⟩, .int .i64 a3_1), (⟨w.heap.size + 1 + 1 + 1, 2, none⟩, .int .i64 a3_2)] := Quiet.Has.bel (by simp only [Quiet.has_cons, Quiet.has_nil, and_true]; refine ⟨?_, ?_, ?_, ?_, ?_, ?_, ?_, ?_, ?_, ?_, ?_, ?_, ?_, ?_, ?_, ?_, ?_, ?_, ?_, ?_, ?_, ?_⟩ <;> go_simp) hb1
  clear hb1
  have u := k1
  simp only [Quiet.has_cons, Quiet.has_nil, and_true] at u
  obtain ⟨u0, u1, u2, u3, u4, u5, u6, u7, u8, u9, u10, u11, u12, u13, u14, u15, u16, u17, u18, u19, u20, u21⟩ := u
  go_wp2_with fail
  refine (track_Step.calls 4 a0_0 a0_1 a0_2 a0_3 a0_4 a0_5 a0_6 a0_7 a0_8 a0_9 a0_10 a1_0 a1_1 a1_2 a1_3 a1_4 a2_0 a2_1 a2_2 a4 r1 r2 r3 r4 r5 r6 r7 r8 r9 r10 x _ HA.out).mono ?_
  rintro e w2 ⟨rfl, hb2⟩
  have H2 := Aside0.mk hb2
  have k2 := k1.bel hb2
  clear u0 u1 u2 u3 u4 u5 u6 u7 u8 u9 u10 u11 u12 u13 u14 u15 u16 u17 u18 u19 u20 u21
  clear hb2
  have kA2 := ((((((((((((k2.alloc (.cells #[.bool r1, .int .i64 r2, .int .i64 r3, .bool r4, .int .i64 r5, .int .i64 r6, .bool r7, .bool r8, .int .i64 r9, .bool r10, .bool x] 31)).more (show _ = some (.bool r1) from Quiet.alloc_cell 0)).more (show _ = some (.int .i64 r2) from Quiet.alloc_cell 1)).more (show _ = some (.int .i64 r3) from Quiet.alloc_cell 2)).more (show _ = some (.bool r4) from Quiet.alloc_cell 3)).more (show _ = some (.int .i64 r5) from Quiet.alloc_cell 4)).more (show _ = some (.int .i64 r6) from Quiet.alloc_cell 5)).more (show _ = some (.bool r7) from Quiet.alloc_cell 6)).more (show _ = some (.bool r8) from Quiet.alloc_cell 7)).more (show _ = some (.int .i64 r9) from Quiet.alloc_cell 8)).more (show _ = some (.bool r10) from Quiet.alloc_cell 9)).more (show _ = some (.bool x) from Quiet.alloc_cell 10))
  have u := kA2
  simp only [Quiet.has_cons, Quiet.has_nil, and_true] at u
  obtain ⟨u0, u1, u2, u3, u4, u5, u6, u7, u8, u9, u10, u11, u12, u13, u14, u15, u16, u17, u18, u19, u20, u21, u22, u23, u24, u25, u26, u27, u28, u29, u30, u31, u32⟩ := u
  go_wp2_with fail
  refine (track_Step.calls 4 a0_0 a0_1 a0_2 a0_3 a0_4 a0_5 a0_6 a0_7 a0_8 a0_9 a0_10 a1_0 a1_1 a1_2 a1_3 a1_4 a3_0 a3_1 a3_2 a4 r1 r2 r3 r4 r5 r6 r7 r8 r9 r10 y _ HB.out).mono ?_
  rintro e w3 ⟨rfl, hb3⟩
  have H3 := Aside0.mk hb3
  have k3 := kA2.bel hb3
  clear u0 u1 u2 u3 u4 u5 u6 u7 u8 u9 u10 u11 u12 u13 u14 u15 u16 u17 u18 u19 u20 u21 u22 u23 u24 u25 u26 u27 u28 u29 u30 u31 u32
  clear hb3
  have kA3 := ((((((((((((k3.alloc (.cells #[.bool r1, .int .i64 r2, .int .i64 r3, .bool r4, .int .i64 r5, .int .i64 r6, .bool r7, .bool r8, .int .i64 r9, .bool r10, .bool y] 31)).more (show _ = some (.bool r1) from Quiet.alloc_cell 0)).more (show _ = some (.int .i64 r2) from Quiet.alloc_cell 1)).more (show _ = some (.int .i64 r3) from Quiet.alloc_cell 2)).more (show _ = some (.bool r4) from Quiet.alloc_cell 3)).more (show _ = some (.int .i64 r5) from Quiet.alloc_cell 4)).more (show _ = some (.int .i64 r6) from Quiet.alloc_cell 5)).more (show _ = some (.bool r7) from Quiet.alloc_cell 6)).more (show _ = some (.bool r8) from Quiet.alloc_cell 7)).more (show _ = some (.int .i64 r9) from Quiet.alloc_cell 8)).more (show _ = some (.bool r10) from Quiet.alloc_cell 9)).more (show _ = some (.bool y) from Quiet.alloc_cell 10))
  have u := kA3
  simp only [Quiet.has_cons, Quiet.has_nil, and_true] at u
  obtain ⟨u0, u1, u2, u3, u4, u5, u6, u7, u8, u9, u10, u11, u12, u13, u14, u15, u16, u17, u18, u19, u20, u21, u22, u23, u24, u25, u26, u27, u28, u29, u30, u31, u32, u33, u34, u35, u36, u37, u38, u39, u40, u41, u42, u43⟩ := u
  have z1 := H1.out.size
  have z2 := H2.out.size
  have z3 := H3.out.size
  simp at z1 z2 z3
  have s0 : w.heap.size < w3.heap.size := by omega
  have s1 : w.heap.size + 1 < w3.heap.size := by omega
  have s2 : w.heap.size + 1 + 1 < w3.heap.size := by omega
  have s3 : w.heap.size + 1 + 1 + 1 < w3.heap.size := by omega
  have s4 : w2.heap.size < w3.heap.size := by omega
  clear z1 z2 z3
  have hk := HK.out
  rcases hk with rfl | ⟨rfl, rfl⟩
  all_goals
    go_wp2_with fail
    go_ret
    exact ⟨rfl, by repeat (with_reducible first | exact Below.refl _ _ | refine Quiet.Bel.set ?_ (by omega) | apply below_alloc | apply below_drew1 | apply pw_below_drewN | refine below_step ?_ H1.out | refine below_step ?_ H2.out | refine below_step ?_ H3.out)⟩
set_option maxHeartbeats 40000000 in
set_option maxRecDepth 100000 in
theorem out0 (w : World) (a0_0 : Bool) (a0_1 : Int) (a0_2 : Int) (a0_3 : Bool) (a0_4 : Int) (a0_5 : Int) (a0_6 : Bool) (a0_7 : Bool) (a0_8 : Int) (a0_9 : Bool) (a0_10 : Bool) (a1_0 : Bool) (a1_1 : Int) (a1_2 : Int) (a1_3 : Int) (a1_4 : Int) (a2_0 : Int) (a2_1 : Int) (a2_2 : Int) (a3_0 : Int) (a3_1 : Int) (a3_2 : Int) (a4 : Bool)  (h0 : a2_0 > a3_0) :
    Calls Try.prog 7 #[.agg #[.bool a0_0, .int .i64 a0_1, .int .i64 a0_2, .bool a0_3, .int .i64 a0_4, .int .i64 a0_5, .bool a0_6, .bool a0_7, .int .i64 a0_8, .bool a0_9, .bool a0_10], .agg #[.bool a1_0, .int .i64 a1_1, .int .i64 a1_2, .int .i64 a1_3, .int .i64 a1_4], .agg #[.int .i64 a2_0, .int .i64 a2_1, .int .i64 a2_2], .agg #[.int .i64 a3_0, .int .i64 a3_1, .int .i64 a3_2], .bool a4] w fun e w' => e = .returned (.bool true) ∧ Below w.heap.size w w' := by
  have g0 : decide (a2_0 > a3_0) = true := decide_eq_true h0
  have f0 : decide (a3_0 < a2_0) = true := decide_eq_true (by omega)
  clear h0
  go_enter Try.func7, Try.ntmps7
  go_wp2_with fail
  refine (crossbucklaw12_small.calls true _ rfl).mono ?_
  rintro e w1 ⟨rfl, hb1⟩
  have H1 := Aside0.mk hb1
  have k1 : Quiet.Has w1 [(⟨w.heap.size, 0, none⟩, .bool a0_0), (⟨w.heap.size, 1, none⟩, .int .i64 a0_1), (⟨w.heap.size, 2, none⟩, .int .i64 a0_2), (⟨w.heap.size, 3, none⟩, .bool a0_3), (⟨w.heap.size, 4, none⟩, .int .i64 a0_4), (⟨w.heap.size, 5, none⟩, .int .i64 a0_5), (⟨w.heap.size, 6, none⟩, .bool a0_6), (⟨w.heap.size, 7, none⟩, .bool a0_7), (⟨w.heap.size, 8, none⟩, .int .i64 a0_8), (⟨w.heap.size, 9, none⟩, .bool a0_9), (⟨w.heap.size, 10, none⟩, .bool a0_10), (⟨w.heap.size + 1, 0, none⟩, .bool a1_0), (⟨w.heap.size + 1, 1, none⟩, .int .i64 a1_1), (⟨w.heap.size + 1, 2, none⟩, .int .i64 a1_2), (⟨w.heap.size + 1, 3, none⟩, .int .i64 a1_3), (⟨w.heap.size + 1, 4, none⟩, .int .i64 a1_4), (⟨w.heap.size + 1 + 1, 0, none⟩, .int .i64 a2_0), (⟨w.heap.size + 1 + 1, 1, none⟩, .int .i64 a2_1), (⟨w.heap.size + 1 + 1, 2, none⟩, .int .i64 a2_2), (⟨w.heap.size + 1 + 1 + 1, 0, none⟩, .int .i64 a3_0), (⟨w.heap.size + 1 + 1 + 1, 1, none⟩, .int .i64 a3_1), (⟨w.heap.size + 1 + 1 + 1, 2, none⟩, .int .i64 a3_2)] := Quiet.Has.bel (by simp only [Quiet.has_cons, Quiet.has_nil, and_true]; refine ⟨?_, ?_, ?_, ?_, ?_, ?_, ?_, ?_, ?_, ?_, ?_, ?_, ?_, ?_, ?_, ?_, ?_, ?_, ?_, ?_, ?_, ?_⟩ <;> go_simp) hb1
  clear hb1
  have u := k1
  simp only [Quiet.has_cons, Quiet.has_nil, and_true] at u
  obtain ⟨u0, u1, u2, u3, u4, u5, u6, u7, u8, u9, u10, u11, u12, u13, u14, u15, u16, u17, u18, u19, u20, u21⟩ := u
  go_wp2_with fail
  go_ret
  exact ⟨rfl, by repeat (with_reducible first | exact Below.refl _ _ | apply below_alloc | apply below_drew1 | apply pw_below_drewN | refine below_step ?_ H1.out)⟩
set_option maxHeartbeats 40000000 in
set_option maxRecDepth 100000 in
theorem out1 (w : World) (a0_0 : Bool) (a0_1 : Int) (a0_2 : Int) (a0_3 : Bool) (a0_4 : Int) (a0_5 : Int) (a0_6 : Bool) (a0_7 : Bool) (a0_8 : Int) (a0_9 : Bool) (a0_10 : Bool) (a1_0 : Bool) (a1_1 : Int) (a1_2 : Int) (a1_3 : Int) (a1_4 : Int) (a2_0 : Int) (a2_1 : Int) (a2_2 : Int) (a3_0 : Int) (a3_1 : Int) (a3_2 : Int) (a4 : Bool) (h0 : ¬ (a2_0 > a3_0)) (h1 : a2_1 > a3_1) :
    Calls Try.prog 7 #[.agg #[.bool a0_0, .int .i64 a0_1, .int .i64 a0_2, .bool a0_3, .int .i64 a0_4, .int .i64 a0_5, .bool a0_6, .bool a0_7, .int .i64 a0_8, .bool a0_9, .bool a0_10], .agg #[.bool a1_0, .int .i64 a1_1, .int .i64 a1_2, .int .i64 a1_3, .int .i64 a1_4], .agg #[.int .i64 a2_0, .int .i64 a2_1, .int .i64 a2_2], .agg #[.int .i64 a3_0, .int .i64 a3_1, .int .i64 a3_2], .bool a4] w fun e w' => e = .returned (.bool true) ∧ Below w.heap.size w w' := by
  have g0 : decide (a2_0 > a3_0) = false := decide_eq_false h0
  have f0 : decide (a3_0 < a2_0) = false := decide_eq_false (by omega)
  have g1 : decide (a2_1 > a3_1) = true := decide_eq_true h1
  have f1 : decide (a3_1 < a2_1) = true := decide_eq_true (by omega)
  clear h0 h1
  go_enter Try.func7, Try.ntmps7
  go_wp2_with fail
  refine (crossbucklaw12_small.calls true _ rfl).mono ?_
  rintro e w1 ⟨rfl, hb1⟩
  have H1 := Aside0.mk hb1
  have k1 : Quiet.Has w1 [(⟨w.heap.size, 0, none⟩, .bool a0_0), (⟨w.heap.size, 1, none⟩, .int .i64 a0_1), (⟨w.heap.size, 2, none⟩, .int .i64 a0_2), (⟨w.heap.size, 3, none⟩, .bool a0_3), (⟨w.heap.size, 4, none⟩, .int .i64 a0_4), (⟨w.heap.size, 5, none⟩, .int .i64 a0_5), (⟨w.heap.size, 6, none⟩, .bool a0_6), (⟨w.heap.size, 7, none⟩, .bool a0_7), (⟨w.heap.size, 8, none⟩, .int .i64 a0_8), (⟨w.heap.size, 9, none⟩, .bool a0_9), (⟨w.heap.size, 10, none⟩, .bool a0_10), (⟨w.heap.size + 1, 0, none⟩, .bool a1_0), (⟨w.heap.size + 1, 1, none⟩, .int .i64 a1_1), (⟨w.heap.size + 1, 2, none⟩, .int .i64 a1_2), (⟨w.heap.size + 1, 3, none⟩, .int .i64 a1_3), (⟨w.heap.size + 1, 4, none⟩, .int .i64 a1_4), (⟨w.heap.size + 1 + 1, 0, none⟩, .int .i64 a2_0), (⟨w.heap.size + 1 + 1, 1, none⟩, .int .i64 a2_1), (⟨w.heap.size + 1 + 1, 2, none⟩, .int .i64 a2_2), (⟨w.heap.size + 1 + 1 + 1, 0, none⟩, .int .i64 a3_0), (⟨w.heap.size + 1 + 1 + 1, 1, none⟩, .int .i64 a3_1), (⟨w.heap.size + 1 + 1 + 1, 2, none⟩, .int .i64 a3_2)] := Quiet.Has.bel (by simp only [Quiet.has_cons, Quiet.has_nil, and_true]; refine ⟨?_, ?_, ?_, ?_, ?_, ?_, ?_, ?_, ?_, ?_, ?_, ?_, ?_, ?_, ?_, ?_, ?_, ?_, ?_, ?_, ?_, ?_⟩ <;> go_simp) hb1
  clear hb1
  have u := k1
  simp only [Quiet.has_cons, Quiet.has_nil, and_true] at u
  obtain ⟨u0, u1, u2, u3, u4, u5, u6, u7, u8, u9, u10, u11, u12, u13, u14, u15, u16, u17, u18, u19, u20, u21⟩ := u
  go_wp2_with fail
  go_ret
  exact ⟨rfl, by repeat (with_reducible first | exact Below.refl _ _ | apply below_alloc | apply below_drew1 | apply pw_below_drewN | refine below_step ?_ H1.out)⟩
set_option maxHeartbeats 40000000 in
set_option maxRecDepth 100000 in
theorem out2 (w : World) (a0_0 : Bool) (a0_1 : Int) (a0_2 : Int) (a0_3 : Bool) (a0_4 : Int) (a0_5 : Int) (a0_6 : Bool) (a0_7 : Bool) (a0_8 : Int) (a0_9 : Bool) (a0_10 : Bool) (a1_0 : Bool) (a1_1 : Int) (a1_2 : Int) (a1_3 : Int) (a1_4 : Int) (a2_0 : Int) (a2_1 : Int) (a2_2 : Int) (a3_0 : Int) (a3_1 : Int) (a3_2 : Int) (a4 : Bool) (h0 : ¬ (a2_0 > a3_0)) (h1 : ¬ (a2_1 > a3_1)) (h2 : a2_2 > a3_2) :
    Calls Try.prog 7 #[.agg #[.bool a0_0, .int .i64 a0_1, .int .i64 a0_2, .bool a0_3, .int .i64 a0_4, .int .i64 a0_5, .bool a0_6, .bool a0_7, .int .i64 a0_8, .bool a0_9, .bool a0_10], .agg #[.bool a1_0, .int .i64 a1_1, .int .i64 a1_2, .int .i64 a1_3, .int .i64 a1_4], .agg #[.int .i64 a2_0, .int .i64 a2_1, .int .i64 a2_2], .agg #[.int .i64 a3_0, .int .i64 a3_1, .int .i64 a3_2], .bool a4] w fun e w' => e = .returned (.bool true) ∧ Below w.heap.size w w' := by
  have g0 : decide (a2_0 > a3_0) = false := decide_eq_false h0
  have f0 : decide (a3_0 < a2_0) = false := decide_eq_false (by omega)
  have g1 : decide (a2_1 > a3_1) = false := decide_eq_false h1
  have f1 : decide (a3_1 < a2_1) = false := decide_eq_false (by omega)
  have g2 : decide (a2_2 > a3_2) = true := decide_eq_true h2
  have f2 : decide (a3_2 < a2_2) = true := decide_eq_true (by omega)
  clear h0 h1 h2
  go_enter Try.func7, Try.ntmps7
  go_wp2_with fail
  refine (crossbucklaw12_small.calls true _ rfl).mono ?_
  rintro e w1 ⟨rfl, hb1⟩
  have H1 := Aside0.mk hb1
  have k1 : Quiet.Has w1 [(⟨w.heap.size, 0, none⟩, .bool a0_0), (⟨w.heap.size, 1, none⟩, .int .i64 a0_1), (⟨w.heap.size, 2, none⟩, .int .i64 a0_2), (⟨w.heap.size, 3, none⟩, .bool a0_3), (⟨w.heap.size, 4, none⟩, .int .i64 a0_4), (⟨w.heap.size, 5, none⟩, .int .i64 a0_5), (⟨w.heap.size, 6, none⟩, .bool a0_6), (⟨w.heap.size, 7, none⟩, .bool a0_7), (⟨w.heap.size, 8, none⟩, .int .i64 a0_8), (⟨w.heap.size, 9, none⟩, .bool a0_9), (⟨w.heap.size, 10, none⟩, .bool a0_10), (⟨w.heap.size + 1, 0, none⟩, .bool a1_0), (⟨w.heap.size + 1, 1, none⟩, .int .i64 a1_1), (⟨w.heap.size + 1, 2, none⟩, .int .i64 a1_2), (⟨w.heap.size + 1, 3, none⟩, .int .i64 a1_3), (⟨w.heap.size + 1, 4, none⟩, .int .i64 a1_4), (⟨w.heap.size + 1 + 1, 0, none⟩, .int .i64 a2_0), (⟨w.heap.size + 1 + 1, 1, none⟩, .int .i64 a2_1), (⟨w.heap.size + 1 + 1, 2, none⟩, .int .i64 a2_2), (⟨w.heap.size + 1 + 1 + 1, 0, none⟩, .int .i64 a3_0), (⟨w.heap.size + 1 + 1 + 1, 1, none⟩, .int .i64 a3_1), (⟨w.heap.size + 1 + 1 + 1, 2, none⟩, .int .i64 a3_2)] := Quiet.Has.bel (by simp only [Quiet.has_cons, Quiet.has_nil, and_true]; refine ⟨?_, ?_, ?_, ?_, ?_, ?_, ?_, ?_, ?_, ?_, ?_, ?_, ?_, ?_, ?_, ?_, ?_, ?_, ?_, ?_, ?_, ?_⟩ <;> go_simp) hb1
  clear hb1
  have u := k1
  simp only [Quiet.has_cons, Quiet.has_nil, and_true] at u
  obtain ⟨u0, u1, u2, u3, u4, u5, u6, u7, u8, u9, u10, u11, u12, u13, u14, u15, u16, u17, u18, u19, u20, u21⟩ := u
  go_wp2_with fail
  go_ret
  exact ⟨rfl, by repeat (with_reducible first | exact Below.refl _ _ | apply below_alloc | apply below_drew1 | apply pw_below_drewN | refine below_step ?_ H1.out)⟩
theorem wait_le (cc a0 a1 a2 b0 b1 b2 : Int) (h0 : a0 ≤ b0) (h1 : a1 ≤ b1) (h2 : a2 ≤ b2) : wait cc a0 a1 a2 ≤ wait cc b0 b1 b2 := by
  unfold wait
  split
  · exact h0
  · split
    · exact h1
    · split
      · exact h2
      · omega
theorem call_le (c f : Bool) (s a b : Int) (h : a ≤ b) (hk : kN c f s b = true) : kN c f s a = true := by
  unfold kN at hk ⊢
  cases c
  · cases f
    · have : s > b := by simpa using hk
      simp only [Bool.not_false, Bool.true_and, Bool.false_or]
      exact decide_eq_true (by omega)
    · rfl
  · simp at hk
theorem walk (w : World) (a0_0 : Bool) (a0_1 : Int) (a0_2 : Int) (a0_3 : Bool) (a0_4 : Int) (a0_5 : Int) (a0_6 : Bool) (a0_7 : Bool) (a0_8 : Int) (a0_9 : Bool) (a0_10 : Bool) (a1_0 : Bool) (a1_1 : Int) (a1_2 : Int) (a1_3 : Int) (a1_4 : Int) (a2_0 : Int) (a2_1 : Int) (a2_2 : Int) (a3_0 : Int) (a3_1 : Int) (a3_2 : Int) (a4 : Bool) (_ : (Lit.int .i64 a0_1).wf = true) (_ : (Lit.int .i64 a0_2).wf = true) (_ : (Lit.int .i64 a0_4).wf = true) (_ : (Lit.int .i64 a0_5).wf = true) (_ : (Lit.int .i64 a0_8).wf = true) (_ : (Lit.int .i64 a1_1).wf = true) (_ : (Lit.int .i64 a1_2).wf = true) (_ : (Lit.int .i64 a1_3).wf = true) (_ : (Lit.int .i64 a1_4).wf = true) (_ : (Lit.int .i64 a2_0).wf = true) (_ : (Lit.int .i64 a2_1).wf = true) (_ : (Lit.int .i64 a2_2).wf = true) (_ : (Lit.int .i64 a3_0).wf = true) (_ : (Lit.int .i64 a3_1).wf = true) (_ : (Lit.int .i64 a3_2).wf = true) :
    Calls Try.prog 7 #[.agg #[.bool a0_0, .int .i64 a0_1, .int .i64 a0_2, .bool a0_3, .int .i64 a0_4, .int .i64 a0_5, .bool a0_6, .bool a0_7, .int .i64 a0_8, .bool a0_9, .bool a0_10], .agg #[.bool a1_0, .int .i64 a1_1, .int .i64 a1_2, .int .i64 a1_3, .int .i64 a1_4], .agg #[.int .i64 a2_0, .int .i64 a2_1, .int .i64 a2_2], .agg #[.int .i64 a3_0, .int .i64 a3_1, .int .i64 a3_2], .bool a4] w fun e w' => e = .returned (.bool true) ∧ Below w.heap.size w w' := by
  by_cases h0 : a2_0 > a3_0
  · exact out0 w a0_0 a0_1 a0_2 a0_3 a0_4 a0_5 a0_6 a0_7 a0_8 a0_9 a0_10 a1_0 a1_1 a1_2 a1_3 a1_4 a2_0 a2_1 a2_2 a3_0 a3_1 a3_2 a4 h0
  by_cases h1 : a2_1 > a3_1
  · exact out1 w a0_0 a0_1 a0_2 a0_3 a0_4 a0_5 a0_6 a0_7 a0_8 a0_9 a0_10 a1_0 a1_1 a1_2 a1_3 a1_4 a2_0 a2_1 a2_2 a3_0 a3_1 a3_2 a4 h0 h1
  by_cases h2 : a2_2 > a3_2
  · exact out2 w a0_0 a0_1 a0_2 a0_3 a0_4 a0_5 a0_6 a0_7 a0_8 a0_9 a0_10 a1_0 a1_1 a1_2 a1_3 a1_4 a2_0 a2_1 a2_2 a3_0 a3_1 a3_2 a4 h0 h1 h2
  have sa := step_eq 0 a0_0 a0_1 a0_2 a0_3 a0_4 a0_5 a0_6 a0_7 a0_8 a0_9 a0_10 a1_0 a1_1 a1_2 a1_3 a1_4 a2_0 a2_1 a2_2 a4 _ _ _ _ _ rfl rfl rfl rfl rfl
  have sb := step_eq 0 a0_0 a0_1 a0_2 a0_3 a0_4 a0_5 a0_6 a0_7 a0_8 a0_9 a0_10 a1_0 a1_1 a1_2 a1_3 a1_4 a3_0 a3_1 a3_2 a4 _ _ _ _ _ rfl rfl rfl rfl rfl
  refine core w a0_0 a0_1 a0_2 a0_3 a0_4 a0_5 a0_6 a0_7 a0_8 a0_9 a0_10 a1_0 a1_1 a1_2 a1_3 a1_4 a2_0 a2_1 a2_2 a3_0 a3_1 a3_2 a4 _ _ _ _ _ _ _ _ _ _ _ _ (by omega) (by omega) (by omega) sa sb ?_
  generalize fN _ _ _ = f
  generalize cN _ _ _ _ _ _ _ = c
  generalize sN _ _ = s
  have hw := call_le c f s _ _ (wait_le a1_3 a2_0 a2_1 a2_2 a3_0 a3_1 a3_2 (by omega) (by omega) (by omega))
  cases hy : kN c f s (wait a1_3 a3_0 a3_1 a3_2)
  · exact Or.inl rfl
  · exact Or.inr ⟨rfl, hw hy⟩
end Longer
end Go.Proofs.Ytnmcnailgdcmoaa.B
