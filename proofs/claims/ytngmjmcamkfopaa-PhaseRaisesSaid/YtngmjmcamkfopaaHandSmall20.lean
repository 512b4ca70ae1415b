/- The small case of layer 20 comes out right. -/
import Derived.Test.YtngmjmcamkfopaaAx5
import Derived.Test.YtngmjmcamkfopaaAx1
import Derived.Test.YtngmjmcamkfopaaAx2
import Derived.Test.YtngmjmcamkfopaaHandLights
import Derived.Test.YtngmjmcamkfopaaHas
import Derived.Outline
import Derived.Deep.RegionHeld3
import Derived.Deep.DrawnRows
import Derived.Deep.QuietTactic
import Derived.BigQuiet
import Derived.BigRegion
import Derived.Deep.RegionWith
namespace Go.Proofs.Ytngmjmcamkfopaa.A
open Go.RowKit Go.Proofs.YtngmjmcamkfopaaW.PrintWords Go.Proofs.YtngmjmcamkfopaaW.PrintLast Go.Proofs.YtngmjmcamkfopaaW.PrintMore
set_option linter.unusedVariables false
set_option linter.unusedSimpArgs false
attribute [local go_sem] Quiet.bel_all
attribute [local go_sem ↓] Go.wp_at_zero Go.wp_at_succ
attribute [local go_sem high] eqA28 eqA38
def crossbucklaw20_small.f : Option Bool := some true
set_option maxHeartbeats 40000000 in
set_option maxRecDepth 100000 in
theorem crossbucklaw20_small.calls (r : Bool) (w : World) (h : crossbucklaw20_small.f = some r) :
    Calls Try.prog 9 #[] w fun e w' => e = .returned (.bool r) ∧ Below w.heap.size w w' := by
  obtain rfl : true = r := Option.some.inj h
  clear h
  have hfield : ∀ (c0 c1 c2 c3 c4 : Value) (W : World), (Instr.field 38 (.agg #[c0, c1, c2, c3, c4]) 4).run Try.prog W = .ok c4 W := fun _ _ _ _ _ _ => by kernel_rfl
  go_enter Try.func9, Try.ntmps9
  go_wp2_with fail
  refine (phase_Enter.calls 0 0 1 _ (by decide +kernel)).mono ?_
  rintro e w1 ⟨rfl, hb1⟩
  have H1 := Aside0.mk hb1
  have k1 : Quiet.Has w1 [(⟨w.heap.size, 0, none⟩, .int .i64 2), (⟨w.heap.size, 1, none⟩, .int .i64 1), (⟨w.heap.size, 2, none⟩, .int .i64 1), (⟨w.heap.size, 3, none⟩, .int .i64 0), (⟨w.heap.size, 4, none⟩, .int .i64 0), (⟨w.heap.size, 5, none⟩, .int .i64 1), (⟨w.heap.size, 6, none⟩, .int .i64 3), (⟨w.heap.size, 7, none⟩, .int .i64 0), (⟨w.heap.size, 8, none⟩, .int .i64 0), (⟨w.heap.size, 9, none⟩, .int .i64 0), (⟨w.heap.size + 1, 0, none⟩, .bool true), (⟨w.heap.size + 1, 1, none⟩, .bool false)] := Quiet.Has.bel (by simp only [Quiet.has_cons, Quiet.has_nil, and_true]; refine ⟨?_, ?_, ?_, ?_, ?_, ?_, ?_, ?_, ?_, ?_, ?_, ?_⟩ <;> go_simp) hb1
  clear hb1
  have kA1 := (((k1.alloc (.cells #[.int .i64 0, .int .i64 1] 28)).more (show _ = some (.int .i64 0) from Quiet.alloc_cell 0)).more (show _ = some (.int .i64 1) from Quiet.alloc_cell 1))
  have u := kA1
  simp only [Quiet.has_cons, Quiet.has_nil, and_true] at u
  obtain ⟨u0, u1, u2, u3, u4, u5, u6, u7, u8, u9, u10, u11, u12, u13⟩ := u
  go_wp2_with fail
  refine (phase_Step.calls 60 2 1 1 0 0 1 3 0 0 0 0 1 true false false false false false false 1 1 _ (by decide +kernel)).mono ?_
  rintro e w2 ⟨rfl, hb2⟩
  have H2 := Aside0.mk hb2
  have k2 := kA1.bel hb2
  clear u0 u1 u2 u3 u4 u5 u6 u7 u8 u9 u10 u11 u12 u13
  clear hb2
  have kA2 := (((k2.alloc (.cells #[.int .i64 1, .int .i64 1] 28)).more (show _ = some (.int .i64 1) from Quiet.alloc_cell 0)).more (show _ = some (.int .i64 1) from Quiet.alloc_cell 1))
  have u := kA2
  simp only [Quiet.has_cons, Quiet.has_nil, and_true] at u
  obtain ⟨u0, u1, u2, u3, u4, u5, u6, u7, u8, u9, u10, u11, u12, u13, u14, u15⟩ := u
  go_wp2_with fail
  refine (phase_Step.calls 60 2 1 1 0 0 1 3 0 0 0 1 1 true false false false false false false 1 2 _ (by decide +kernel)).mono ?_
  rintro e w3 ⟨rfl, hb3⟩
  have H3 := Aside0.mk hb3
  have k3 := kA2.bel hb3
  clear u0 u1 u2 u3 u4 u5 u6 u7 u8 u9 u10 u11 u12 u13 u14 u15
  clear hb3
  have kA3 := (((k3.alloc (.cells #[.int .i64 1, .int .i64 2] 28)).more (show _ = some (.int .i64 1) from Quiet.alloc_cell 0)).more (show _ = some (.int .i64 2) from Quiet.alloc_cell 1))
  have u := kA3
  simp only [Quiet.has_cons, Quiet.has_nil, and_true] at u
  obtain ⟨u0, u1, u2, u3, u4, u5, u6, u7, u8, u9, u10, u11, u12, u13, u14, u15, u16, u17⟩ := u
  go_wp2_with fail
  refine (phase_Step.calls 60 2 1 1 0 0 1 3 0 0 0 1 2 true false false false false false false 2 1 _ (by decide +kernel)).mono ?_
  rintro e w4 ⟨rfl, hb4⟩
  have H4 := Aside0.mk hb4
  have k4 := kA3.bel hb4
  clear u0 u1 u2 u3 u4 u5 u6 u7 u8 u9 u10 u11 u12 u13 u14 u15 u16 u17
  clear hb4
  have kA4 := (((k4.alloc (.cells #[.int .i64 2, .int .i64 1] 28)).more (show _ = some (.int .i64 2) from Quiet.alloc_cell 0)).more (show _ = some (.int .i64 1) from Quiet.alloc_cell 1))
  have u := kA4
  simp only [Quiet.has_cons, Quiet.has_nil, and_true] at u
  obtain ⟨u0, u1, u2, u3, u4, u5, u6, u7, u8, u9, u10, u11, u12, u13, u14, u15, u16, u17, u18, u19⟩ := u
  go_wp2_with fail
  have hB5 := Aside0.mk (show Below w.heap.size w (w4.alloc (.cells #[.int .i64 2, .int .i64 1] 28)) from by repeat (with_reducible first | exact Below.refl _ _ | apply below_alloc | apply below_drew1 | apply pw_below_drewN | refine below_step ?_ H1.out | refine below_step ?_ H2.out | refine below_step ?_ H3.out | refine below_step ?_ H4.out))
  clear u0 u1 u2 u3 u4 u5 u6 u7 u8 u9 u10 u11 u12 u13 u14 u15 u16 u17 u18 u19
  apply Quiet.tailA (S := fun w' => Quiet.Has w' [(⟨w4.heap.size, 1, none⟩, .int .i64 1), (⟨w4.heap.size, 0, none⟩, .int .i64 2), (⟨w3.heap.size, 1, none⟩, .int .i64 2), (⟨w3.heap.size, 0, none⟩, .int .i64 1), (⟨w2.heap.size, 1, none⟩, .int .i64 1), (⟨w2.heap.size, 0, none⟩, .int .i64 1), (⟨w1.heap.size, 1, none⟩, .int .i64 1), (⟨w1.heap.size, 0, none⟩, .int .i64 0), (⟨w.heap.size, 0, none⟩, .int .i64 2), (⟨w.heap.size, 1, none⟩, .int .i64 1), (⟨w.heap.size, 2, none⟩, .int .i64 1), (⟨w.heap.size, 3, none⟩, .int .i64 0), (⟨w.heap.size, 4, none⟩, .int .i64 0), (⟨w.heap.size, 5, none⟩, .int .i64 1), (⟨w.heap.size, 6, none⟩, .int .i64 3), (⟨w.heap.size, 7, none⟩, .int .i64 0), (⟨w.heap.size, 8, none⟩, .int .i64 0), (⟨w.heap.size, 9, none⟩, .int .i64 0), (⟨w.heap.size + 1, 0, none⟩, .bool true), (⟨w.heap.size + 1, 1, none⟩, .bool false)]) (n := 10) (iA := 9) (d := 7) (ob := .cells #[.int .i64 0, .int .i64 0] 28) (hm := by kernel_rfl) (hB := by kernel_rfl) (hiA := by omega) (hz := by kernel_rfl) (hS := fun w' hw => kA4.bel hw)
  case hA =>
    intro oA ho
    obtain rfl := Option.some.inj ho
    exact ⟨rfl, fun ρ w => by kernel_rfl⟩
  case h =>
    intro W1 hcell
    simp only [List.take_succ_cons, List.take_zero, List.eraseIdx_cons_succ, List.eraseIdx_cons_zero, List.drop_succ_cons, List.drop_zero]
    repeat (first
      | go_big_quiet_skip
      | (go_big_quiet_want; go_big_quiet_op; go_big_quiet_on)
      | (refine Quiet.val _ _ (by rfl) (by (intro w' hC; have u := hcell w' hC; simp only [Quiet.has_cons, Quiet.has_nil, and_true] at u; obtain ⟨u0, u1, u2, u3, u4, u5, u6, u7, u8, u9, u10, u11, u12, u13, u14, u15, u16, u17, u18, u19⟩ := u; go_simp; with_reducible rfl)) (by (simp only [Act.put, List.setIfInBounds_toArray, List.set_cons_zero, List.set_cons_succ]; rfl)) ?_)
      | (refine Quiet.call (args := #[.agg #[.int .i64 2, .int .i64 1, .int .i64 1, .int .i64 0, .int .i64 0, .int .i64 1, .int .i64 3, .int .i64 0, .int .i64 0, .int .i64 0], .agg #[.int .i64 2, .int .i64 1], .agg #[.bool true, .bool false], .agg #[.bool false, .bool false, .bool false, .bool false], .bool true]) _ _ (by rfl) (by rfl) Try.func12 (by kernel_rfl) rfl (by simp only [List.map_toArray, List.map_cons, List.map_nil]; rfl) (fun w' hC => phase_Step.calls 60 2 1 1 0 0 1 3 0 0 0 2 1 true false false false false false true 3 1 _ (by decide +kernel)) (by (simp only [Act.put, List.setIfInBounds_toArray, List.set_cons_zero, List.set_cons_succ]; rfl)) ?_)
      | (refine Quiet.call (args := #[.agg #[.int .i64 2, .int .i64 1, .int .i64 1, .int .i64 0, .int .i64 0, .int .i64 1, .int .i64 3, .int .i64 0, .int .i64 0, .int .i64 0], .agg #[.int .i64 3, .int .i64 1], .agg #[.bool true, .bool false], .agg #[.bool false, .bool false, .bool false, .bool false], .bool true]) _ _ (by rfl) (by rfl) Try.func12 (by kernel_rfl) rfl (by simp only [List.map_toArray, List.map_cons, List.map_nil]; rfl) (fun w' hC => phase_Step.calls 60 2 1 1 0 0 1 3 0 0 0 3 1 true false false false false false true 3 2 _ (by decide +kernel)) (by (simp only [Act.put, List.setIfInBounds_toArray, List.set_cons_zero, List.set_cons_succ]; rfl)) ?_))
    exact Quiet.done rfl
  intro W5 hW5 b5 w' hbel hS hb hob
  have K0 := hW5.has kA4
  have hle := hW5.le hB5.out hb
  have z0 : w'.cell? ⟨b5, 0, none⟩ = some (.int .i64 0) := Quiet.cell_of hob 0
  have f0 := Quiet.frozen_of hob 0
  have z1 : w'.cell? ⟨b5, 1, none⟩ = some (.int .i64 0) := Quiet.cell_of hob 1
  have f1 := Quiet.frozen_of hob 1
  have k5 := ((((hS.set K0 (k := 0) (v := .int .i64 3) hb).set K0 (k := 1) (v := .int .i64 2) hb).more (a := ⟨b5, 0, none⟩) (v := .int .i64 3) (by go_simp)).more (a := ⟨b5, 1, none⟩) (v := .int .i64 2) (by go_simp))
  have B5 := Aside0.mk (Quiet.Bel.set (k := 1) (v := .int .i64 2) (Quiet.Bel.set (k := 0) (v := .int .i64 3) (Quiet.Bel.out hB5.out hW5 hbel) hle) hle)
  simp only [List.take_succ_cons, List.take_zero, List.eraseIdx_cons_succ, List.eraseIdx_cons_zero, List.drop_succ_cons, List.drop_zero, Act.put, List.setIfInBounds_toArray, List.set_cons_zero, List.set_cons_succ]
  clear hbel hS hb hob K0 hle
  refine store_event rfl rfl rfl (w1 := ((w'.setCell ⟨b5, 0, none⟩ (.int .i64 3)).setCell ⟨b5, 1, none⟩ (.int .i64 2))) (by go_simp) ?_
  intro w5 hw5
  rw [← hw5] at k5 B5
  clear hw5 z0 f0 z1 f1
  clear w' hW5 W5
  have u := k5
  simp only [Quiet.has_cons, Quiet.has_nil, and_true] at u
  obtain ⟨u0, u1, u2, u3, u4, u5, u6, u7, u8, u9, u10, u11, u12, u13, u14, u15, u16, u17, u18, u19, u20, u21⟩ := u
  go_wp2_with fail
  have hB6 := Aside0.mk (show Below w.heap.size w (w5) from by repeat (with_reducible first | exact B5.out | apply below_alloc | apply below_drew1 | apply pw_below_drewN))
  clear u0 u1 u2 u3 u4 u5 u6 u7 u8 u9 u10 u11 u12 u13 u14 u15 u16 u17 u18 u19 u20 u21
  apply Quiet.tailA (S := fun w' => Quiet.Has w' [(⟨b5, 1, none⟩, .int .i64 2), (⟨b5, 0, none⟩, .int .i64 3), (⟨w4.heap.size, 1, none⟩, .int .i64 1), (⟨w4.heap.size, 0, none⟩, .int .i64 2), (⟨w3.heap.size, 1, none⟩, .int .i64 2), (⟨w3.heap.size, 0, none⟩, .int .i64 1), (⟨w2.heap.size, 1, none⟩, .int .i64 1), (⟨w2.heap.size, 0, none⟩, .int .i64 1), (⟨w1.heap.size, 1, none⟩, .int .i64 1), (⟨w1.heap.size, 0, none⟩, .int .i64 0), (⟨w.heap.size, 0, none⟩, .int .i64 2), (⟨w.heap.size, 1, none⟩, .int .i64 1), (⟨w.heap.size, 2, none⟩, .int .i64 1), (⟨w.heap.size, 3, none⟩, .int .i64 0), (⟨w.heap.size, 4, none⟩, .int .i64 0), (⟨w.heap.size, 5, none⟩, .int .i64 1), (⟨w.heap.size, 6, none⟩, .int .i64 3), (⟨w.heap.size, 7, none⟩, .int .i64 0), (⟨w.heap.size, 8, none⟩, .int .i64 0), (⟨w.heap.size, 9, none⟩, .int .i64 0), (⟨w.heap.size + 1, 0, none⟩, .bool true), (⟨w.heap.size + 1, 1, none⟩, .bool false)]) (n := 14) (iA := 13) (d := 8) (ob := .cells #[.int .i64 0, .int .i64 0] 28) (hm := by kernel_rfl) (hB := by kernel_rfl) (hiA := by omega) (hz := by kernel_rfl) (hS := fun w' hw => k5.bel hw)
  case hA =>
    intro oA ho
    obtain rfl := Option.some.inj ho
    exact ⟨rfl, fun ρ w => by kernel_rfl⟩
  case h =>
    intro W1 hcell
    simp only [List.take_succ_cons, List.take_zero, List.eraseIdx_cons_succ, List.eraseIdx_cons_zero, List.drop_succ_cons, List.drop_zero]
    repeat (first
      | go_big_quiet_skip
      | (go_big_quiet_want; go_big_quiet_op; go_big_quiet_on)
      | (refine Quiet.val _ _ (by rfl) (by (intro w' hC; have u := hcell w' hC; simp only [Quiet.has_cons, Quiet.has_nil, and_true] at u; obtain ⟨u0, u1, u2, u3, u4, u5, u6, u7, u8, u9, u10, u11, u12, u13, u14, u15, u16, u17, u18, u19, u20, u21⟩ := u; go_simp; with_reducible rfl)) (by (simp only [Act.put, List.setIfInBounds_toArray, List.set_cons_zero, List.set_cons_succ]; rfl)) ?_)
      | (refine Quiet.call (args := #[.agg #[.int .i64 2, .int .i64 1, .int .i64 1, .int .i64 0, .int .i64 0, .int .i64 1, .int .i64 3, .int .i64 0, .int .i64 0, .int .i64 0], .agg #[.int .i64 3, .int .i64 2], .agg #[.bool true, .bool false], .agg #[.bool false, .bool false, .bool false, .bool false], .bool true]) _ _ (by rfl) (by rfl) Try.func12 (by kernel_rfl) rfl (by simp only [List.map_toArray, List.map_cons, List.map_nil]; rfl) (fun w' hC => phase_Step.calls 60 2 1 1 0 0 1 3 0 0 0 3 2 true false false false false false true 3 3 _ (by decide +kernel)) (by (simp only [Act.put, List.setIfInBounds_toArray, List.set_cons_zero, List.set_cons_succ]; rfl)) ?_)
      | (refine Quiet.call (args := #[.agg #[.int .i64 2, .int .i64 1, .int .i64 1, .int .i64 0, .int .i64 0, .int .i64 1, .int .i64 3, .int .i64 0, .int .i64 0, .int .i64 0], .agg #[.int .i64 3, .int .i64 3], .agg #[.bool true, .bool false], .agg #[.bool false, .bool false, .bool false, .bool false], .bool true]) _ _ (by rfl) (by rfl) Try.func12 (by kernel_rfl) rfl (by simp only [List.map_toArray, List.map_cons, List.map_nil]; rfl) (fun w' hC => phase_Step.calls 60 2 1 1 0 0 1 3 0 0 0 3 3 true false false false false false true 3 4 _ (by decide +kernel)) (by (simp only [Act.put, List.setIfInBounds_toArray, List.set_cons_zero, List.set_cons_succ]; rfl)) ?_)
      | (refine Quiet.call (args := #[.agg #[.int .i64 2, .int .i64 1, .int .i64 1, .int .i64 0, .int .i64 0, .int .i64 1, .int .i64 3, .int .i64 0, .int .i64 0, .int .i64 0], .agg #[.int .i64 3, .int .i64 4], .agg #[.bool true, .bool false], .agg #[.bool false, .bool false, .bool false, .bool false], .bool true]) _ _ (by rfl) (by rfl) Try.func12 (by kernel_rfl) rfl (by simp only [List.map_toArray, List.map_cons, List.map_nil]; rfl) (fun w' hC => phase_Step.calls 60 2 1 1 0 0 1 3 0 0 0 3 4 true false false false false false true 4 1 _ (by decide +kernel)) (by (simp only [Act.put, List.setIfInBounds_toArray, List.set_cons_zero, List.set_cons_succ]; rfl)) ?_))
    exact Quiet.done rfl
  intro W6 hW6 b6 w' hbel hS hb hob
  have K0 := hW6.has k5
  have hle := hW6.le hB6.out hb
  have z0 : w'.cell? ⟨b6, 0, none⟩ = some (.int .i64 0) := Quiet.cell_of hob 0
  have f0 := Quiet.frozen_of hob 0
  have z1 : w'.cell? ⟨b6, 1, none⟩ = some (.int .i64 0) := Quiet.cell_of hob 1
  have f1 := Quiet.frozen_of hob 1
  have k6 := ((((hS.set K0 (k := 0) (v := .int .i64 4) hb).set K0 (k := 1) (v := .int .i64 1) hb).more (a := ⟨b6, 0, none⟩) (v := .int .i64 4) (by go_simp)).more (a := ⟨b6, 1, none⟩) (v := .int .i64 1) (by go_simp))
  have B6 := Aside0.mk (Quiet.Bel.set (k := 1) (v := .int .i64 1) (Quiet.Bel.set (k := 0) (v := .int .i64 4) (Quiet.Bel.out hB6.out hW6 hbel) hle) hle)
  simp only [List.take_succ_cons, List.take_zero, List.eraseIdx_cons_succ, List.eraseIdx_cons_zero, List.drop_succ_cons, List.drop_zero, Act.put, List.setIfInBounds_toArray, List.set_cons_zero, List.set_cons_succ]
  clear hbel hS hb hob K0 hle
  refine store_event rfl rfl rfl (w1 := ((w'.setCell ⟨b6, 0, none⟩ (.int .i64 4)).setCell ⟨b6, 1, none⟩ (.int .i64 1))) (by go_simp) ?_
  intro w6 hw6
  rw [← hw6] at k6 B6
  clear hw6 z0 f0 z1 f1
  clear w' hW6 W6
  have u := k6
  simp only [Quiet.has_cons, Quiet.has_nil, and_true] at u
  obtain ⟨u0, u1, u2, u3, u4, u5, u6, u7, u8, u9, u10, u11, u12, u13, u14, u15, u16, u17, u18, u19, u20, u21, u22, u23⟩ := u
  go_wp2_with fail
  refine (phase_Step.calls 60 2 1 1 0 0 1 3 0 0 0 4 1 true false true false true false true 5 1 _ (by decide +kernel)).mono ?_
  rintro e w7 ⟨rfl, hb7⟩
  have H7 := Aside0.mk hb7
  have k7 := k6.bel hb7
  clear u0 u1 u2 u3 u4 u5 u6 u7 u8 u9 u10 u11 u12 u13 u14 u15 u16 u17 u18 u19 u20 u21 u22 u23
  clear hb7
  have kA7 := (((k7.alloc (.cells #[.int .i64 5, .int .i64 1] 28)).more (show _ = some (.int .i64 5) from Quiet.alloc_cell 0)).more (show _ = some (.int .i64 1) from Quiet.alloc_cell 1))
  have u := kA7
  simp only [Quiet.has_cons, Quiet.has_nil, and_true] at u
  obtain ⟨u0, u1, u2, u3, u4, u5, u6, u7, u8, u9, u10, u11, u12, u13, u14, u15, u16, u17, u18, u19, u20, u21, u22, u23, u24, u25⟩ := u
  go_wp2_with fail
  refine (phase_Step.calls 60 2 1 1 0 0 1 3 0 0 0 5 1 false false false false false false false 6 1 _ (by decide +kernel)).mono ?_
  rintro e w8 ⟨rfl, hb8⟩
  have H8 := Aside0.mk hb8
  have k8 := kA7.bel hb8
  clear u0 u1 u2 u3 u4 u5 u6 u7 u8 u9 u10 u11 u12 u13 u14 u15 u16 u17 u18 u19 u20 u21 u22 u23 u24 u25
  clear hb8
  have kA8 := (((k8.alloc (.cells #[.int .i64 6, .int .i64 1] 28)).more (show _ = some (.int .i64 6) from Quiet.alloc_cell 0)).more (show _ = some (.int .i64 1) from Quiet.alloc_cell 1))
  have u := kA8
  simp only [Quiet.has_cons, Quiet.has_nil, and_true] at u
  obtain ⟨u0, u1, u2, u3, u4, u5, u6, u7, u8, u9, u10, u11, u12, u13, u14, u15, u16, u17, u18, u19, u20, u21, u22, u23, u24, u25, u26, u27⟩ := u
  go_wp2_with fail
  refine (phase_Step.calls 60 2 1 1 0 0 1 3 0 0 0 6 1 false false false true false true false 0 1 _ (by decide +kernel)).mono ?_
  rintro e w9 ⟨rfl, hb9⟩
  have H9 := Aside0.mk hb9
  have k9 := kA8.bel hb9
  clear u0 u1 u2 u3 u4 u5 u6 u7 u8 u9 u10 u11 u12 u13 u14 u15 u16 u17 u18 u19 u20 u21 u22 u23 u24 u25 u26 u27
  clear hb9
  have kA9 := (((k9.alloc (.cells #[.int .i64 0, .int .i64 1] 28)).more (show _ = some (.int .i64 0) from Quiet.alloc_cell 0)).more (show _ = some (.int .i64 1) from Quiet.alloc_cell 1))
  have u := kA9
  simp only [Quiet.has_cons, Quiet.has_nil, and_true] at u
  obtain ⟨u0, u1, u2, u3, u4, u5, u6, u7, u8, u9, u10, u11, u12, u13, u14, u15, u16, u17, u18, u19, u20, u21, u22, u23, u24, u25, u26, u27, u28, u29⟩ := u
  go_wp2_with fail
  refine (phase_Lights.calls 4 1 false true true true true _ (by decide +kernel)).mono ?_
  rintro e w10 ⟨rfl, hb10⟩
  have H10 := Aside0.mk hb10
  have k10 := kA9.bel hb10
  clear u0 u1 u2 u3 u4 u5 u6 u7 u8 u9 u10 u11 u12 u13 u14 u15 u16 u17 u18 u19 u20 u21 u22 u23 u24 u25 u26 u27 u28 u29
  clear hb10
  have u := k10
  simp only [Quiet.has_cons, Quiet.has_nil, and_true] at u
  obtain ⟨u0, u1, u2, u3, u4, u5, u6, u7, u8, u9, u10, u11, u12, u13, u14, u15, u16, u17, u18, u19, u20, u21, u22, u23, u24, u25, u26, u27, u28, u29⟩ := u
  go_wp2_with fail
  refine (phase_Lights.calls 3 2 false true true true false _ (by decide +kernel)).mono ?_
  rintro e w11 ⟨rfl, hb11⟩
  have H11 := Aside0.mk hb11
  have k11 := k10.bel hb11
  clear u0 u1 u2 u3 u4 u5 u6 u7 u8 u9 u10 u11 u12 u13 u14 u15 u16 u17 u18 u19 u20 u21 u22 u23 u24 u25 u26 u27 u28 u29
  clear hb11
  have u := k11
  simp only [Quiet.has_cons, Quiet.has_nil, and_true] at u
  obtain ⟨u0, u1, u2, u3, u4, u5, u6, u7, u8, u9, u10, u11, u12, u13, u14, u15, u16, u17, u18, u19, u20, u21, u22, u23, u24, u25, u26, u27, u28, u29⟩ := u
  go_wp2_with fail
  refine (phase_Lights.calls 0 1 false false false false false _ (by decide +kernel)).mono ?_
  rintro e w12 ⟨rfl, hb12⟩
  have H12 := Aside0.mk hb12
  have k12 := k11.bel hb12
  clear u0 u1 u2 u3 u4 u5 u6 u7 u8 u9 u10 u11 u12 u13 u14 u15 u16 u17 u18 u19 u20 u21 u22 u23 u24 u25 u26 u27 u28 u29
  clear hb12
  have u := k12
  simp only [Quiet.has_cons, Quiet.has_nil, and_true] at u
  obtain ⟨u0, u1, u2, u3, u4, u5, u6, u7, u8, u9, u10, u11, u12, u13, u14, u15, u16, u17, u18, u19, u20, u21, u22, u23, u24, u25, u26, u27, u28, u29⟩ := u
  go_wp2_with fail
  go_ret
  exact ⟨rfl, by repeat (with_reducible first | exact B6.out | apply below_alloc | apply below_drew1 | apply pw_below_drewN | refine below_step ?_ H7.out | refine below_step ?_ H8.out | refine below_step ?_ H9.out | refine below_step ?_ H10.out | refine below_step ?_ H11.out | refine below_step ?_ H12.out)⟩
end Go.Proofs.Ytngmjmcamkfopaa.A
