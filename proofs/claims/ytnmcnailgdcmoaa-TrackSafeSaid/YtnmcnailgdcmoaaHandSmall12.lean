/- The small case of layer 12 comes out right. -/
import Derived.Test.YtnmcnailgdcmoaaBx4
import Derived.Test.YtnmcnailgdcmoaaHas
import Derived.Outline
import Derived.Deep.RegionHeld3
import Derived.Deep.DrawnRows
import Derived.Deep.QuietTactic
import Derived.BigQuiet
import Derived.BigRegion
import Derived.Deep.RegionWith
namespace Go.Proofs.Ytnmcnailgdcmoaa.B
open Go.RowKit Go.Proofs.YtnmcnailgdcmoaaW.PrintWords Go.Proofs.YtnmcnailgdcmoaaW.PrintLast Go.Proofs.YtnmcnailgdcmoaaW.PrintMore
set_option linter.unusedVariables false
set_option linter.unusedSimpArgs false
attribute [local go_sem] Quiet.bel_all
attribute [local go_sem ↓] Go.wp_at_zero Go.wp_at_succ
def crossbucklaw12_small.f : Option Bool := some true
set_option maxHeartbeats 40000000 in
set_option maxRecDepth 100000 in
theorem crossbucklaw12_small.calls (r : Bool) (w : World) (h : crossbucklaw12_small.f = some r) :
    Calls Try.prog 13 #[] w fun e w' => e = .returned (.bool r) ∧ Below w.heap.size w w' := by
  obtain rfl : true = r := Option.some.inj h
  clear h
  go_enter Try.func13, Try.ntmps13
  go_wp2_with fail
  refine (track_Step.calls 9 false 0 0 false 0 0 false false 0 false false true 0 0 0 0 2 0 0 false true 0 0 false 0 0 false true 0 false false _ (by kernel_rfl)).mono ?_
  rintro e w1 ⟨rfl, hb1⟩
  have H1 := Aside0.mk hb1
  have k1 : Quiet.Has w1 [(⟨w.heap.size, 0, none⟩, .int .i64 2), (⟨w.heap.size, 1, none⟩, .int .i64 0), (⟨w.heap.size, 2, none⟩, .int .i64 0)] := Quiet.Has.bel (by simp only [Quiet.has_cons, Quiet.has_nil, and_true]; refine ⟨?_, ?_, ?_⟩ <;> go_simp) hb1
  clear hb1
  have kA1 := ((((((((((((k1.alloc (.cells #[.bool true, .int .i64 0, .int .i64 0, .bool false, .int .i64 0, .int .i64 0, .bool false, .bool true, .int .i64 0, .bool false, .bool false] 31)).more (show _ = some (.bool true) from Quiet.alloc_cell 0)).more (show _ = some (.int .i64 0) from Quiet.alloc_cell 1)).more (show _ = some (.int .i64 0) from Quiet.alloc_cell 2)).more (show _ = some (.bool false) from Quiet.alloc_cell 3)).more (show _ = some (.int .i64 0) from Quiet.alloc_cell 4)).more (show _ = some (.int .i64 0) from Quiet.alloc_cell 5)).more (show _ = some (.bool false) from Quiet.alloc_cell 6)).more (show _ = some (.bool true) from Quiet.alloc_cell 7)).more (show _ = some (.int .i64 0) from Quiet.alloc_cell 8)).more (show _ = some (.bool false) from Quiet.alloc_cell 9)).more (show _ = some (.bool false) from Quiet.alloc_cell 10))
  have u := kA1
  simp only [Quiet.has_cons, Quiet.has_nil, and_true] at u
  obtain ⟨u0, u1, u2, u3, u4, u5, u6, u7, u8, u9, u10, u11, u12, u13⟩ := u
  go_wp2_with fail
  refine (track_Step.calls 9 true 0 0 false 0 0 false true 0 false false true 4 0 0 0 2 0 0 false true 4 0 false 0 0 false false 1 false false _ (by kernel_rfl)).mono ?_
  rintro e w2 ⟨rfl, hb2⟩
  have H2 := Aside0.mk hb2
  have k2 := kA1.bel hb2
  clear u0 u1 u2 u3 u4 u5 u6 u7 u8 u9 u10 u11 u12 u13
  clear hb2
  have kA2 := ((((((((((((k2.alloc (.cells #[.bool true, .int .i64 4, .int .i64 0, .bool false, .int .i64 0, .int .i64 0, .bool false, .bool false, .int .i64 1, .bool false, .bool false] 31)).more (show _ = some (.bool true) from Quiet.alloc_cell 0)).more (show _ = some (.int .i64 4) from Quiet.alloc_cell 1)).more (show _ = some (.int .i64 0) from Quiet.alloc_cell 2)).more (show _ = some (.bool false) from Quiet.alloc_cell 3)).more (show _ = some (.int .i64 0) from Quiet.alloc_cell 4)).more (show _ = some (.int .i64 0) from Quiet.alloc_cell 5)).more (show _ = some (.bool false) from Quiet.alloc_cell 6)).more (show _ = some (.bool false) from Quiet.alloc_cell 7)).more (show _ = some (.int .i64 1) from Quiet.alloc_cell 8)).more (show _ = some (.bool false) from Quiet.alloc_cell 9)).more (show _ = some (.bool false) from Quiet.alloc_cell 10))
  have u := kA2
  simp only [Quiet.has_cons, Quiet.has_nil, and_true] at u
  obtain ⟨u0, u1, u2, u3, u4, u5, u6, u7, u8, u9, u10, u11, u12, u13, u14, u15, u16, u17, u18, u19, u20, u21, u22, u23, u24⟩ := u
  go_wp2_with fail
  have hB3 := Aside0.mk (show Below w.heap.size w (w2.alloc (.cells #[.bool true, .int .i64 4, .int .i64 0, .bool false, .int .i64 0, .int .i64 0, .bool false, .bool false, .int .i64 1, .bool false, .bool false] 31)) from by repeat (with_reducible first | exact Below.refl _ _ | apply below_alloc | apply below_drew1 | apply pw_below_drewN | refine below_step ?_ H1.out | refine below_step ?_ H2.out))
  clear u0 u1 u2 u3 u4 u5 u6 u7 u8 u9 u10 u11 u12 u13 u14 u15 u16 u17 u18 u19 u20 u21 u22 u23 u24
  apply Quiet.tailA (S := fun w' => Quiet.Has w' [(⟨w2.heap.size, 10, none⟩, .bool false), (⟨w2.heap.size, 9, none⟩, .bool false), (⟨w2.heap.size, 8, none⟩, .int .i64 1), (⟨w2.heap.size, 7, none⟩, .bool false), (⟨w2.heap.size, 6, none⟩, .bool false), (⟨w2.heap.size, 5, none⟩, .int .i64 0), (⟨w2.heap.size, 4, none⟩, .int .i64 0), (⟨w2.heap.size, 3, none⟩, .bool false), (⟨w2.heap.size, 2, none⟩, .int .i64 0), (⟨w2.heap.size, 1, none⟩, .int .i64 4), (⟨w2.heap.size, 0, none⟩, .bool true), (⟨w1.heap.size, 10, none⟩, .bool false), (⟨w1.heap.size, 9, none⟩, .bool false), (⟨w1.heap.size, 8, none⟩, .int .i64 0), (⟨w1.heap.size, 7, none⟩, .bool true), (⟨w1.heap.size, 6, none⟩, .bool false), (⟨w1.heap.size, 5, none⟩, .int .i64 0), (⟨w1.heap.size, 4, none⟩, .int .i64 0), (⟨w1.heap.size, 3, none⟩, .bool false), (⟨w1.heap.size, 2, none⟩, .int .i64 0), (⟨w1.heap.size, 1, none⟩, .int .i64 0), (⟨w1.heap.size, 0, none⟩, .bool true), (⟨w.heap.size, 0, none⟩, .int .i64 2), (⟨w.heap.size, 1, none⟩, .int .i64 0), (⟨w.heap.size, 2, none⟩, .int .i64 0)]) (n := 8) (iA := 7) (d := 4) (ob := .cells #[.bool false, .int .i64 0, .int .i64 0, .bool false, .int .i64 0, .int .i64 0, .bool false, .bool false, .int .i64 0, .bool false, .bool false] 31) (hm := by kernel_rfl) (hB := by kernel_rfl) (hiA := by omega) (hz := by kernel_rfl) (hS := fun w' hw => kA2.bel hw)
  case hA =>
    intro oA ho
    obtain rfl := Option.some.inj ho
    exact ⟨rfl, fun ρ w => by kernel_rfl⟩
  case h =>
    intro W1 hcell
    simp only [List.take_succ_cons, List.take_zero, List.eraseIdx_cons_succ, List.eraseIdx_cons_zero, List.drop_succ_cons, List.drop_zero]
    repeat (first
      | go_big_quiet_skip
      | (go_big_quiet_want; go_big_quiet_op; go_big_quiet_on)
      | (refine Quiet.val _ _ (by rfl) (by (intro w' hC; have u := hcell w' hC; simp only [Quiet.has_cons, Quiet.has_nil, and_true] at u; obtain ⟨u0, u1, u2, u3, u4, u5, u6, u7, u8, u9, u10, u11, u12, u13, u14, u15, u16, u17, u18, u19, u20, u21, u22, u23, u24⟩ := u; go_simp; with_reducible rfl)) (by (simp only [Act.put, List.setIfInBounds_toArray, List.set_cons_zero, List.set_cons_succ]; rfl)) ?_)
      | (refine Quiet.call (args := #[.agg #[.bool true, .int .i64 4, .int .i64 0, .bool false, .int .i64 0, .int .i64 0, .bool false, .bool false, .int .i64 1, .bool false, .bool false], .agg #[.bool true, .int .i64 4, .int .i64 0, .int .i64 0, .int .i64 0], .agg #[.int .i64 2, .int .i64 0, .int .i64 0], .bool false]) _ _ (by rfl) (by rfl) Try.func14 (by kernel_rfl) rfl (by simp only [List.map_toArray, List.map_cons, List.map_nil]; rfl) (fun w' hC => track_Step.calls 9 true 4 0 false 0 0 false false 1 false false true 4 0 0 0 2 0 0 false true 4 0 false 0 0 false false 2 false false _ (by kernel_rfl)) (by (simp only [Act.put, List.setIfInBounds_toArray, List.set_cons_zero, List.set_cons_succ]; rfl)) ?_)
      | (refine Quiet.call (args := #[.agg #[.bool true, .int .i64 4, .int .i64 0, .bool false, .int .i64 0, .int .i64 0, .bool false, .bool false, .int .i64 2, .bool false, .bool false], .agg #[.bool true, .int .i64 4, .int .i64 0, .int .i64 0, .int .i64 0], .agg #[.int .i64 2, .int .i64 0, .int .i64 0], .bool false]) _ _ (by rfl) (by rfl) Try.func14 (by kernel_rfl) rfl (by simp only [List.map_toArray, List.map_cons, List.map_nil]; rfl) (fun w' hC => track_Step.calls 9 true 4 0 false 0 0 false false 2 false false true 4 0 0 0 2 0 0 false true 4 0 false 0 0 false false 3 false true _ (by kernel_rfl)) (by (simp only [Act.put, List.setIfInBounds_toArray, List.set_cons_zero, List.set_cons_succ]; rfl)) ?_))
    exact Quiet.done rfl
  intro W3 hW3 b3 w' hbel hS hb hob
  have K0 := hW3.has kA2
  have hle := hW3.le hB3.out hb
  have z0 : w'.cell? ⟨b3, 0, none⟩ = some (.bool false) := Quiet.cell_of hob 0
  have f0 := Quiet.frozen_of hob 0
  have z1 : w'.cell? ⟨b3, 1, none⟩ = some (.int .i64 0) := Quiet.cell_of hob 1
  have f1 := Quiet.frozen_of hob 1
  have z2 : w'.cell? ⟨b3, 2, none⟩ = some (.int .i64 0) := Quiet.cell_of hob 2
  have f2 := Quiet.frozen_of hob 2
  have z3 : w'.cell? ⟨b3, 3, none⟩ = some (.bool false) := Quiet.cell_of hob 3
  have f3 := Quiet.frozen_of hob 3
  have z4 : w'.cell? ⟨b3, 4, none⟩ = some (.int .i64 0) := Quiet.cell_of hob 4
  have f4 := Quiet.frozen_of hob 4
  have z5 : w'.cell? ⟨b3, 5, none⟩ = some (.int .i64 0) := Quiet.cell_of hob 5
  have f5 := Quiet.frozen_of hob 5
  have z6 : w'.cell? ⟨b3, 6, none⟩ = some (.bool false) := Quiet.cell_of hob 6
  have f6 := Quiet.frozen_of hob 6
  have z7 : w'.cell? ⟨b3, 7, none⟩ = some (.bool false) := Quiet.cell_of hob 7
  have f7 := Quiet.frozen_of hob 7
  have z8 : w'.cell? ⟨b3, 8, none⟩ = some (.int .i64 0) := Quiet.cell_of hob 8
  have f8 := Quiet.frozen_of hob 8
  have z9 : w'.cell? ⟨b3, 9, none⟩ = some (.bool false) := Quiet.cell_of hob 9
  have f9 := Quiet.frozen_of hob 9
  have z10 : w'.cell? ⟨b3, 10, none⟩ = some (.bool false) := Quiet.cell_of hob 10
  have f10 := Quiet.frozen_of hob 10
  have k3 := ((((((((((((((((((((((hS.set K0 (k := 0) (v := .bool true) hb).set K0 (k := 1) (v := .int .i64 4) hb).set K0 (k := 2) (v := .int .i64 0) hb).set K0 (k := 3) (v := .bool false) hb).set K0 (k := 4) (v := .int .i64 0) hb).set K0 (k := 5) (v := .int .i64 0) hb).set K0 (k := 6) (v := .bool false) hb).set K0 (k := 7) (v := .bool false) hb).set K0 (k := 8) (v := .int .i64 3) hb).set K0 (k := 9) (v := .bool false) hb).set K0 (k := 10) (v := .bool true) hb).more (a := ⟨b3, 0, none⟩) (v := .bool true) (by go_simp)).more (a := ⟨b3, 1, none⟩) (v := .int .i64 4) (by go_simp)).more (a := ⟨b3, 2, none⟩) (v := .int .i64 0) (by go_simp)).more (a := ⟨b3, 3, none⟩) (v := .bool false) (by go_simp)).more (a := ⟨b3, 4, none⟩) (v := .int .i64 0) (by go_simp)).more (a := ⟨b3, 5, none⟩) (v := .int .i64 0) (by go_simp)).more (a := ⟨b3, 6, none⟩) (v := .bool false) (by go_simp)).more (a := ⟨b3, 7, none⟩) (v := .bool false) (by go_simp)).more (a := ⟨b3, 8, none⟩) (v := .int .i64 3) (by go_simp)).more (a := ⟨b3, 9, none⟩) (v := .bool false) (by go_simp)).more (a := ⟨b3, 10, none⟩) (v := .bool true) (by go_simp))
  have B3 := Aside0.mk (Quiet.Bel.set (k := 10) (v := .bool true) (Quiet.Bel.set (k := 9) (v := .bool false) (Quiet.Bel.set (k := 8) (v := .int .i64 3) (Quiet.Bel.set (k := 7) (v := .bool false) (Quiet.Bel.set (k := 6) (v := .bool false) (Quiet.Bel.set (k := 5) (v := .int .i64 0) (Quiet.Bel.set (k := 4) (v := .int .i64 0) (Quiet.Bel.set (k := 3) (v := .bool false) (Quiet.Bel.set (k := 2) (v := .int .i64 0) (Quiet.Bel.set (k := 1) (v := .int .i64 4) (Quiet.Bel.set (k := 0) (v := .bool true) (Quiet.Bel.out hB3.out hW3 hbel) hle) hle) hle) hle) hle) hle) hle) hle) hle) hle) hle)
  simp only [List.take_succ_cons, List.take_zero, List.eraseIdx_cons_succ, List.eraseIdx_cons_zero, List.drop_succ_cons, List.drop_zero, Act.put, List.setIfInBounds_toArray, List.set_cons_zero, List.set_cons_succ]
  clear hbel hS hb hob K0 hle
  refine store_event rfl rfl rfl (w1 := (((((((((((w'.setCell ⟨b3, 0, none⟩ (.bool true)).setCell ⟨b3, 1, none⟩ (.int .i64 4)).setCell ⟨b3, 2, none⟩ (.int .i64 0)).setCell ⟨b3, 3, none⟩ (.bool false)).setCell ⟨b3, 4, none⟩ (.int .i64 0)).setCell ⟨b3, 5, none⟩ (.int .i64 0)).setCell ⟨b3, 6, none⟩ (.bool false)).setCell ⟨b3, 7, none⟩ (.bool false)).setCell ⟨b3, 8, none⟩ (.int .i64 3)).setCell ⟨b3, 9, none⟩ (.bool false)).setCell ⟨b3, 10, none⟩ (.bool true))) (by go_simp) ?_
  intro w3 hw3
  rw [← hw3] at k3 B3
  clear hw3 z0 f0 z1 f1 z2 f2 z3 f3 z4 f4 z5 f5 z6 f6 z7 f7 z8 f8 z9 f9 z10 f10
  clear w' hW3 W3
  have u := k3
  simp only [Quiet.has_cons, Quiet.has_nil, and_true] at u
  obtain ⟨u0, u1, u2, u3, u4, u5, u6, u7, u8, u9, u10, u11, u12, u13, u14, u15, u16, u17, u18, u19, u20, u21, u22, u23, u24, u25, u26, u27, u28, u29, u30, u31, u32, u33, u34, u35⟩ := u
  go_wp2_with fail
  refine (track_Step.calls 9 true 0 0 false 0 0 false true 0 false false false 0 0 0 0 2 0 0 false true 0 0 false 0 0 false false 1 true true _ (by kernel_rfl)).mono ?_
  rintro e w4 ⟨rfl, hb4⟩
  have H4 := Aside0.mk hb4
  have k4 := k3.bel hb4
  clear u0 u1 u2 u3 u4 u5 u6 u7 u8 u9 u10 u11 u12 u13 u14 u15 u16 u17 u18 u19 u20 u21 u22 u23 u24 u25 u26 u27 u28 u29 u30 u31 u32 u33 u34 u35
  clear hb4
  have kA4 := ((((((((((((k4.alloc (.cells #[.bool true, .int .i64 0, .int .i64 0, .bool false, .int .i64 0, .int .i64 0, .bool false, .bool false, .int .i64 1, .bool true, .bool true] 31)).more (show _ = some (.bool true) from Quiet.alloc_cell 0)).more (show _ = some (.int .i64 0) from Quiet.alloc_cell 1)).more (show _ = some (.int .i64 0) from Quiet.alloc_cell 2)).more (show _ = some (.bool false) from Quiet.alloc_cell 3)).more (show _ = some (.int .i64 0) from Quiet.alloc_cell 4)).more (show _ = some (.int .i64 0) from Quiet.alloc_cell 5)).more (show _ = some (.bool false) from Quiet.alloc_cell 6)).more (show _ = some (.bool false) from Quiet.alloc_cell 7)).more (show _ = some (.int .i64 1) from Quiet.alloc_cell 8)).more (show _ = some (.bool true) from Quiet.alloc_cell 9)).more (show _ = some (.bool true) from Quiet.alloc_cell 10))
  have u := kA4
  simp only [Quiet.has_cons, Quiet.has_nil, and_true] at u
  obtain ⟨u0, u1, u2, u3, u4, u5, u6, u7, u8, u9, u10, u11, u12, u13, u14, u15, u16, u17, u18, u19, u20, u21, u22, u23, u24, u25, u26, u27, u28, u29, u30, u31, u32, u33, u34, u35, u36, u37, u38, u39, u40, u41, u42, u43, u44, u45, u46⟩ := u
  go_wp2_with fail
  refine (track_Step.calls 9 true 0 0 false 0 0 false true 0 false false true 0 1 0 0 2 0 0 false true 0 1 true 0 0 false false 1 true true _ (by kernel_rfl)).mono ?_
  rintro e w5 ⟨rfl, hb5⟩
  have H5 := Aside0.mk hb5
  have k5 := kA4.bel hb5
  clear u0 u1 u2 u3 u4 u5 u6 u7 u8 u9 u10 u11 u12 u13 u14 u15 u16 u17 u18 u19 u20 u21 u22 u23 u24 u25 u26 u27 u28 u29 u30 u31 u32 u33 u34 u35 u36 u37 u38 u39 u40 u41 u42 u43 u44 u45 u46
  clear hb5
  have kA5 := ((((((((((((k5.alloc (.cells #[.bool true, .int .i64 0, .int .i64 1, .bool true, .int .i64 0, .int .i64 0, .bool false, .bool false, .int .i64 1, .bool true, .bool true] 31)).more (show _ = some (.bool true) from Quiet.alloc_cell 0)).more (show _ = some (.int .i64 0) from Quiet.alloc_cell 1)).more (show _ = some (.int .i64 1) from Quiet.alloc_cell 2)).more (show _ = some (.bool true) from Quiet.alloc_cell 3)).more (show _ = some (.int .i64 0) from Quiet.alloc_cell 4)).more (show _ = some (.int .i64 0) from Quiet.alloc_cell 5)).more (show _ = some (.bool false) from Quiet.alloc_cell 6)).more (show _ = some (.bool false) from Quiet.alloc_cell 7)).more (show _ = some (.int .i64 1) from Quiet.alloc_cell 8)).more (show _ = some (.bool true) from Quiet.alloc_cell 9)).more (show _ = some (.bool true) from Quiet.alloc_cell 10))
  have u := kA5
  simp only [Quiet.has_cons, Quiet.has_nil, and_true] at u
  obtain ⟨u0, u1, u2, u3, u4, u5, u6, u7, u8, u9, u10, u11, u12, u13, u14, u15, u16, u17, u18, u19, u20, u21, u22, u23, u24, u25, u26, u27, u28, u29, u30, u31, u32, u33, u34, u35, u36, u37, u38, u39, u40, u41, u42, u43, u44, u45, u46, u47, u48, u49, u50, u51, u52, u53, u54, u55, u56, u57⟩ := u
  go_wp2_with fail
  refine (track_Step.calls 9 true 0 1 true 0 0 false false 1 true true true 1 1 0 0 2 0 0 true true 1 1 false 0 0 false true 0 false false _ (by kernel_rfl)).mono ?_
  rintro e w6 ⟨rfl, hb6⟩
  have H6 := Aside0.mk hb6
  have k6 := kA5.bel hb6
  clear u0 u1 u2 u3 u4 u5 u6 u7 u8 u9 u10 u11 u12 u13 u14 u15 u16 u17 u18 u19 u20 u21 u22 u23 u24 u25 u26 u27 u28 u29 u30 u31 u32 u33 u34 u35 u36 u37 u38 u39 u40 u41 u42 u43 u44 u45 u46 u47 u48 u49 u50 u51 u52 u53 u54 u55 u56 u57
  clear hb6
  have kA6 := ((((((((((((k6.alloc (.cells #[.bool true, .int .i64 1, .int .i64 1, .bool false, .int .i64 0, .int .i64 0, .bool false, .bool true, .int .i64 0, .bool false, .bool false] 31)).more (show _ = some (.bool true) from Quiet.alloc_cell 0)).more (show _ = some (.int .i64 1) from Quiet.alloc_cell 1)).more (show _ = some (.int .i64 1) from Quiet.alloc_cell 2)).more (show _ = some (.bool false) from Quiet.alloc_cell 3)).more (show _ = some (.int .i64 0) from Quiet.alloc_cell 4)).more (show _ = some (.int .i64 0) from Quiet.alloc_cell 5)).more (show _ = some (.bool false) from Quiet.alloc_cell 6)).more (show _ = some (.bool true) from Quiet.alloc_cell 7)).more (show _ = some (.int .i64 0) from Quiet.alloc_cell 8)).more (show _ = some (.bool false) from Quiet.alloc_cell 9)).more (show _ = some (.bool false) from Quiet.alloc_cell 10))
  have u := kA6
  simp only [Quiet.has_cons, Quiet.has_nil, and_true] at u
  obtain ⟨u0, u1, u2, u3, u4, u5, u6, u7, u8, u9, u10, u11, u12, u13, u14, u15, u16, u17, u18, u19, u20, u21, u22, u23, u24, u25, u26, u27, u28, u29, u30, u31, u32, u33, u34, u35, u36, u37, u38, u39, u40, u41, u42, u43, u44, u45, u46, u47, u48, u49, u50, u51, u52, u53, u54, u55, u56, u57, u58, u59, u60, u61, u62, u63, u64, u65, u66, u67, u68⟩ := u
  go_wp2_with fail
  go_ret
  exact ⟨rfl, by repeat (with_reducible first | exact B3.out | apply below_alloc | apply below_drew1 | apply pw_below_drewN | refine below_step ?_ H4.out | refine below_step ?_ H5.out | refine below_step ?_ H6.out)⟩
end Go.Proofs.Ytnmcnailgdcmoaa.B
