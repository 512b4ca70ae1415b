/- Each function's own law: what the call answers, as a plain Lean function; a text that a program of this session wrote. -/
import Derived.Test.YtngmjmcamkfopaaAx0
import Derived.Test.YtngmjmcamkfopaaAx3
import Derived.Test.YtngmjmcamkfopaaAx5
import Derived.Test.YtngmjmcamkfopaaHandSmall20
namespace Go.Proofs.Ytngmjmcamkfopaa.A
open Go.RowKit Go.Proofs.YtngmjmcamkfopaaW.PrintWords Go.Proofs.YtngmjmcamkfopaaW.PrintLast Go.Proofs.YtngmjmcamkfopaaW.PrintMore
attribute [local go_sem] max2_int min2_int max_two min_two max_three min_three max_four min_four   -- for this text's walks alone
set_option linter.unusedVariables false
set_option linter.unusedSimpArgs false

/-! ### crossbucklaw20_PhaseOpens: function 5 -/
mutual
def crossbucklaw20_PhaseOpens.j0 : Nat → List (S36) → Bool → Bool → Int → Int → Int → Int → Int → Int → Int → Int → Int → Int → Option (Bool)
  | 0, _, _, _, _, _, _, _, _, _, _, _, _, _ => none
  | k + 1, x1, x5, x20, x167000, x167001, x167002, x167003, x167004, x167005, x167006, x167007, x167008, x167009 => if x20 = true then (some x5) else ((phase_Enter.f 0).bind fun bt169 => (crossbucklaw20_PhaseOpens.l0 k x1 x5 1 0 x167000 x167001 x167002 x167003 x167004 x167005 x167006 x167007 x167008 x167009 bt169.1 bt169.2))
def crossbucklaw20_PhaseOpens.l0 : Nat → List (S36) → Bool → Int → Int → Int → Int → Int → Int → Int → Int → Int → Int → Int → Int → Int → Int → Option (Bool)
  | 0, _, _, _, _, _, _, _, _, _, _, _, _, _, _, _, _ => none
  | k + 1, x1, x5, x8, x9, x167000, x167001, x167002, x167003, x167004, x167005, x167006, x167007, x167008, x167009, x172000, x172001 => if x9 < (x1.length : Int) then (if 0 ≤ x9 then ((phase_Step.f k x167000 x167001 x167002 x167003 x167004 x167005 x167006 x167007 x167008 x167009 x172000 x172001 ((rd_T36 x1 x9).f0.f0) ((rd_T36 x1 x9).f0.f1) ((rd_T36 x1 x9).f1.f0) ((rd_T36 x1 x9).f1.f1) ((rd_T36 x1 x9).f1.f2) ((rd_T36 x1 x9).f1.f3) ((rd_T36 x1 x9).f2)).bind fun bt175 => (if x172000 = 0 then (if bt175.1 = 0 then (crossbucklaw20_PhaseOpens.j2 k x1 x5 x8 x9 false x167000 x167001 x167002 x167003 x167004 x167005 x167006 x167007 x167008 x167009 bt175.1 bt175.2) else (if bt175.1 = 1 then (if ((rd_T36 x1 x9).f0.f1 = true) then (crossbucklaw20_PhaseOpens.j2 k x1 x5 x8 x9 false x167000 x167001 x167002 x167003 x167004 x167005 x167006 x167007 x167008 x167009 bt175.1 bt175.2) else (if ((rd_T36 x1 x9).f0.f0 = true) then (crossbucklaw20_PhaseOpens.j2 k x1 x5 x8 x9 (decide (x8 < x167005)) x167000 x167001 x167002 x167003 x167004 x167005 x167006 x167007 x167008 x167009 bt175.1 bt175.2) else (crossbucklaw20_PhaseOpens.j2 k x1 x5 x8 x9 true x167000 x167001 x167002 x167003 x167004 x167005 x167006 x167007 x167008 x167009 bt175.1 bt175.2))) else (crossbucklaw20_PhaseOpens.j2 k x1 x5 x8 x9 true x167000 x167001 x167002 x167003 x167004 x167005 x167006 x167007 x167008 x167009 bt175.1 bt175.2))) else (crossbucklaw20_PhaseOpens.j2 k x1 x5 x8 x9 false x167000 x167001 x167002 x167003 x167004 x167005 x167006 x167007 x167008 x167009 bt175.1 bt175.2))) else (none)) else (some x5)
def crossbucklaw20_PhaseOpens.j2 : Nat → List (S36) → Bool → Int → Int → Bool → Int → Int → Int → Int → Int → Int → Int → Int → Int → Int → Int → Int → Option (Bool)
  | 0, _, _, _, _, _, _, _, _, _, _, _, _, _, _, _, _, _ => none
  | k + 1, x1, x5, x8, x9, x84, x167000, x167001, x167002, x167003, x167004, x167005, x167006, x167007, x167008, x167009, x172000, x172001 => if x84 = true then (some false) else (if x172000 = 0 then (crossbucklaw20_PhaseOpens.l0 k x1 x5 (wrap64 (x8 + 1)) (wrap64 (x9 + 1)) x167000 x167001 x167002 x167003 x167004 x167005 x167006 x167007 x167008 x167009 x172000 x172001) else (crossbucklaw20_PhaseOpens.l0 k x1 x5 0 (wrap64 (x9 + 1)) x167000 x167001 x167002 x167003 x167004 x167005 x167006 x167007 x167008 x167009 x172000 x172001))
end
def crossbucklaw20_PhaseOpens.f (k : Nat) (a0_0 : Int) (a0_1 : Int) (a0_2 : Int) (a0_3 : Int) (a0_4 : Int) (a0_5 : Int) (a0_6 : Int) (a0_7 : Int) (a0_8 : Int) (a0_9 : Int) (l1 : List (S36)) : Option (Bool) := (crossbucklaw20_small.f).bind fun t167 => ((crossbucklaw20_Few.f k a0_0 a0_1 a0_2 a0_3 a0_4 a0_5 a0_6 a0_7 a0_8 a0_9).bind fun t168 => (if t168 = true then (crossbucklaw20_PhaseOpens.j0 k l1 t167 (decide ((l1.length : Int) > 400)) a0_0 a0_1 a0_2 a0_3 a0_4 a0_5 a0_6 a0_7 a0_8 a0_9) else (crossbucklaw20_PhaseOpens.j0 k l1 t167 true a0_0 a0_1 a0_2 a0_3 a0_4 a0_5 a0_6 a0_7 a0_8 a0_9)))
theorem crossbucklaw20_PhaseOpens.mono_l : ∀ k, (∀ y0 y1 y2 y3 y4 y5 y6 y7 y8 y9 y10 y11 y12, LeO (crossbucklaw20_PhaseOpens.j0 k y0 y1 y2 y3 y4 y5 y6 y7 y8 y9 y10 y11 y12) (crossbucklaw20_PhaseOpens.j0 (k + 1) y0 y1 y2 y3 y4 y5 y6 y7 y8 y9 y10 y11 y12)) ∧ (∀ y0 y1 y2 y3 y4 y5 y6 y7 y8 y9 y10 y11 y12 y13 y14 y15, LeO (crossbucklaw20_PhaseOpens.l0 k y0 y1 y2 y3 y4 y5 y6 y7 y8 y9 y10 y11 y12 y13 y14 y15) (crossbucklaw20_PhaseOpens.l0 (k + 1) y0 y1 y2 y3 y4 y5 y6 y7 y8 y9 y10 y11 y12 y13 y14 y15)) ∧ (∀ y0 y1 y2 y3 y4 y5 y6 y7 y8 y9 y10 y11 y12 y13 y14 y15 y16, LeO (crossbucklaw20_PhaseOpens.j2 k y0 y1 y2 y3 y4 y5 y6 y7 y8 y9 y10 y11 y12 y13 y14 y15 y16) (crossbucklaw20_PhaseOpens.j2 (k + 1) y0 y1 y2 y3 y4 y5 y6 y7 y8 y9 y10 y11 y12 y13 y14 y15 y16))
  | 0 => ⟨fun _ _ _ _ _ _ _ _ _ _ _ _ _ r h => by simp [crossbucklaw20_PhaseOpens.j0] at h, fun _ _ _ _ _ _ _ _ _ _ _ _ _ _ _ _ r h => by simp [crossbucklaw20_PhaseOpens.l0] at h, fun _ _ _ _ _ _ _ _ _ _ _ _ _ _ _ _ _ r h => by simp [crossbucklaw20_PhaseOpens.j2] at h⟩
  | k + 1 => by
    obtain ⟨ih0, ih1, ih2⟩ := crossbucklaw20_PhaseOpens.mono_l k
    refine ⟨?_, ?_, ?_⟩
    · intro y0 y1 y2 y3 y4 y5 y6 y7 y8 y9 y10 y11 y12
      unfold crossbucklaw20_PhaseOpens.j0
      repeat' first
      | (with_reducible exact ih0 _ _ _ _ _ _ _ _ _ _ _ _ _)
      | (with_reducible exact ih1 _ _ _ _ _ _ _ _ _ _ _ _ _ _ _ _)
      | (with_reducible exact ih2 _ _ _ _ _ _ _ _ _ _ _ _ _ _ _ _ _)
      | (with_reducible exact crossbucklaw20_Few.mono _ _ _ _ _ _ _ _ _ _ _)
      | (with_reducible exact phase_Step.mono _ _ _ _ _ _ _ _ _ _ _ _ _ _ _ _ _ _ _ _)
      | (with_reducible exact LeO.refl _)
      | (with_reducible exact LeO.none _)
      | (with_reducible refine LeO.ite ?_ ?_)
      | (with_reducible refine LeO.bind ?_ (fun _ => ?_))
      | exact ih0 _ _ _ _ _ _ _ _ _ _ _ _ _
      | exact ih1 _ _ _ _ _ _ _ _ _ _ _ _ _ _ _ _
      | exact ih2 _ _ _ _ _ _ _ _ _ _ _ _ _ _ _ _ _
      | exact crossbucklaw20_Few.mono _ _ _ _ _ _ _ _ _ _ _
      | exact phase_Step.mono _ _ _ _ _ _ _ _ _ _ _ _ _ _ _ _ _ _ _ _
      | exact LeO.none _
      | refine LeO.ite ?_ ?_
      | refine LeO.bind ?_ (fun _ => ?_)
    · intro y0 y1 y2 y3 y4 y5 y6 y7 y8 y9 y10 y11 y12 y13 y14 y15
      unfold crossbucklaw20_PhaseOpens.l0
      repeat' first
      | (with_reducible exact ih0 _ _ _ _ _ _ _ _ _ _ _ _ _)
      | (with_reducible exact ih1 _ _ _ _ _ _ _ _ _ _ _ _ _ _ _ _)
      | (with_reducible exact ih2 _ _ _ _ _ _ _ _ _ _ _ _ _ _ _ _ _)
      | (with_reducible exact crossbucklaw20_Few.mono _ _ _ _ _ _ _ _ _ _ _)
      | (with_reducible exact phase_Step.mono _ _ _ _ _ _ _ _ _ _ _ _ _ _ _ _ _ _ _ _)
      | (with_reducible exact LeO.refl _)
      | (with_reducible exact LeO.none _)
      | (with_reducible refine LeO.ite ?_ ?_)
      | (with_reducible refine LeO.bind ?_ (fun _ => ?_))
      | exact ih0 _ _ _ _ _ _ _ _ _ _ _ _ _
      | exact ih1 _ _ _ _ _ _ _ _ _ _ _ _ _ _ _ _
      | exact ih2 _ _ _ _ _ _ _ _ _ _ _ _ _ _ _ _ _
      | exact crossbucklaw20_Few.mono _ _ _ _ _ _ _ _ _ _ _
      | exact phase_Step.mono _ _ _ _ _ _ _ _ _ _ _ _ _ _ _ _ _ _ _ _
      | exact LeO.none _
      | refine LeO.ite ?_ ?_
      | refine LeO.bind ?_ (fun _ => ?_)
    · intro y0 y1 y2 y3 y4 y5 y6 y7 y8 y9 y10 y11 y12 y13 y14 y15 y16
      unfold crossbucklaw20_PhaseOpens.j2
      repeat' first
      | (with_reducible exact ih0 _ _ _ _ _ _ _ _ _ _ _ _ _)
      | (with_reducible exact ih1 _ _ _ _ _ _ _ _ _ _ _ _ _ _ _ _)
      | (with_reducible exact ih2 _ _ _ _ _ _ _ _ _ _ _ _ _ _ _ _ _)
      | (with_reducible exact crossbucklaw20_Few.mono _ _ _ _ _ _ _ _ _ _ _)
      | (with_reducible exact phase_Step.mono _ _ _ _ _ _ _ _ _ _ _ _ _ _ _ _ _ _ _ _)
      | (with_reducible exact LeO.refl _)
      | (with_reducible exact LeO.none _)
      | (with_reducible refine LeO.ite ?_ ?_)
      | (with_reducible refine LeO.bind ?_ (fun _ => ?_))
      | exact ih0 _ _ _ _ _ _ _ _ _ _ _ _ _
      | exact ih1 _ _ _ _ _ _ _ _ _ _ _ _ _ _ _ _
      | exact ih2 _ _ _ _ _ _ _ _ _ _ _ _ _ _ _ _ _
      | exact crossbucklaw20_Few.mono _ _ _ _ _ _ _ _ _ _ _
      | exact phase_Step.mono _ _ _ _ _ _ _ _ _ _ _ _ _ _ _ _ _ _ _ _
      | exact LeO.none _
      | refine LeO.ite ?_ ?_
      | refine LeO.bind ?_ (fun _ => ?_)
theorem crossbucklaw20_PhaseOpens.mono : ∀ a0 a1 a2 a3 a4 a5 a6 a7 a8 a9 a10 k, LeO (crossbucklaw20_PhaseOpens.f k a0 a1 a2 a3 a4 a5 a6 a7 a8 a9 a10) (crossbucklaw20_PhaseOpens.f (k + 1) a0 a1 a2 a3 a4 a5 a6 a7 a8 a9 a10) := by
  intro a0 a1 a2 a3 a4 a5 a6 a7 a8 a9 a10 k
  obtain ⟨ih0, ih1, ih2⟩ := crossbucklaw20_PhaseOpens.mono_l k
  unfold crossbucklaw20_PhaseOpens.f
  repeat' first
      | (with_reducible exact ih0 _ _ _ _ _ _ _ _ _ _ _ _ _)
      | (with_reducible exact ih1 _ _ _ _ _ _ _ _ _ _ _ _ _ _ _ _)
      | (with_reducible exact ih2 _ _ _ _ _ _ _ _ _ _ _ _ _ _ _ _ _)
      | (with_reducible exact crossbucklaw20_Few.mono _ _ _ _ _ _ _ _ _ _ _)
      | (with_reducible exact phase_Step.mono _ _ _ _ _ _ _ _ _ _ _ _ _ _ _ _ _ _ _ _)
      | (with_reducible exact LeO.refl _)
      | (with_reducible exact LeO.none _)
      | (with_reducible refine LeO.ite ?_ ?_)
      | (with_reducible refine LeO.bind ?_ (fun _ => ?_))
      | exact ih0 _ _ _ _ _ _ _ _ _ _ _ _ _
      | exact ih1 _ _ _ _ _ _ _ _ _ _ _ _ _ _ _ _
      | exact ih2 _ _ _ _ _ _ _ _ _ _ _ _ _ _ _ _ _
      | exact crossbucklaw20_Few.mono _ _ _ _ _ _ _ _ _ _ _
      | exact phase_Step.mono _ _ _ _ _ _ _ _ _ _ _ _ _ _ _ _ _ _ _ _
      | exact LeO.none _
      | refine LeO.ite ?_ ?_
      | refine LeO.bind ?_ (fun _ => ?_)
def crossbucklaw20_PhaseOpens.T11 : Bool × List (List Nat × List Nat) := (true, [([], []), ([], []), ([], []), ([], []), ([2, 3], [2, 3]), ([4], [4]), ([5], [5]), ([], []), ([], []), ([7, 8], [7, 8]), ([9], [9]), ([10], [10]), ([], []), ([], []), ([12, 13], [12, 13]), ([14], [14]), ([15], [15]), ([0, 1, 6, 11, 16], [0, 1, 6, 11, 16]), ([17, 17, 0, 1, 2, 3, 4, 5, 6, 7, 8, 9, 10, 11, 12, 13, 14, 15, 16, 17], [17])])
def crossbucklaw20_PhaseOpens.B11 : List Nat := [0, 0, 0, 0, 12, 28, 60, 0, 0, 384, 896, 1920, 0, 0, 12288, 28672, 61440, 131071, 262143]
theorem crossbucklaw20_PhaseOpens.tab11 : rtab .any (opsOf Try.f5 11) = crossbucklaw20_PhaseOpens.T11 := by kernel_rfl
theorem crossbucklaw20_PhaseOpens.bits11 : waitsOk crossbucklaw20_PhaseOpens.T11.2 crossbucklaw20_PhaseOpens.B11 = true := by kernel_rfl
set_option maxHeartbeats 8000000 in
set_option maxRecDepth 100000 in
theorem crossbucklaw20_PhaseOpens.calls (k : Nat) (a0_0 : Int) (a0_1 : Int) (a0_2 : Int) (a0_3 : Int) (a0_4 : Int) (a0_5 : Int) (a0_6 : Int) (a0_7 : Int) (a0_8 : Int) (a0_9 : Int) (A1 : Option Addr) (c1 : Nat) (l1 : List (S36)) (r : Bool) (w : World) (hr1 : Kd.C k36 w A1 l1.length l1) (hc1 : l1.length ≤ c1) (h : crossbucklaw20_PhaseOpens.f k a0_0 a0_1 a0_2 a0_3 a0_4 a0_5 a0_6 a0_7 a0_8 a0_9 l1 = some r) :
    Calls Try.prog 5 #[.agg #[.int .i64 a0_0, .int .i64 a0_1, .int .i64 a0_2, .int .i64 a0_3, .int .i64 a0_4, .int .i64 a0_5, .int .i64 a0_6, .int .i64 a0_7, .int .i64 a0_8, .int .i64 a0_9], .slice A1 l1.length c1] w fun e w' => e = .returned (.bool r) ∧ Below w.heap.size w w' := by
  have hu23 := Try.underlying23
  have hu28 := Try.underlying28
  have hu32 := Try.underlying32
  have hu34 := Try.underlying34
  have HR1 := Aside0.mk hr1
  have HC1 := Aside0.mk hc1
  clear hr1 hc1
  have HB := Aside0.mk (Below.refl w.heap.size w)
  have H : ((crossbucklaw20_small.f).bind fun t167 => ((crossbucklaw20_Few.f k a0_0 a0_1 a0_2 a0_3 a0_4 a0_5 a0_6 a0_7 a0_8 a0_9).bind fun t168 => (if t168 = true then (crossbucklaw20_PhaseOpens.j0 k l1 t167 (decide ((l1.length : Int) > 400)) a0_0 a0_1 a0_2 a0_3 a0_4 a0_5 a0_6 a0_7 a0_8 a0_9) else (crossbucklaw20_PhaseOpens.j0 k l1 t167 true a0_0 a0_1 a0_2 a0_3 a0_4 a0_5 a0_6 a0_7 a0_8 a0_9)))) = some r := h
  clear h
  replace H := Option.bind_eq_some_iff.mp H
  obtain ⟨t167, A30, H⟩ := H
  replace H : ((crossbucklaw20_Few.f k a0_0 a0_1 a0_2 a0_3 a0_4 a0_5 a0_6 a0_7 a0_8 a0_9).bind fun t168 => (if t168 = true then (crossbucklaw20_PhaseOpens.j0 k l1 t167 (decide ((l1.length : Int) > 400)) a0_0 a0_1 a0_2 a0_3 a0_4 a0_5 a0_6 a0_7 a0_8 a0_9) else (crossbucklaw20_PhaseOpens.j0 k l1 t167 true a0_0 a0_1 a0_2 a0_3 a0_4 a0_5 a0_6 a0_7 a0_8 a0_9))) = some r := H
  have A3 := Aside0.mk A30
  clear A30
  replace H := Option.bind_eq_some_iff.mp H
  obtain ⟨t168, A40, H⟩ := H
  replace H : (if t168 = true then (crossbucklaw20_PhaseOpens.j0 k l1 t167 (decide ((l1.length : Int) > 400)) a0_0 a0_1 a0_2 a0_3 a0_4 a0_5 a0_6 a0_7 a0_8 a0_9) else (crossbucklaw20_PhaseOpens.j0 k l1 t167 true a0_0 a0_1 a0_2 a0_3 a0_4 a0_5 a0_6 a0_7 a0_8 a0_9)) = some r := H
  have A4 := Aside0.mk A40
  clear A40
  have HC5 := Aside0.mk H
  clear H
  go_enter Try.func5, Try.ntmps5
  go_upto_region 3 with (first | ((with_reducible refine gate_dst (N := 2) rfl ?_); (try (refine gate_guard (by rfl) ?_; dsimp only)); refine box_event ?hg (N := 2) ?hd (cs := #[.int .i64 a0_0, .int .i64 a0_1, .int .i64 a0_2, .int .i64 a0_3, .int .i64 a0_4, .int .i64 a0_5, .int .i64 a0_6, .int .i64 a0_7, .int .i64 a0_8, .int .i64 a0_9]) (t := 23) ?hr ?_; (case hd => rfl); (case hg => rfl); (case hr => first | (go_simp; done) | (go_simp; rfl)); intro gb166 hg w6 hbox hb; have n0_ := Aside0.mk (below_step (by repeat (first | (with_reducible first | exact HB.out | apply below_alloc | apply pw_below_drewN | apply below_drew1) | exact HB.out)) hb); have n1_ := Aside0.mk (hbox); have n2_ := Aside0.mk ((by rw [hg]; exact (below_size (by repeat (first | (with_reducible first | exact HB.out | apply below_alloc | apply pw_below_drewN | apply below_drew1) | exact HB.out))) : w.heap.size ≤ gb166)); have n3_ := Aside0.mk ((by rw [hg]; exact (below_size (by repeat (first | (with_reducible first | exact HB.out | apply below_alloc | apply pw_below_drewN | apply below_drew1) | exact HB.out))) : w.heap.size ≤ gb166)); clear HB; have HB := n0_; have BK166 := n1_; have GW166 := n2_; have GE166 := n3_; clear n0_ n1_ n2_ n3_; clear hb hbox hg) | ((with_reducible refine gate_callee (f := 9) rfl ?_); refine goesL_ (some 11) rfl rfl Try.func9 (by kernel_rfl) rfl #[] rfl (by (try simp only [List.map_toArray, List.map_cons, List.map_nil]); first | done | rfl | (simp only [List.length_drop, List.length_take]; rfl)) ?_; (with_reducible refine (crossbucklaw20_small.calls  t167 _ A3.out).mono ?_); rintro e w7 ⟨rfl, hb⟩; refine ⟨_, rfl, ?_⟩; have n0_ := Aside0.mk (blk_below (g := gb166) (o := .cells #[.int .i64 a0_0, .int .i64 a0_1, .int .i64 a0_2, .int .i64 a0_3, .int .i64 a0_4, .int .i64 a0_5, .int .i64 a0_6, .int .i64 a0_7, .int .i64 a0_8, .int .i64 a0_9] 23 (0, 0)) (by (with_reducible repeat (first | refine blk_drewN ?_ _ | refine blk_drew ?_ | refine blk_alloc ?_ _)); exact BK166.out) hb); have n1_ := Aside0.mk (below_step (by repeat (first | (with_reducible first | exact HB.out | apply below_alloc | apply pw_below_drewN | apply below_drew1 | refine below_set ?_ GE166.out) | exact HB.out)) hb); clear BK166; clear HB; have BK166 := n0_; have HB := n1_; clear n0_ n1_; (try clear hb); (try clear hb2); (try clear hk); (try clear hi); have hcz8_0 : w7.cell? ⟨gb166, 0, none⟩ = some (.int .i64 a0_0) := (blk_cell BK166.out 0).trans rfl; have hcz8_1 : w7.cell? ⟨gb166, 1, none⟩ = some (.int .i64 a0_1) := (blk_cell BK166.out 1).trans rfl; have hcz8_2 : w7.cell? ⟨gb166, 2, none⟩ = some (.int .i64 a0_2) := (blk_cell BK166.out 2).trans rfl; have hcz8_3 : w7.cell? ⟨gb166, 3, none⟩ = some (.int .i64 a0_3) := (blk_cell BK166.out 3).trans rfl; have hcz8_4 : w7.cell? ⟨gb166, 4, none⟩ = some (.int .i64 a0_4) := (blk_cell BK166.out 4).trans rfl; have hcz8_5 : w7.cell? ⟨gb166, 5, none⟩ = some (.int .i64 a0_5) := (blk_cell BK166.out 5).trans rfl; have hcz8_6 : w7.cell? ⟨gb166, 6, none⟩ = some (.int .i64 a0_6) := (blk_cell BK166.out 6).trans rfl; have hcz8_7 : w7.cell? ⟨gb166, 7, none⟩ = some (.int .i64 a0_7) := (blk_cell BK166.out 7).trans rfl; have hcz8_8 : w7.cell? ⟨gb166, 8, none⟩ = some (.int .i64 a0_8) := (blk_cell BK166.out 8).trans rfl; have hcz8_9 : w7.cell? ⟨gb166, 9, none⟩ = some (.int .i64 a0_9) := (blk_cell BK166.out 9).trans rfl; have hfz8_0 := blk_frozen BK166.out 0; have hfz8_1 := blk_frozen BK166.out 1; have hfz8_2 := blk_frozen BK166.out 2; have hfz8_3 := blk_frozen BK166.out 3; have hfz8_4 := blk_frozen BK166.out 4; have hfz8_5 := blk_frozen BK166.out 5; have hfz8_6 := blk_frozen BK166.out 6; have hfz8_7 := blk_frozen BK166.out 7; have hfz8_8 := blk_frozen BK166.out 8; have hfz8_9 := blk_frozen BK166.out 9) | ((with_reducible refine gate_callee (f := 10) rfl ?_); refine goesL_ (some 13) rfl rfl Try.func10 (by kernel_rfl) rfl #[.agg #[.int .i64 a0_0, .int .i64 a0_1, .int .i64 a0_2, .int .i64 a0_3, .int .i64 a0_4, .int .i64 a0_5, .int .i64 a0_6, .int .i64 a0_7, .int .i64 a0_8, .int .i64 a0_9]] rfl (by (try simp only [List.map_toArray, List.map_cons, List.map_nil]); first | done | rfl | (simp only [List.length_drop, List.length_take]; rfl)) ?_; (with_reducible refine (crossbucklaw20_Few.calls k a0_0 a0_1 a0_2 a0_3 a0_4 a0_5 a0_6 a0_7 a0_8 a0_9 t168 _ A4.out).mono ?_); rintro e w9 ⟨rfl, hb⟩; refine ⟨_, rfl, ?_⟩; have n0_ := Aside0.mk (blk_below (g := gb166) (o := .cells #[.int .i64 a0_0, .int .i64 a0_1, .int .i64 a0_2, .int .i64 a0_3, .int .i64 a0_4, .int .i64 a0_5, .int .i64 a0_6, .int .i64 a0_7, .int .i64 a0_8, .int .i64 a0_9] 23 (0, 0)) (by (with_reducible repeat (first | refine blk_drewN ?_ _ | refine blk_drew ?_ | refine blk_alloc ?_ _)); exact BK166.out) hb); have n1_ := Aside0.mk (below_step (by repeat (first | (with_reducible first | exact HB.out | apply below_alloc | apply pw_below_drewN | apply below_drew1 | refine below_set ?_ GE166.out) | exact HB.out)) hb); clear BK166; clear HB; have BK166 := n0_; have HB := n1_; clear n0_ n1_; (try clear hb); (try clear hb2); (try clear hk); (try clear hi)))
  (try simp only [Act.put, List.setIfInBounds_toArray, List.set_cons_zero, List.set_cons_succ])
  go_cut [20] (fun v20 wc => ∃ (kq : Nat) (x20_4 : Bool), v20 = .bool x20_4 ∧ Aside0 (crossbucklaw20_PhaseOpens.j0 kq l1 t167 x20_4 a0_0 a0_1 a0_2 a0_3 a0_4 a0_5 a0_6 a0_7 a0_8 a0_9 = some r) ∧ Aside0 (kq ≤ k) ∧ Aside0 (wc.heap[gb166]? = some (.cells #[.int .i64 a0_0, .int .i64 a0_1, .int .i64 a0_2, .int .i64 a0_3, .int .i64 a0_4, .int .i64 a0_5, .int .i64 a0_6, .int .i64 a0_7, .int .i64 a0_8, .int .i64 a0_9] 23 (0, 0))) ∧ Aside0 (Below w.heap.size w wc))
  case first =>
    have H := HC5.out
    clear HC5
    by_cases c10 : t168 = true
    · subst c10
      have H1 : (crossbucklaw20_PhaseOpens.j0 k l1 t167 (decide ((l1.length : Int) > 400)) a0_0 a0_1 a0_2 a0_3 a0_4 a0_5 a0_6 a0_7 a0_8 a0_9) = some r := by rw [if_pos rfl] at H; exact H
      clear H
      have H := H1
      clear H1
      have H' := Aside0.mk H
      clear H
      go_wp2
      go_meet
      case rel => exact ⟨_, (decide ((l1.length : Int) > 400)), (by first | rfl | (simp; done) | (simp [*]; done)), H', ⟨by first | omega | exact Nat.le_refl _⟩, ⟨by (with_reducible repeat (first | refine blk_drewN ?_ _ | refine blk_drew ?_ | refine blk_alloc ?_ _)); exact BK166.out⟩, ⟨by repeat (first | (with_reducible first | exact HB.out | apply below_alloc | apply pw_below_drewN | apply below_drew1 | refine below_set ?_ GE166.out) | exact HB.out)⟩⟩
    · replace c10 := Bool.eq_false_iff.mpr c10
      subst c10
      have H1 : (crossbucklaw20_PhaseOpens.j0 k l1 t167 true a0_0 a0_1 a0_2 a0_3 a0_4 a0_5 a0_6 a0_7 a0_8 a0_9) = some r := by rw [if_neg (show ¬ (false = true) by decide)] at H; exact H
      clear H
      have H := H1
      clear H1
      have H' := Aside0.mk H
      clear H
      go_wp2
      go_meet
      case rel => exact ⟨_, (true), (by first | rfl | (simp; done) | (simp [*]; done)), H', ⟨by first | omega | exact Nat.le_refl _⟩, ⟨by (with_reducible repeat (first | refine blk_drewN ?_ _ | refine blk_drew ?_ | refine blk_alloc ?_ _)); exact BK166.out⟩, ⟨by repeat (first | (with_reducible first | exact HB.out | apply below_alloc | apply pw_below_drewN | apply below_drew1 | refine below_set ?_ GE166.out) | exact HB.out)⟩⟩
  case rest =>
    clear HC5
    try clear c1
    try clear p2
    try clear c5
    try clear c9
    try clear c10
    try clear hcz8_0
    try clear hcz8_1
    try clear hcz8_2
    try clear hcz8_3
    try clear hcz8_4
    try clear hcz8_5
    try clear hcz8_6
    try clear hcz8_7
    try clear hcz8_8
    try clear hcz8_9
    try clear hfz8_0
    try clear hfz8_1
    try clear hfz8_2
    try clear hfz8_3
    try clear hfz8_4
    try clear hfz8_5
    try clear hfz8_6
    try clear hfz8_7
    try clear hfz8_8
    try clear hfz8_9
    obtain ⟨kq, x20_4, rfl, HA, HJ4, BK166, HB⟩ := hcut
    cases kq with
    | zero => exact absurd HA.out (by simp [crossbucklaw20_PhaseOpens.j0])
    | succ kj4 =>
      have H := HA.out
      clear HA
      simp only [crossbucklaw20_PhaseOpens.j0] at H
      by_cases c11 : x20_4 = true
      · subst c11
        have H1 : (some t167) = some r := by rw [if_pos rfl] at H; exact H
        clear H
        have H := H1
        clear H1
        obtain rfl := Option.some.inj H
        go_wp2
        go_ret
        exact ⟨by first | rfl | (simp [errW_none, errW_some] <;> rfl) | (simp [*, errW_none, errW_some] <;> rfl), by repeat (first | (with_reducible first | exact HB.out | apply below_alloc | apply pw_below_drewN | apply below_drew1 | refine below_set ?_ GE166.out) | exact HB.out)⟩
      · replace c11 := Bool.eq_false_iff.mpr c11
        subst c11
        have H1 : ((phase_Enter.f 0).bind fun bt169 => (crossbucklaw20_PhaseOpens.l0 kj4 l1 t167 1 0 a0_0 a0_1 a0_2 a0_3 a0_4 a0_5 a0_6 a0_7 a0_8 a0_9 bt169.1 bt169.2)) = some r := by rw [if_neg (show ¬ (false = true) by decide)] at H; exact H
        clear H
        have H := H1
        clear H1
        replace H := Option.bind_eq_some_iff.mp H
        obtain ⟨⟨t169, t170⟩, A120, H⟩ := H
        replace H : (crossbucklaw20_PhaseOpens.l0 kj4 l1 t167 1 0 a0_0 a0_1 a0_2 a0_3 a0_4 a0_5 a0_6 a0_7 a0_8 a0_9 t169 t170) = some r := H
        have A12 := Aside0.mk A120
        clear A120
        have H' := Aside0.mk H
        clear H
        go_wp2_with (first | ((with_reducible refine gate_callee (f := 11) rfl ?_); refine goesL_ (some 22) rfl rfl Try.func11 (by kernel_rfl) rfl #[.int .i64 0] rfl (by (try simp only [List.map_toArray, List.map_cons, List.map_nil]); first | done | rfl | (simp only [List.length_drop, List.length_take]; rfl)) ?_; (with_reducible refine (phase_Enter.calls 0 t169 t170 _ A12.out).mono ?_); rintro e w13 ⟨rfl, hb⟩; refine ⟨_, rfl, ?_⟩; have n0_ := Aside0.mk (blk_below (g := gb166) (o := .cells #[.int .i64 a0_0, .int .i64 a0_1, .int .i64 a0_2, .int .i64 a0_3, .int .i64 a0_4, .int .i64 a0_5, .int .i64 a0_6, .int .i64 a0_7, .int .i64 a0_8, .int .i64 a0_9] 23 (0, 0)) (by (with_reducible repeat (first | refine blk_drewN ?_ _ | refine blk_drew ?_ | refine blk_alloc ?_ _)); exact BK166.out) hb); have n1_ := Aside0.mk (below_step (by repeat (first | (with_reducible first | exact HB.out | apply below_alloc | apply pw_below_drewN | apply below_drew1 | refine below_set ?_ GE166.out) | exact HB.out)) hb); clear BK166; clear HB; have BK166 := n0_; have HB := n1_; clear n0_ n1_; (try clear hb); (try clear hb2); (try clear hk); (try clear hi)) | ((with_reducible refine gate_dst (N := 7) rfl ?_); (try (refine gate_guard (by rfl) ?_; dsimp only)); refine box_event ?hg (N := 7) ?hd (cs := #[.int .i64 0, .int .i64 0]) (t := 28) ?hr ?_; (case hd => rfl); (case hg => rfl); (case hr => first | (go_simp; done) | (go_simp; rfl)); intro gb171 hg w14 hbox hb; have n0_ := Aside0.mk (blk_below (g := gb166) (o := .cells #[.int .i64 a0_0, .int .i64 a0_1, .int .i64 a0_2, .int .i64 a0_3, .int .i64 a0_4, .int .i64 a0_5, .int .i64 a0_6, .int .i64 a0_7, .int .i64 a0_8, .int .i64 a0_9] 23 (0, 0)) (by (with_reducible repeat (first | refine blk_drewN ?_ _ | refine blk_drew ?_ | refine blk_alloc ?_ _)); exact BK166.out) hb); have n1_ := Aside0.mk (below_step (by repeat (first | (with_reducible first | exact HB.out | apply below_alloc | apply pw_below_drewN | apply below_drew1 | refine below_set ?_ GE166.out) | exact HB.out)) hb); have n2_ := Aside0.mk (hbox); have n3_ := Aside0.mk ((by rw [hg]; exact (below_size (by repeat (first | (with_reducible first | exact HB.out | apply below_alloc | apply pw_below_drewN | apply below_drew1 | refine below_set ?_ GE166.out) | exact HB.out))) : w.heap.size ≤ gb171)); have n4_ := Aside0.mk ((by rw [hg]; exact (below_size (by repeat (first | (with_reducible first | exact HB.out | apply below_alloc | apply pw_below_drewN | apply below_drew1 | refine below_set ?_ GE166.out) | exact HB.out))) : w.heap.size ≤ gb171)); have n5_ := Aside0.mk ((by rw [hg]; exact Nat.ne_of_lt (blk_lt (g := gb166) (o := .cells #[.int .i64 a0_0, .int .i64 a0_1, .int .i64 a0_2, .int .i64 a0_3, .int .i64 a0_4, .int .i64 a0_5, .int .i64 a0_6, .int .i64 a0_7, .int .i64 a0_8, .int .i64 a0_9] 23 (0, 0)) (by (with_reducible repeat (first | refine blk_drewN ?_ _ | refine blk_drew ?_ | refine blk_alloc ?_ _)); exact BK166.out)) : gb166 ≠ gb171)); have n6_ := Aside0.mk ((by rw [hg]; exact Nat.ne_of_gt (blk_lt (g := gb166) (o := .cells #[.int .i64 a0_0, .int .i64 a0_1, .int .i64 a0_2, .int .i64 a0_3, .int .i64 a0_4, .int .i64 a0_5, .int .i64 a0_6, .int .i64 a0_7, .int .i64 a0_8, .int .i64 a0_9] 23 (0, 0)) (by (with_reducible repeat (first | refine blk_drewN ?_ _ | refine blk_drew ?_ | refine blk_alloc ?_ _)); exact BK166.out)) : gb171 ≠ gb166)); clear BK166; clear HB; have BK166 := n0_; have HB := n1_; have BK171 := n2_; have GW171 := n3_; have GE171 := n4_; have NB166_171 := n5_; have NB171_166 := n6_; clear n0_ n1_ n2_ n3_ n4_ n5_ n6_; clear hb hbox hg; have hnb15 := NB171_166.out; have hnc15 := NB166_171.out; have hcz16_0 : w14.cell? ⟨gb171, 0, none⟩ = some (.int .i64 0) := (blk_cell BK171.out 0).trans rfl; have hcz16_1 : w14.cell? ⟨gb171, 1, none⟩ = some (.int .i64 0) := (blk_cell BK171.out 1).trans rfl; have hfz16_0 := blk_frozen BK171.out 0; have hfz16_1 := blk_frozen BK171.out 1))
        go_loopg [8, 9] kj4 (fun kq v8 v9 w' => ∃ (x8_2 : Int) (x9_2 : Int) (x172000_2 : Int) (x172001_2 : Int), v8 = .int .i64 x8_2 ∧ v9 = .int .i64 x9_2 ∧ Aside0 (crossbucklaw20_PhaseOpens.l0 kq l1 t167 x8_2 x9_2 a0_0 a0_1 a0_2 a0_3 a0_4 a0_5 a0_6 a0_7 a0_8 a0_9 x172000_2 x172001_2 = some r) ∧ Aside0 (kq ≤ kj4) ∧ Aside0 (w'.heap[gb166]? = some (.cells #[.int .i64 a0_0, .int .i64 a0_1, .int .i64 a0_2, .int .i64 a0_3, .int .i64 a0_4, .int .i64 a0_5, .int .i64 a0_6, .int .i64 a0_7, .int .i64 a0_8, .int .i64 a0_9] 23 (0, 0))) ∧ Aside0 (w'.heap[gb171]? = some (.cells #[.int .i64 x172000_2, .int .i64 x172001_2] 28 (0, 0))) ∧ Aside0 (Below w.heap.size w w'))
        case atStart => exact ⟨(1), (0), (t169), (t170), (by first | rfl | (simp; done) | (simp [*]; done)), (by first | rfl | (simp; done) | (simp [*]; done)), H', ⟨Nat.le_refl _⟩, ⟨by (with_reducible repeat (first | refine blk_drewN ?_ _ | refine blk_drew ?_ | refine blk_alloc ?_ _)); refine blk_far ?_ NB166_171.out _; (with_reducible repeat (first | refine blk_drewN ?_ _ | refine blk_drew ?_ | refine blk_alloc ?_ _)); refine blk_far ?_ NB166_171.out _; (with_reducible repeat (first | refine blk_drewN ?_ _ | refine blk_drew ?_ | refine blk_alloc ?_ _)); exact BK166.out⟩, ⟨by (with_reducible repeat (first | refine blk_drewN ?_ _ | refine blk_drew ?_ | refine blk_alloc ?_ _)); refine blk_put (cs := #[.int .i64 t169, .int .i64 0]) ?_ 1 _ rfl; (with_reducible repeat (first | refine blk_drewN ?_ _ | refine blk_drew ?_ | refine blk_alloc ?_ _)); refine blk_put (cs := #[.int .i64 0, .int .i64 0]) ?_ 0 _ rfl; (with_reducible repeat (first | refine blk_drewN ?_ _ | refine blk_drew ?_ | refine blk_alloc ?_ _)); exact BK171.out⟩, ⟨by repeat (first | (with_reducible first | exact HB.out | apply below_alloc | apply pw_below_drewN | apply below_drew1 | refine below_set ?_ GE166.out | refine below_set ?_ GE171.out) | exact HB.out)⟩⟩
        case round =>
          clear H'
          try clear c1
          try clear p2
          try clear c5
          try clear c9
          try clear c10
          try clear c11
          try clear c15
          try clear hcz16_0
          try clear hcz16_1
          try clear hcz8_0
          try clear hcz8_1
          try clear hcz8_2
          try clear hcz8_3
          try clear hcz8_4
          try clear hcz8_5
          try clear hcz8_6
          try clear hcz8_7
          try clear hcz8_8
          try clear hcz8_9
          try clear hfz16_0
          try clear hfz16_1
          try clear hfz8_0
          try clear hfz8_1
          try clear hfz8_2
          try clear hfz8_3
          try clear hfz8_4
          try clear hfz8_5
          try clear hfz8_6
          try clear hfz8_7
          try clear hfz8_8
          try clear hfz8_9
          try clear p2
          obtain ⟨x8_2, x9_2, x172000_2, x172001_2, rfl, rfl, HA, HK2, BK166, BK171, HB⟩ := hrel
          cases gk with
          | zero => exact absurd HA.out (by simp [crossbucklaw20_PhaseOpens.l0])
          | succ k2 =>
            have H := HA.out
            clear HA
            simp only [crossbucklaw20_PhaseOpens.l0] at H
            by_cases c17 : x9_2 < (l1.length : Int)
            · rw [if_pos c17] at H
              have c17b0 : decide (x9_2 < (l1.length : Int)) = true := decide_eq_true c17
              clear c17
              by_cases c18 : 0 ≤ x9_2
              · rw [if_pos c18] at H
                have c18b0 : decide (0 ≤ x9_2) = true := decide_eq_true c18
                clear c18
                replace H := Option.bind_eq_some_iff.mp H
                obtain ⟨⟨t175, t176⟩, A190, H⟩ := H
                replace H : (if x172000_2 = 0 then (if t175 = 0 then (crossbucklaw20_PhaseOpens.j2 k2 l1 t167 x8_2 x9_2 false a0_0 a0_1 a0_2 a0_3 a0_4 a0_5 a0_6 a0_7 a0_8 a0_9 t175 t176) else (if t175 = 1 then (if ((rd_T36 l1 x9_2).f0.f1 = true) then (crossbucklaw20_PhaseOpens.j2 k2 l1 t167 x8_2 x9_2 false a0_0 a0_1 a0_2 a0_3 a0_4 a0_5 a0_6 a0_7 a0_8 a0_9 t175 t176) else (if ((rd_T36 l1 x9_2).f0.f0 = true) then (crossbucklaw20_PhaseOpens.j2 k2 l1 t167 x8_2 x9_2 (decide (x8_2 < a0_5)) a0_0 a0_1 a0_2 a0_3 a0_4 a0_5 a0_6 a0_7 a0_8 a0_9 t175 t176) else (crossbucklaw20_PhaseOpens.j2 k2 l1 t167 x8_2 x9_2 true a0_0 a0_1 a0_2 a0_3 a0_4 a0_5 a0_6 a0_7 a0_8 a0_9 t175 t176))) else (crossbucklaw20_PhaseOpens.j2 k2 l1 t167 x8_2 x9_2 true a0_0 a0_1 a0_2 a0_3 a0_4 a0_5 a0_6 a0_7 a0_8 a0_9 t175 t176))) else (crossbucklaw20_PhaseOpens.j2 k2 l1 t167 x8_2 x9_2 false a0_0 a0_1 a0_2 a0_3 a0_4 a0_5 a0_6 a0_7 a0_8 a0_9 t175 t176)) = some r := H
                have A19 := Aside0.mk A190
                clear A190
                have HC20 := Aside0.mk H
                clear H
                have hnb21 := NB171_166.out
                have hnc21 := NB166_171.out
                have hcz22_0 : wr.cell? ⟨gb171, 0, none⟩ = some (.int .i64 x172000_2) := (blk_cell BK171.out 0).trans rfl
                have hcz22_1 : wr.cell? ⟨gb171, 1, none⟩ = some (.int .i64 x172001_2) := (blk_cell BK171.out 1).trans rfl
                have hfz22_0 := blk_frozen BK171.out 0
                have hfz22_1 := blk_frozen BK171.out 1
                try go_wp2
                have n0_ := Aside0.mk (blk_drew BK166.out)
                have n1_ := Aside0.mk (blk_drew BK171.out)
                have n2_ := Aside0.mk (below_drew1 HB.out)
                clear BK166
                clear BK171
                clear HB
                have BK166 := n0_
                have BK171 := n1_
                have HB := n2_
                clear n0_ n1_ n2_
                have p172 : 0 ≤ (x9_2 : Int) := of_decide_eq_true (by first | (with_reducible assumption) | assumption)
                have q172 : x9_2 < (l1.length : Int) := of_decide_eq_true (by first | (with_reducible assumption) | assumption)
                obtain ⟨ad172, e172, hx172_0, hx172_1, hx172_2, hx172_3, hx172_4, hx172_5, hx172_6⟩ := at_T36 HR1.out x9_2 p172 q172
                have hw172_6 := hx172_6
                have hw172_5 := hx172_5
                have hw172_4 := hx172_4
                have hw172_3 := hx172_3
                have hw172_2 := hx172_2
                have hw172_1 := hx172_1
                have hw172_0 := hx172_0
                cases e172
                replace hx172_0 := (HB.out.cell (World.block_lt_of_cell? w _ hx172_0)).trans hx172_0
                replace hx172_1 := (HB.out.cell (World.block_lt_of_cell? w _ hx172_1)).trans hx172_1
                replace hx172_2 := (HB.out.cell (World.block_lt_of_cell? w _ hx172_2)).trans hx172_2
                replace hx172_3 := (HB.out.cell (World.block_lt_of_cell? w _ hx172_3)).trans hx172_3
                replace hx172_4 := (HB.out.cell (World.block_lt_of_cell? w _ hx172_4)).trans hx172_4
                replace hx172_5 := (HB.out.cell (World.block_lt_of_cell? w _ hx172_5)).trans hx172_5
                replace hx172_6 := (HB.out.cell (World.block_lt_of_cell? w _ hx172_6)).trans hx172_6
                replace p172 := eq_true p172
                replace q172 := eq_true q172
                have p173 : 0 ≤ (x9_2 : Int) := of_decide_eq_true (by first | (with_reducible assumption) | assumption)
                have q173 : x9_2 < (l1.length : Int) := of_decide_eq_true (by first | (with_reducible assumption) | assumption)
                obtain ⟨ad173, e173, hx173_0, hx173_1, hx173_2, hx173_3, hx173_4, hx173_5, hx173_6⟩ := at_T36 HR1.out x9_2 p173 q173
                have hw173_6 := hx173_6
                have hw173_5 := hx173_5
                have hw173_4 := hx173_4
                have hw173_3 := hx173_3
                have hw173_2 := hx173_2
                have hw173_1 := hx173_1
                have hw173_0 := hx173_0
                obtain rfl : ad172 = ad173 := (by injection e173)
                replace hx173_0 := (HB.out.cell (World.block_lt_of_cell? w _ hx173_0)).trans hx173_0
                replace hx173_1 := (HB.out.cell (World.block_lt_of_cell? w _ hx173_1)).trans hx173_1
                replace hx173_2 := (HB.out.cell (World.block_lt_of_cell? w _ hx173_2)).trans hx173_2
                replace hx173_3 := (HB.out.cell (World.block_lt_of_cell? w _ hx173_3)).trans hx173_3
                replace hx173_4 := (HB.out.cell (World.block_lt_of_cell? w _ hx173_4)).trans hx173_4
                replace hx173_5 := (HB.out.cell (World.block_lt_of_cell? w _ hx173_5)).trans hx173_5
                replace hx173_6 := (HB.out.cell (World.block_lt_of_cell? w _ hx173_6)).trans hx173_6
                replace p173 := eq_true p173
                replace q173 := eq_true q173
                have p174 : 0 ≤ (x9_2 : Int) := of_decide_eq_true (by first | (with_reducible assumption) | assumption)
                have q174 : x9_2 < (l1.length : Int) := of_decide_eq_true (by first | (with_reducible assumption) | assumption)
                obtain ⟨ad174, e174, hx174_0, hx174_1, hx174_2, hx174_3, hx174_4, hx174_5, hx174_6⟩ := at_T36 HR1.out x9_2 p174 q174
                have hw174_6 := hx174_6
                have hw174_5 := hx174_5
                have hw174_4 := hx174_4
                have hw174_3 := hx174_3
                have hw174_2 := hx174_2
                have hw174_1 := hx174_1
                have hw174_0 := hx174_0
                obtain rfl : ad172 = ad174 := (by injection e174)
                replace hx174_0 := (HB.out.cell (World.block_lt_of_cell? w _ hx174_0)).trans hx174_0
                replace hx174_1 := (HB.out.cell (World.block_lt_of_cell? w _ hx174_1)).trans hx174_1
                replace hx174_2 := (HB.out.cell (World.block_lt_of_cell? w _ hx174_2)).trans hx174_2
                replace hx174_3 := (HB.out.cell (World.block_lt_of_cell? w _ hx174_3)).trans hx174_3
                replace hx174_4 := (HB.out.cell (World.block_lt_of_cell? w _ hx174_4)).trans hx174_4
                replace hx174_5 := (HB.out.cell (World.block_lt_of_cell? w _ hx174_5)).trans hx174_5
                replace hx174_6 := (HB.out.cell (World.block_lt_of_cell? w _ hx174_6)).trans hx174_6
                replace p174 := eq_true p174
                replace q174 := eq_true q174
                refine start_ (n := 19) (S := fun w' => w'.cell? ⟨gb166, 0, none⟩ = some (.int .i64 a0_0) ∧ w'.cell? ⟨gb166, 1, none⟩ = some (.int .i64 a0_1) ∧ w'.cell? ⟨gb166, 2, none⟩ = some (.int .i64 a0_2) ∧ w'.cell? ⟨gb166, 3, none⟩ = some (.int .i64 a0_3) ∧ w'.cell? ⟨gb166, 4, none⟩ = some (.int .i64 a0_4) ∧ w'.cell? ⟨gb166, 5, none⟩ = some (.int .i64 a0_5) ∧ w'.cell? ⟨gb166, 6, none⟩ = some (.int .i64 a0_6) ∧ w'.cell? ⟨gb166, 7, none⟩ = some (.int .i64 a0_7) ∧ w'.cell? ⟨gb166, 8, none⟩ = some (.int .i64 a0_8) ∧ w'.cell? ⟨gb166, 9, none⟩ = some (.int .i64 a0_9) ∧ w'.cell? ⟨gb171, 0, none⟩ = some (.int .i64 x172000_2) ∧ w'.cell? ⟨gb171, 1, none⟩ = some (.int .i64 x172001_2) ∧ w'.cell? (ad172.add ((x9_2).toNat * 7)) = some (.bool ((rd_T36 l1 x9_2).f0.f0)) ∧ w'.cell? ⟨(ad172.add ((x9_2).toNat * 7)).block, (ad172.add ((x9_2).toNat * 7)).off + 1, none⟩ = some (.bool ((rd_T36 l1 x9_2).f0.f1)) ∧ w'.cell? ⟨(ad172.add ((x9_2).toNat * 7)).block, (ad172.add ((x9_2).toNat * 7)).off + 2, none⟩ = some (.bool ((rd_T36 l1 x9_2).f1.f0)) ∧ w'.cell? ⟨(ad172.add ((x9_2).toNat * 7)).block, (ad172.add ((x9_2).toNat * 7)).off + 3, none⟩ = some (.bool ((rd_T36 l1 x9_2).f1.f1)) ∧ w'.cell? ⟨(ad172.add ((x9_2).toNat * 7)).block, (ad172.add ((x9_2).toNat * 7)).off + 4, none⟩ = some (.bool ((rd_T36 l1 x9_2).f1.f2)) ∧ w'.cell? ⟨(ad172.add ((x9_2).toNat * 7)).block, (ad172.add ((x9_2).toNat * 7)).off + 5, none⟩ = some (.bool ((rd_T36 l1 x9_2).f1.f3)) ∧ w'.cell? ⟨(ad172.add ((x9_2).toNat * 7)).block, (ad172.add ((x9_2).toNat * 7)).off + 6, none⟩ = some (.bool ((rd_T36 l1 x9_2).f2)) ∧ w'.cell? (ad172.add ((x9_2).toNat * 7)) = some (.bool ((rd_T36 l1 x9_2).f0.f0)) ∧ w'.cell? ⟨(ad172.add ((x9_2).toNat * 7)).block, (ad172.add ((x9_2).toNat * 7)).off + 1, none⟩ = some (.bool ((rd_T36 l1 x9_2).f0.f1)) ∧ w'.cell? ⟨(ad172.add ((x9_2).toNat * 7)).block, (ad172.add ((x9_2).toNat * 7)).off + 2, none⟩ = some (.bool ((rd_T36 l1 x9_2).f1.f0)) ∧ w'.cell? ⟨(ad172.add ((x9_2).toNat * 7)).block, (ad172.add ((x9_2).toNat * 7)).off + 3, none⟩ = some (.bool ((rd_T36 l1 x9_2).f1.f1)) ∧ w'.cell? ⟨(ad172.add ((x9_2).toNat * 7)).block, (ad172.add ((x9_2).toNat * 7)).off + 4, none⟩ = some (.bool ((rd_T36 l1 x9_2).f1.f2)) ∧ w'.cell? ⟨(ad172.add ((x9_2).toNat * 7)).block, (ad172.add ((x9_2).toNat * 7)).off + 5, none⟩ = some (.bool ((rd_T36 l1 x9_2).f1.f3)) ∧ w'.cell? ⟨(ad172.add ((x9_2).toNat * 7)).block, (ad172.add ((x9_2).toNat * 7)).off + 6, none⟩ = some (.bool ((rd_T36 l1 x9_2).f2)) ∧ w'.cell? (ad172.add ((x9_2).toNat * 7)) = some (.bool ((rd_T36 l1 x9_2).f0.f0)) ∧ w'.cell? ⟨(ad172.add ((x9_2).toNat * 7)).block, (ad172.add ((x9_2).toNat * 7)).off + 1, none⟩ = some (.bool ((rd_T36 l1 x9_2).f0.f1)) ∧ w'.cell? ⟨(ad172.add ((x9_2).toNat * 7)).block, (ad172.add ((x9_2).toNat * 7)).off + 2, none⟩ = some (.bool ((rd_T36 l1 x9_2).f1.f0)) ∧ w'.cell? ⟨(ad172.add ((x9_2).toNat * 7)).block, (ad172.add ((x9_2).toNat * 7)).off + 3, none⟩ = some (.bool ((rd_T36 l1 x9_2).f1.f1)) ∧ w'.cell? ⟨(ad172.add ((x9_2).toNat * 7)).block, (ad172.add ((x9_2).toNat * 7)).off + 4, none⟩ = some (.bool ((rd_T36 l1 x9_2).f1.f2)) ∧ w'.cell? ⟨(ad172.add ((x9_2).toNat * 7)).block, (ad172.add ((x9_2).toNat * 7)).off + 5, none⟩ = some (.bool ((rd_T36 l1 x9_2).f1.f3)) ∧ w'.cell? ⟨(ad172.add ((x9_2).toNat * 7)).block, (ad172.add ((x9_2).toNat * 7)).off + 6, none⟩ = some (.bool ((rd_T36 l1 x9_2).f2))) (ds := [18]) #[false, false, false, false, false, false, false, false, false, false, false, false, false, false, false, false, false, false, false] (by kernel_rfl) rfl rfl ⟨(blk_cell BK166.out 0).trans rfl, (blk_cell BK166.out 1).trans rfl, (blk_cell BK166.out 2).trans rfl, (blk_cell BK166.out 3).trans rfl, (blk_cell BK166.out 4).trans rfl, (blk_cell BK166.out 5).trans rfl, (blk_cell BK166.out 6).trans rfl, (blk_cell BK166.out 7).trans rfl, (blk_cell BK166.out 8).trans rfl, (blk_cell BK166.out 9).trans rfl, (blk_cell BK171.out 0).trans rfl, (blk_cell BK171.out 1).trans rfl, ((HB.out.cell (World.block_lt_of_cell? w _ hw172_0)).trans hw172_0), ((HB.out.cell (World.block_lt_of_cell? w _ hw172_1)).trans hw172_1), ((HB.out.cell (World.block_lt_of_cell? w _ hw172_2)).trans hw172_2), ((HB.out.cell (World.block_lt_of_cell? w _ hw172_3)).trans hw172_3), ((HB.out.cell (World.block_lt_of_cell? w _ hw172_4)).trans hw172_4), ((HB.out.cell (World.block_lt_of_cell? w _ hw172_5)).trans hw172_5), ((HB.out.cell (World.block_lt_of_cell? w _ hw172_6)).trans hw172_6), ((HB.out.cell (World.block_lt_of_cell? w _ hw173_0)).trans hw173_0), ((HB.out.cell (World.block_lt_of_cell? w _ hw173_1)).trans hw173_1), ((HB.out.cell (World.block_lt_of_cell? w _ hw173_2)).trans hw173_2), ((HB.out.cell (World.block_lt_of_cell? w _ hw173_3)).trans hw173_3), ((HB.out.cell (World.block_lt_of_cell? w _ hw173_4)).trans hw173_4), ((HB.out.cell (World.block_lt_of_cell? w _ hw173_5)).trans hw173_5), ((HB.out.cell (World.block_lt_of_cell? w _ hw173_6)).trans hw173_6), ((HB.out.cell (World.block_lt_of_cell? w _ hw174_0)).trans hw174_0), ((HB.out.cell (World.block_lt_of_cell? w _ hw174_1)).trans hw174_1), ((HB.out.cell (World.block_lt_of_cell? w _ hw174_2)).trans hw174_2), ((HB.out.cell (World.block_lt_of_cell? w _ hw174_3)).trans hw174_3), ((HB.out.cell (World.block_lt_of_cell? w _ hw174_4)).trans hw174_4), ((HB.out.cell (World.block_lt_of_cell? w _ hw174_5)).trans hw174_5), ((HB.out.cell (World.block_lt_of_cell? w _ hw174_6)).trans hw174_6)⟩ (fun hHeld => ?_); refine with_tabW crossbucklaw20_PhaseOpens.tab11 crossbucklaw20_PhaseOpens.bits11 (fun HT_ HW_ => ?_)
                generalize wr.drew = w23 at BK166 BK171 HB hx172_0 hx172_1 hx172_2 hx172_3 hx172_4 hx172_5 hx172_6 hx173_0 hx173_1 hx173_2 hx173_3 hx173_4 hx173_5 hx173_6 hx174_0 hx174_1 hx174_2 hx174_3 hx174_4 hx174_5 hx174_6 hHeld ⊢
                refine pure_ (i := 2) (N := some 33) (v := ?_) (a' := ?_) #[false, false, true, false, false, false, false, false, false, false, false, false, false, false, false, false, false, false, false] rfl rfl (any_of HT_.out (by kernel_rfl)) (fun _ _ _ h => h) (Or.inl ⟨by rfl, ?_⟩) ?_ ?_
                rotate_left
                · intro w'
                  go_simp
                  with_reducible rfl
                rotate_left
                · simp only [Act.put, List.setIfInBounds_toArray, List.set_cons_zero, List.set_cons_succ, i64_w, i32_w]
                  rfl
                refine pure_ (i := 3) (N := some 34) (v := ?_) (a' := ?_) #[false, false, true, true, false, false, false, false, false, false, false, false, false, false, false, false, false, false, false] rfl rfl (any_of HT_.out (by kernel_rfl)) (fun _ _ _ h => h) (Or.inl ⟨by rfl, ?_⟩) ?_ ?_
                rotate_left
                · intro w'
                  go_simp
                  with_reducible rfl
                rotate_left
                · simp only [Act.put, List.setIfInBounds_toArray, List.set_cons_zero, List.set_cons_succ, i64_w, i32_w]
                  rfl
                refine pure_ (i := 4) (N := some 35) (v := ?_) (a' := ?_) #[false, false, true, true, true, false, false, false, false, false, false, false, false, false, false, false, false, false, false] rfl rfl (any_of HT_.out (by kernel_rfl)) (fun _ _ _ h => h) (Or.inl ⟨by rfl, ?_⟩) ?_ ?_
                rotate_left
                · intro w'
                  go_simp
                  with_reducible rfl
                rotate_left
                · simp only [Act.put, List.setIfInBounds_toArray, List.set_cons_zero, List.set_cons_succ, i64_w, i32_w]
                  rfl
                refine pure_ (i := 5) (N := some 36) (v := ?_) (a' := ?_) #[false, false, true, true, true, true, false, false, false, false, false, false, false, false, false, false, false, false, false] rfl rfl (any_of HT_.out (by kernel_rfl)) (fun _ _ _ h => h) (Or.inl ⟨by rfl, ?_⟩) ?_ ?_
                rotate_left
                · intro w'
                  go_simp
                  with_reducible rfl
                rotate_left
                · simp only [Act.put, List.setIfInBounds_toArray, List.set_cons_zero, List.set_cons_succ, i64_w, i32_w]
                  rfl
                refine pure_ (i := 7) (N := some 38) (v := ?_) (a' := ?_) #[false, false, true, true, true, true, false, true, false, false, false, false, false, false, false, false, false, false, false] rfl rfl (any_of HT_.out (by kernel_rfl)) (fun _ _ _ h => h) (Or.inl ⟨by rfl, ?_⟩) ?_ ?_
                rotate_left
                · intro w'
                  go_simp
                  with_reducible rfl
                rotate_left
                · simp only [Act.put, List.setIfInBounds_toArray, List.set_cons_zero, List.set_cons_succ, i64_w, i32_w]
                  rfl
                refine pure_ (i := 8) (N := some 39) (v := ?_) (a' := ?_) #[false, false, true, true, true, true, false, true, true, false, false, false, false, false, false, false, false, false, false] rfl rfl (any_of HT_.out (by kernel_rfl)) (fun _ _ _ h => h) (Or.inl ⟨by rfl, ?_⟩) ?_ ?_
                rotate_left
                · intro w'
                  go_simp
                  with_reducible rfl
                rotate_left
                · simp only [Act.put, List.setIfInBounds_toArray, List.set_cons_zero, List.set_cons_succ, i64_w, i32_w]
                  rfl
                refine pure_ (i := 9) (N := some 40) (v := ?_) (a' := ?_) #[false, false, true, true, true, true, false, true, true, true, false, false, false, false, false, false, false, false, false] rfl rfl (any_of HT_.out (by kernel_rfl)) (fun _ _ _ h => h) (Or.inl ⟨by rfl, ?_⟩) ?_ ?_
                rotate_left
                · intro w'
                  go_simp
                  with_reducible rfl
                rotate_left
                · simp only [Act.put, List.setIfInBounds_toArray, List.set_cons_zero, List.set_cons_succ, i64_w, i32_w]
                  rfl
                refine pure_ (i := 10) (N := some 41) (v := ?_) (a' := ?_) #[false, false, true, true, true, true, false, true, true, true, true, false, false, false, false, false, false, false, false] rfl rfl (any_of HT_.out (by kernel_rfl)) (fun _ _ _ h => h) (Or.inl ⟨by rfl, ?_⟩) ?_ ?_
                rotate_left
                · intro w'
                  go_simp
                  with_reducible rfl
                rotate_left
                · simp only [Act.put, List.setIfInBounds_toArray, List.set_cons_zero, List.set_cons_succ, i64_w, i32_w]
                  rfl
                refine pure_ (i := 12) (N := some 43) (v := ?_) (a' := ?_) #[false, false, true, true, true, true, false, true, true, true, true, false, true, false, false, false, false, false, false] rfl rfl (any_of HT_.out (by kernel_rfl)) (fun _ _ _ h => h) (Or.inl ⟨by rfl, ?_⟩) ?_ ?_
                rotate_left
                · intro w'
                  go_simp
                  with_reducible rfl
                rotate_left
                · simp only [Act.put, List.setIfInBounds_toArray, List.set_cons_zero, List.set_cons_succ, i64_w, i32_w]
                  rfl
                refine pure_ (i := 13) (N := some 44) (v := ?_) (a' := ?_) #[false, false, true, true, true, true, false, true, true, true, true, false, true, true, false, false, false, false, false] rfl rfl (any_of HT_.out (by kernel_rfl)) (fun _ _ _ h => h) (Or.inl ⟨by rfl, ?_⟩) ?_ ?_
                rotate_left
                · intro w'
                  go_simp
                  with_reducible rfl
                rotate_left
                · simp only [Act.put, List.setIfInBounds_toArray, List.set_cons_zero, List.set_cons_succ, i64_w, i32_w]
                  rfl
                refine pure_ (i := 14) (N := some 45) (v := ?_) (a' := ?_) #[false, false, true, true, true, true, false, true, true, true, true, false, true, true, true, false, false, false, false] rfl rfl (any_of HT_.out (by kernel_rfl)) (fun _ _ _ h => h) (Or.inl ⟨by rfl, ?_⟩) ?_ ?_
                rotate_left
                · intro w'
                  go_simp
                  with_reducible rfl
                rotate_left
                · simp only [Act.put, List.setIfInBounds_toArray, List.set_cons_zero, List.set_cons_succ, i64_w, i32_w]
                  rfl
                refine pure_ (i := 15) (N := some 46) (v := ?_) (a' := ?_) #[false, false, true, true, true, true, false, true, true, true, true, false, true, true, true, true, false, false, false] rfl rfl (any_of HT_.out (by kernel_rfl)) (fun _ _ _ h => h) (Or.inl ⟨by rfl, ?_⟩) ?_ ?_
                rotate_left
                · intro w'
                  go_simp
                  with_reducible rfl
                rotate_left
                · simp only [Act.put, List.setIfInBounds_toArray, List.set_cons_zero, List.set_cons_succ, i64_w, i32_w]
                  rfl
                refine take_ (i := 0) (N := some 31) (v := ?_) (a' := ?_) #[true, false, true, true, true, true, false, true, true, true, true, false, true, true, true, true, false, false, false] rfl rfl (take_ofW HT_.out HW_.out (by kernel_rfl)) (fun _ _ _ h => h) (Or.inl ⟨by rfl, ?_⟩) hHeld ?_ ?_
                rotate_left
                · rintro w' ⟨s0, s1, s2, s3, s4, s5, s6, s7, s8, s9, s10, s11, s12, s13, s14, s15, s16, s17, s18, s19, s20, s21, s22, s23, s24, s25, s26, s27, s28, s29, s30, s31, s32⟩
                  go_simp
                  with_reducible rfl
                rotate_left
                · simp only [Act.put, List.setIfInBounds_toArray, List.set_cons_zero, List.set_cons_succ, i64_w, i32_w]
                  rfl
                refine take_ (i := 1) (N := some 32) (v := ?_) (a' := ?_) #[true, true, true, true, true, true, false, true, true, true, true, false, true, true, true, true, false, false, false] rfl rfl (take_ofW HT_.out HW_.out (by kernel_rfl)) (fun _ _ _ h => h) (Or.inl ⟨by rfl, ?_⟩) hHeld ?_ ?_
                rotate_left
                · rintro w' ⟨s0, s1, s2, s3, s4, s5, s6, s7, s8, s9, s10, s11, s12, s13, s14, s15, s16, s17, s18, s19, s20, s21, s22, s23, s24, s25, s26, s27, s28, s29, s30, s31, s32⟩
                  go_simp
                  with_reducible rfl
                rotate_left
                · simp only [Act.put, List.setIfInBounds_toArray, List.set_cons_zero, List.set_cons_succ, i64_w, i32_w]
                  rfl
                refine take_ (i := 6) (N := some 37) (v := ?_) (a' := ?_) #[true, true, true, true, true, true, true, true, true, true, true, false, true, true, true, true, false, false, false] rfl rfl (take_ofW HT_.out HW_.out (by kernel_rfl)) (fun _ _ _ h => h) (Or.inl ⟨by rfl, ?_⟩) hHeld ?_ ?_
                rotate_left
                · rintro w' ⟨s0, s1, s2, s3, s4, s5, s6, s7, s8, s9, s10, s11, s12, s13, s14, s15, s16, s17, s18, s19, s20, s21, s22, s23, s24, s25, s26, s27, s28, s29, s30, s31, s32⟩
                  go_simp
                  with_reducible rfl
                rotate_left
                · simp only [Act.put, List.setIfInBounds_toArray, List.set_cons_zero, List.set_cons_succ, i64_w, i32_w]
                  rfl
                refine take_ (i := 11) (N := some 42) (v := ?_) (a' := ?_) #[true, true, true, true, true, true, true, true, true, true, true, true, true, true, true, true, false, false, false] rfl rfl (take_ofW HT_.out HW_.out (by kernel_rfl)) (fun _ _ _ h => h) (Or.inl ⟨by rfl, ?_⟩) hHeld ?_ ?_
                rotate_left
                · rintro w' ⟨s0, s1, s2, s3, s4, s5, s6, s7, s8, s9, s10, s11, s12, s13, s14, s15, s16, s17, s18, s19, s20, s21, s22, s23, s24, s25, s26, s27, s28, s29, s30, s31, s32⟩
                  go_simp
                  with_reducible rfl
                rotate_left
                · simp only [Act.put, List.setIfInBounds_toArray, List.set_cons_zero, List.set_cons_succ, i64_w, i32_w]
                  rfl
                refine take_ (i := 16) (N := some 47) (v := ?_) (a' := ?_) #[true, true, true, true, true, true, true, true, true, true, true, true, true, true, true, true, true, false, false] rfl rfl (take_ofW HT_.out HW_.out (by kernel_rfl)) (fun _ _ _ h => h) (Or.inl ⟨by rfl, ?_⟩) hHeld ?_ ?_
                rotate_left
                · rintro w' ⟨s0, s1, s2, s3, s4, s5, s6, s7, s8, s9, s10, s11, s12, s13, s14, s15, s16, s17, s18, s19, s20, s21, s22, s23, s24, s25, s26, s27, s28, s29, s30, s31, s32⟩
                  go_simp
                  with_reducible rfl
                rotate_left
                · simp only [Act.put, List.setIfInBounds_toArray, List.set_cons_zero, List.set_cons_succ, i64_w, i32_w]
                  rfl
                refine one_ (i := 17) (N := some 48) #[true, true, true, true, true, true, true, true, true, true, true, true, true, true, true, true, true, true, false] rfl rfl (one_of HT_.out (by kernel_rfl)) (by decide) (fun K hK => ?_)
                refine goes_ Try.func12 (by kernel_rfl) rfl #[.agg #[.int .i64 a0_0, .int .i64 a0_1, .int .i64 a0_2, .int .i64 a0_3, .int .i64 a0_4, .int .i64 a0_5, .int .i64 a0_6, .int .i64 a0_7, .int .i64 a0_8, .int .i64 a0_9], .agg #[.int .i64 x172000_2, .int .i64 x172001_2], .agg #[.bool ((rd_T36 l1 x9_2).f0.f0), .bool ((rd_T36 l1 x9_2).f0.f1)], .agg #[.bool ((rd_T36 l1 x9_2).f1.f0), .bool ((rd_T36 l1 x9_2).f1.f1), .bool ((rd_T36 l1 x9_2).f1.f2), .bool ((rd_T36 l1 x9_2).f1.f3)], .bool ((rd_T36 l1 x9_2).f2)] (by rfl) rfl rfl (by (try simp only [List.map_toArray, List.map_cons, List.map_nil]); first | done | rfl | (simp only [List.length_drop, List.length_take]; rfl)) ?_
                with_reducible refine (phase_Step.calls k2 a0_0 a0_1 a0_2 a0_3 a0_4 a0_5 a0_6 a0_7 a0_8 a0_9 x172000_2 x172001_2 ((rd_T36 l1 x9_2).f0.f0) ((rd_T36 l1 x9_2).f0.f1) ((rd_T36 l1 x9_2).f1.f0) ((rd_T36 l1 x9_2).f1.f1) ((rd_T36 l1 x9_2).f1.f2) ((rd_T36 l1 x9_2).f1.f3) ((rd_T36 l1 x9_2).f2) t175 t176 _ A19.out).mono ?_
                rintro e w24 ⟨rfl, hb⟩
                refine ⟨_, rfl, ?_⟩
                have n0_ := Aside0.mk (blk_below (g := gb166) (o := .cells #[.int .i64 a0_0, .int .i64 a0_1, .int .i64 a0_2, .int .i64 a0_3, .int .i64 a0_4, .int .i64 a0_5, .int .i64 a0_6, .int .i64 a0_7, .int .i64 a0_8, .int .i64 a0_9] 23 (0, 0)) (by (with_reducible repeat (first | refine blk_drewN ?_ _ | refine blk_drew ?_ | refine blk_alloc ?_ _)); exact BK166.out) hb)
                have n1_ := Aside0.mk (blk_below (g := gb171) (o := .cells #[.int .i64 x172000_2, .int .i64 x172001_2] 28 (0, 0)) (by (with_reducible repeat (first | refine blk_drewN ?_ _ | refine blk_drew ?_ | refine blk_alloc ?_ _)); exact BK171.out) hb)
                have n2_ := Aside0.mk (below_step (by repeat (first | (with_reducible first | exact HB.out | apply below_alloc | apply pw_below_drewN | apply below_drew1 | refine below_set ?_ GE166.out | refine below_set ?_ GE171.out) | exact HB.out)) hb)
                clear BK166
                clear BK171
                clear HB
                have BK166 := n0_
                have BK171 := n1_
                have HB := n2_
                clear n0_ n1_ n2_
                (try clear hb)
                (try clear hb2)
                (try clear hk)
                (try clear hi)
                refine hK.out _ _ ⟨(blk_cell BK166.out 0).trans rfl, (blk_cell BK166.out 1).trans rfl, (blk_cell BK166.out 2).trans rfl, (blk_cell BK166.out 3).trans rfl, (blk_cell BK166.out 4).trans rfl, (blk_cell BK166.out 5).trans rfl, (blk_cell BK166.out 6).trans rfl, (blk_cell BK166.out 7).trans rfl, (blk_cell BK166.out 8).trans rfl, (blk_cell BK166.out 9).trans rfl, (blk_cell BK171.out 0).trans rfl, (blk_cell BK171.out 1).trans rfl, ((HB.out.cell (World.block_lt_of_cell? w _ hw172_0)).trans hw172_0), ((HB.out.cell (World.block_lt_of_cell? w _ hw172_1)).trans hw172_1), ((HB.out.cell (World.block_lt_of_cell? w _ hw172_2)).trans hw172_2), ((HB.out.cell (World.block_lt_of_cell? w _ hw172_3)).trans hw172_3), ((HB.out.cell (World.block_lt_of_cell? w _ hw172_4)).trans hw172_4), ((HB.out.cell (World.block_lt_of_cell? w _ hw172_5)).trans hw172_5), ((HB.out.cell (World.block_lt_of_cell? w _ hw172_6)).trans hw172_6), ((HB.out.cell (World.block_lt_of_cell? w _ hw173_0)).trans hw173_0), ((HB.out.cell (World.block_lt_of_cell? w _ hw173_1)).trans hw173_1), ((HB.out.cell (World.block_lt_of_cell? w _ hw173_2)).trans hw173_2), ((HB.out.cell (World.block_lt_of_cell? w _ hw173_3)).trans hw173_3), ((HB.out.cell (World.block_lt_of_cell? w _ hw173_4)).trans hw173_4), ((HB.out.cell (World.block_lt_of_cell? w _ hw173_5)).trans hw173_5), ((HB.out.cell (World.block_lt_of_cell? w _ hw173_6)).trans hw173_6), ((HB.out.cell (World.block_lt_of_cell? w _ hw174_0)).trans hw174_0), ((HB.out.cell (World.block_lt_of_cell? w _ hw174_1)).trans hw174_1), ((HB.out.cell (World.block_lt_of_cell? w _ hw174_2)).trans hw174_2), ((HB.out.cell (World.block_lt_of_cell? w _ hw174_3)).trans hw174_3), ((HB.out.cell (World.block_lt_of_cell? w _ hw174_4)).trans hw174_4), ((HB.out.cell (World.block_lt_of_cell? w _ hw174_5)).trans hw174_5), ((HB.out.cell (World.block_lt_of_cell? w _ hw174_6)).trans hw174_6)⟩ (fun hHeld => ?_)
                clear hK K
                refine norm_ (a' := ?_) ?_ ?_
                rotate_left
                · show Act.put _ (some 48) _ = _
                  simp only [Act.put, List.setIfInBounds_toArray, List.set_cons_zero, List.set_cons_succ, i64_w, i32_w]
                  rfl
                refine last_ (i := 18) (N := none) #[true, true, true, true, true, true, true, true, true, true, true, true, true, true, true, true, true, true, true] rfl rfl (one_of HT_.out (by kernel_rfl)) (by decide) (fun K hK => ?_)
                have hs25 : w24.cell? ⟨gb171, 0, none⟩ = some (.int .i64 x172000_2) := (blk_cell BK171.out 0).trans rfl
                have hfs25 := blk_frozen BK171.out 0
                have hns25_0 := NB166_171.out
                have hms25_0 := NB171_166.out
                have hs26 : w24.cell? ⟨gb171, 1, none⟩ = some (.int .i64 x172001_2) := (blk_cell BK171.out 1).trans rfl
                have hfs26 := blk_frozen BK171.out 1
                have hns26_0 := NB166_171.out
                have hms26_0 := NB171_166.out
                refine skip_ (w1 := ?_) (by rfl) rfl ?_ ?_
                rotate_left
                · go_simp
                  rfl
                refine hK.out _ _ ?_
                clear hK K
                refine done_ (done_of HT_.out (by kernel_rfl)) ?_
                go_upto_region 12 with (fail)
                go_cut [84] (fun v84 wc => ∃ (kq : Nat) (x84_19 : Bool), v84 = .bool x84_19 ∧ Aside0 (crossbucklaw20_PhaseOpens.j2 kq l1 t167 x8_2 x9_2 x84_19 a0_0 a0_1 a0_2 a0_3 a0_4 a0_5 a0_6 a0_7 a0_8 a0_9 t175 t176 = some r) ∧ Aside0 (kq ≤ k2) ∧ Aside0 (wc.heap[gb166]? = some (.cells #[.int .i64 a0_0, .int .i64 a0_1, .int .i64 a0_2, .int .i64 a0_3, .int .i64 a0_4, .int .i64 a0_5, .int .i64 a0_6, .int .i64 a0_7, .int .i64 a0_8, .int .i64 a0_9] 23 (0, 0))) ∧ Aside0 (wc.heap[gb171]? = some (.cells #[.int .i64 t175, .int .i64 t176] 28 (0, 0))) ∧ Aside0 (Below w.heap.size w wc))
                case first =>
                  have H := HC20.out
                  clear HC20
                  by_cases c27 : x172000_2 = 0
                  · rw [if_pos c27] at H
                    have c27b0 : (x172000_2 == 0) = true := beq_iff_eq.mpr c27
                    have c27b1 : (x172000_2 != 0) = false := bne_eq_false_iff_eq.mpr c27
                    clear c27
                    (first | rw [c27b0] | (simp only [i64_w, i32_w]; rw [c27b0]) | skip)
                    by_cases c28 : t175 = 0
                    · rw [if_pos c28] at H
                      have c28b0 : (t175 == 0) = true := beq_iff_eq.mpr c28
                      have c28b1 : (t175 != 0) = false := bne_eq_false_iff_eq.mpr c28
                      clear c28
                      have H' := Aside0.mk H
                      clear H
                      have hnb29 := NB171_166.out
                      have hnc29 := NB166_171.out
                      have hcz30_0 : w24.cell? ⟨gb171, 0, none⟩ = some (.int .i64 x172000_2) := (blk_cell BK171.out 0).trans rfl
                      have hcz30_1 : w24.cell? ⟨gb171, 1, none⟩ = some (.int .i64 x172001_2) := (blk_cell BK171.out 1).trans rfl
                      have hfz30_0 := blk_frozen BK171.out 0
                      have hfz30_1 := blk_frozen BK171.out 1
                      go_wp2
                      go_meet
                      case rel => exact ⟨_, (false), (by first | rfl | (simp; done) | (simp [*]; done)), H', ⟨by have := HJ4.out; have := HK2.out; first | omega | exact Nat.le_refl _⟩, ⟨by (with_reducible repeat (first | refine blk_drewN ?_ _ | refine blk_drew ?_ | refine blk_alloc ?_ _)); refine blk_far ?_ NB166_171.out _; (with_reducible repeat (first | refine blk_drewN ?_ _ | refine blk_drew ?_ | refine blk_alloc ?_ _)); refine blk_far ?_ NB166_171.out _; (with_reducible repeat (first | refine blk_drewN ?_ _ | refine blk_drew ?_ | refine blk_alloc ?_ _)); exact BK166.out⟩, ⟨by (with_reducible repeat (first | refine blk_drewN ?_ _ | refine blk_drew ?_ | refine blk_alloc ?_ _)); refine blk_put (cs := #[.int .i64 t175, .int .i64 x172001_2]) ?_ 1 _ rfl; (with_reducible repeat (first | refine blk_drewN ?_ _ | refine blk_drew ?_ | refine blk_alloc ?_ _)); refine blk_put (cs := #[.int .i64 x172000_2, .int .i64 x172001_2]) ?_ 0 _ rfl; (with_reducible repeat (first | refine blk_drewN ?_ _ | refine blk_drew ?_ | refine blk_alloc ?_ _)); exact BK171.out⟩, ⟨by repeat (first | (with_reducible first | exact HB.out | apply below_alloc | apply pw_below_drewN | apply below_drew1 | refine below_set ?_ GE166.out | refine below_set ?_ GE171.out) | exact HB.out)⟩⟩
                    · rw [if_neg c28] at H
                      have c28b0 : (t175 == 0) = false := beq_eq_false_iff_ne.mpr c28
                      have c28b1 : (t175 != 0) = true := bne_iff_ne.mpr c28
                      by_cases c31 : t175 = 1
                      · rw [if_pos c31] at H
                        have c31b0 : (t175 == 1) = true := beq_iff_eq.mpr c31
                        have c31b1 : (t175 != 1) = false := bne_eq_false_iff_eq.mpr c31
                        clear c31
                        obtain ⟨bq32, hbq32⟩ : ∃ b_ : Bool, b_ = ((rd_T36 l1 x9_2).f0.f1) := ⟨_, rfl⟩
                        replace H : (if (bq32 = true) then (crossbucklaw20_PhaseOpens.j2 k2 l1 t167 x8_2 x9_2 false a0_0 a0_1 a0_2 a0_3 a0_4 a0_5 a0_6 a0_7 a0_8 a0_9 t175 t176) else (if ((rd_T36 l1 x9_2).f0.f0 = true) then (crossbucklaw20_PhaseOpens.j2 k2 l1 t167 x8_2 x9_2 (decide (x8_2 < a0_5)) a0_0 a0_1 a0_2 a0_3 a0_4 a0_5 a0_6 a0_7 a0_8 a0_9 t175 t176) else (crossbucklaw20_PhaseOpens.j2 k2 l1 t167 x8_2 x9_2 true a0_0 a0_1 a0_2 a0_3 a0_4 a0_5 a0_6 a0_7 a0_8 a0_9 t175 t176))) = some r := by rw [← hbq32] at H; exact H
                        have Nbq32 := Aside0.mk hbq32
                        clear hbq32
                        by_cases c33 : (bq32 = true)
                        · subst c33
                          have H1 : (crossbucklaw20_PhaseOpens.j2 k2 l1 t167 x8_2 x9_2 false a0_0 a0_1 a0_2 a0_3 a0_4 a0_5 a0_6 a0_7 a0_8 a0_9 t175 t176) = some r := by rw [if_pos rfl] at H; exact H
                          clear H
                          have H := H1
                          clear H1
                          have H' := Aside0.mk H
                          clear H
                          have hnb34 := NB171_166.out
                          have hnc34 := NB166_171.out
                          have hcz35_0 : w24.cell? ⟨gb171, 0, none⟩ = some (.int .i64 x172000_2) := (blk_cell BK171.out 0).trans rfl
                          have hcz35_1 : w24.cell? ⟨gb171, 1, none⟩ = some (.int .i64 x172001_2) := (blk_cell BK171.out 1).trans rfl
                          have hfz35_0 := blk_frozen BK171.out 0
                          have hfz35_1 := blk_frozen BK171.out 1
                          have p177 : 0 ≤ (x9_2 : Int) := of_decide_eq_true (by first | (with_reducible assumption) | assumption)
                          have q177 : x9_2 < (l1.length : Int) := of_decide_eq_true (by first | (with_reducible assumption) | assumption)
                          obtain ⟨ad177, e177, hx177_0, hx177_1, hx177_2, hx177_3, hx177_4, hx177_5, hx177_6⟩ := at_T36 HR1.out x9_2 p177 q177
                          (try rw [← Nbq32.out] at hx177_0)
                          (try rw [← Nbq32.out] at hx177_1)
                          (try rw [← Nbq32.out] at hx177_2)
                          (try rw [← Nbq32.out] at hx177_3)
                          (try rw [← Nbq32.out] at hx177_4)
                          (try rw [← Nbq32.out] at hx177_5)
                          (try rw [← Nbq32.out] at hx177_6)
                          obtain rfl : ad172 = ad177 := (by injection e177)
                          have hn177_0 : ad172.block ≠ gb171 := Nat.ne_of_lt (Nat.lt_of_lt_of_le (by have := World.block_lt_of_cell? _ _ hx177_0; first | rwa [add_block] at this | exact this) GW171.out)
                          have hn177_1 : ad172.block ≠ gb171 := Nat.ne_of_lt (Nat.lt_of_lt_of_le (by have := World.block_lt_of_cell? _ _ hx177_0; first | rwa [add_block] at this | exact this) GW171.out)
                          replace hx177_0 := (HB.out.cell (World.block_lt_of_cell? w _ hx177_0)).trans hx177_0
                          replace hx177_1 := (HB.out.cell (World.block_lt_of_cell? w _ hx177_1)).trans hx177_1
                          replace hx177_2 := (HB.out.cell (World.block_lt_of_cell? w _ hx177_2)).trans hx177_2
                          replace hx177_3 := (HB.out.cell (World.block_lt_of_cell? w _ hx177_3)).trans hx177_3
                          replace hx177_4 := (HB.out.cell (World.block_lt_of_cell? w _ hx177_4)).trans hx177_4
                          replace hx177_5 := (HB.out.cell (World.block_lt_of_cell? w _ hx177_5)).trans hx177_5
                          replace hx177_6 := (HB.out.cell (World.block_lt_of_cell? w _ hx177_6)).trans hx177_6
                          replace hx177_0 := (cell_far (p := ⟨gb171, 0, none⟩) (by first | (rw [add_block]; exact hn177_0) | (show (Addr.add _ _).block ≠ _; rw [add_block]; exact hn177_0) | exact hn177_0) (.int .i64 t175)).trans hx177_0
                          replace hx177_1 := (cell_far (p := ⟨gb171, 0, none⟩) (by first | (rw [add_block]; exact hn177_0) | (show (Addr.add _ _).block ≠ _; rw [add_block]; exact hn177_0) | exact hn177_0) (.int .i64 t175)).trans hx177_1
                          replace hx177_2 := (cell_far (p := ⟨gb171, 0, none⟩) (by first | (rw [add_block]; exact hn177_0) | (show (Addr.add _ _).block ≠ _; rw [add_block]; exact hn177_0) | exact hn177_0) (.int .i64 t175)).trans hx177_2
                          replace hx177_3 := (cell_far (p := ⟨gb171, 0, none⟩) (by first | (rw [add_block]; exact hn177_0) | (show (Addr.add _ _).block ≠ _; rw [add_block]; exact hn177_0) | exact hn177_0) (.int .i64 t175)).trans hx177_3
                          replace hx177_4 := (cell_far (p := ⟨gb171, 0, none⟩) (by first | (rw [add_block]; exact hn177_0) | (show (Addr.add _ _).block ≠ _; rw [add_block]; exact hn177_0) | exact hn177_0) (.int .i64 t175)).trans hx177_4
                          replace hx177_5 := (cell_far (p := ⟨gb171, 0, none⟩) (by first | (rw [add_block]; exact hn177_0) | (show (Addr.add _ _).block ≠ _; rw [add_block]; exact hn177_0) | exact hn177_0) (.int .i64 t175)).trans hx177_5
                          replace hx177_6 := (cell_far (p := ⟨gb171, 0, none⟩) (by first | (rw [add_block]; exact hn177_0) | (show (Addr.add _ _).block ≠ _; rw [add_block]; exact hn177_0) | exact hn177_0) (.int .i64 t175)).trans hx177_6
                          replace hx177_0 := (cell_far (p := ⟨gb171, 1, none⟩) (by first | (rw [add_block]; exact hn177_1) | (show (Addr.add _ _).block ≠ _; rw [add_block]; exact hn177_1) | exact hn177_1) (.int .i64 t176)).trans hx177_0
                          replace hx177_1 := (cell_far (p := ⟨gb171, 1, none⟩) (by first | (rw [add_block]; exact hn177_1) | (show (Addr.add _ _).block ≠ _; rw [add_block]; exact hn177_1) | exact hn177_1) (.int .i64 t176)).trans hx177_1
                          replace hx177_2 := (cell_far (p := ⟨gb171, 1, none⟩) (by first | (rw [add_block]; exact hn177_1) | (show (Addr.add _ _).block ≠ _; rw [add_block]; exact hn177_1) | exact hn177_1) (.int .i64 t176)).trans hx177_2
                          replace hx177_3 := (cell_far (p := ⟨gb171, 1, none⟩) (by first | (rw [add_block]; exact hn177_1) | (show (Addr.add _ _).block ≠ _; rw [add_block]; exact hn177_1) | exact hn177_1) (.int .i64 t176)).trans hx177_3
                          replace hx177_4 := (cell_far (p := ⟨gb171, 1, none⟩) (by first | (rw [add_block]; exact hn177_1) | (show (Addr.add _ _).block ≠ _; rw [add_block]; exact hn177_1) | exact hn177_1) (.int .i64 t176)).trans hx177_4
                          replace hx177_5 := (cell_far (p := ⟨gb171, 1, none⟩) (by first | (rw [add_block]; exact hn177_1) | (show (Addr.add _ _).block ≠ _; rw [add_block]; exact hn177_1) | exact hn177_1) (.int .i64 t176)).trans hx177_5
                          replace hx177_6 := (cell_far (p := ⟨gb171, 1, none⟩) (by first | (rw [add_block]; exact hn177_1) | (show (Addr.add _ _).block ≠ _; rw [add_block]; exact hn177_1) | exact hn177_1) (.int .i64 t176)).trans hx177_6
                          clear hn177_0
                          clear hn177_1
                          replace p177 := eq_true p177
                          replace q177 := eq_true q177
                          go_wp2
                          go_meet
                          case rel => exact ⟨_, (false), (by first | rfl | (simp; done) | (simp [*]; done)), H', ⟨by have := HJ4.out; have := HK2.out; first | omega | exact Nat.le_refl _⟩, ⟨by (with_reducible repeat (first | refine blk_drewN ?_ _ | refine blk_drew ?_ | refine blk_alloc ?_ _)); refine blk_far ?_ NB166_171.out _; (with_reducible repeat (first | refine blk_drewN ?_ _ | refine blk_drew ?_ | refine blk_alloc ?_ _)); refine blk_far ?_ NB166_171.out _; (with_reducible repeat (first | refine blk_drewN ?_ _ | refine blk_drew ?_ | refine blk_alloc ?_ _)); exact BK166.out⟩, ⟨by (with_reducible repeat (first | refine blk_drewN ?_ _ | refine blk_drew ?_ | refine blk_alloc ?_ _)); refine blk_put (cs := #[.int .i64 t175, .int .i64 x172001_2]) ?_ 1 _ rfl; (with_reducible repeat (first | refine blk_drewN ?_ _ | refine blk_drew ?_ | refine blk_alloc ?_ _)); refine blk_put (cs := #[.int .i64 x172000_2, .int .i64 x172001_2]) ?_ 0 _ rfl; (with_reducible repeat (first | refine blk_drewN ?_ _ | refine blk_drew ?_ | refine blk_alloc ?_ _)); exact BK171.out⟩, ⟨by repeat (first | (with_reducible first | exact HB.out | apply below_alloc | apply pw_below_drewN | apply below_drew1 | refine below_set ?_ GE166.out | refine below_set ?_ GE171.out) | exact HB.out)⟩⟩
                        · replace c33 := Bool.eq_false_iff.mpr c33
                          subst c33
                          have H1 : (if ((rd_T36 l1 x9_2).f0.f0 = true) then (crossbucklaw20_PhaseOpens.j2 k2 l1 t167 x8_2 x9_2 (decide (x8_2 < a0_5)) a0_0 a0_1 a0_2 a0_3 a0_4 a0_5 a0_6 a0_7 a0_8 a0_9 t175 t176) else (crossbucklaw20_PhaseOpens.j2 k2 l1 t167 x8_2 x9_2 true a0_0 a0_1 a0_2 a0_3 a0_4 a0_5 a0_6 a0_7 a0_8 a0_9 t175 t176)) = some r := by rw [if_neg (show ¬ (false = true) by decide)] at H; exact H
                          clear H
                          have H := H1
                          clear H1
                          obtain ⟨bq36, hbq36⟩ : ∃ b_ : Bool, b_ = ((rd_T36 l1 x9_2).f0.f0) := ⟨_, rfl⟩
                          replace H : (if (bq36 = true) then (crossbucklaw20_PhaseOpens.j2 k2 l1 t167 x8_2 x9_2 (decide (x8_2 < a0_5)) a0_0 a0_1 a0_2 a0_3 a0_4 a0_5 a0_6 a0_7 a0_8 a0_9 t175 t176) else (crossbucklaw20_PhaseOpens.j2 k2 l1 t167 x8_2 x9_2 true a0_0 a0_1 a0_2 a0_3 a0_4 a0_5 a0_6 a0_7 a0_8 a0_9 t175 t176)) = some r := by rw [← hbq36] at H; exact H
                          have Nbq36 := Aside0.mk hbq36
                          clear hbq36
                          by_cases c37 : (bq36 = true)
                          · subst c37
                            have H1 : (crossbucklaw20_PhaseOpens.j2 k2 l1 t167 x8_2 x9_2 (decide (x8_2 < a0_5)) a0_0 a0_1 a0_2 a0_3 a0_4 a0_5 a0_6 a0_7 a0_8 a0_9 t175 t176) = some r := by rw [if_pos rfl] at H; exact H
                            clear H
                            have H := H1
                            clear H1
                            have H' := Aside0.mk H
                            clear H
                            have hnb38 := NB171_166.out
                            have hnc38 := NB166_171.out
                            have hcz39_0 : w24.cell? ⟨gb171, 0, none⟩ = some (.int .i64 x172000_2) := (blk_cell BK171.out 0).trans rfl
                            have hcz39_1 : w24.cell? ⟨gb171, 1, none⟩ = some (.int .i64 x172001_2) := (blk_cell BK171.out 1).trans rfl
                            have hfz39_0 := blk_frozen BK171.out 0
                            have hfz39_1 := blk_frozen BK171.out 1
                            have p177 : 0 ≤ (x9_2 : Int) := of_decide_eq_true (by first | (with_reducible assumption) | assumption)
                            have q177 : x9_2 < (l1.length : Int) := of_decide_eq_true (by first | (with_reducible assumption) | assumption)
                            obtain ⟨ad177, e177, hx177_0, hx177_1, hx177_2, hx177_3, hx177_4, hx177_5, hx177_6⟩ := at_T36 HR1.out x9_2 p177 q177
                            (try rw [← Nbq32.out] at hx177_0)
                            (try rw [← Nbq36.out] at hx177_0)
                            (try rw [← Nbq32.out] at hx177_1)
                            (try rw [← Nbq36.out] at hx177_1)
                            (try rw [← Nbq32.out] at hx177_2)
                            (try rw [← Nbq36.out] at hx177_2)
                            (try rw [← Nbq32.out] at hx177_3)
                            (try rw [← Nbq36.out] at hx177_3)
                            (try rw [← Nbq32.out] at hx177_4)
                            (try rw [← Nbq36.out] at hx177_4)
                            (try rw [← Nbq32.out] at hx177_5)
                            (try rw [← Nbq36.out] at hx177_5)
                            (try rw [← Nbq32.out] at hx177_6)
                            (try rw [← Nbq36.out] at hx177_6)
                            obtain rfl : ad172 = ad177 := (by injection e177)
                            have hn177_0 : ad172.block ≠ gb171 := Nat.ne_of_lt (Nat.lt_of_lt_of_le (by have := World.block_lt_of_cell? _ _ hx177_0; first | rwa [add_block] at this | exact this) GW171.out)
                            have hn177_1 : ad172.block ≠ gb171 := Nat.ne_of_lt (Nat.lt_of_lt_of_le (by have := World.block_lt_of_cell? _ _ hx177_0; first | rwa [add_block] at this | exact this) GW171.out)
                            replace hx177_0 := (HB.out.cell (World.block_lt_of_cell? w _ hx177_0)).trans hx177_0
                            replace hx177_1 := (HB.out.cell (World.block_lt_of_cell? w _ hx177_1)).trans hx177_1
                            replace hx177_2 := (HB.out.cell (World.block_lt_of_cell? w _ hx177_2)).trans hx177_2
                            replace hx177_3 := (HB.out.cell (World.block_lt_of_cell? w _ hx177_3)).trans hx177_3
                            replace hx177_4 := (HB.out.cell (World.block_lt_of_cell? w _ hx177_4)).trans hx177_4
                            replace hx177_5 := (HB.out.cell (World.block_lt_of_cell? w _ hx177_5)).trans hx177_5
                            replace hx177_6 := (HB.out.cell (World.block_lt_of_cell? w _ hx177_6)).trans hx177_6
                            replace hx177_0 := (cell_far (p := ⟨gb171, 0, none⟩) (by first | (rw [add_block]; exact hn177_0) | (show (Addr.add _ _).block ≠ _; rw [add_block]; exact hn177_0) | exact hn177_0) (.int .i64 t175)).trans hx177_0
                            replace hx177_1 := (cell_far (p := ⟨gb171, 0, none⟩) (by first | (rw [add_block]; exact hn177_0) | (show (Addr.add _ _).block ≠ _; rw [add_block]; exact hn177_0) | exact hn177_0) (.int .i64 t175)).trans hx177_1
                            replace hx177_2 := (cell_far (p := ⟨gb171, 0, none⟩) (by first | (rw [add_block]; exact hn177_0) | (show (Addr.add _ _).block ≠ _; rw [add_block]; exact hn177_0) | exact hn177_0) (.int .i64 t175)).trans hx177_2
                            replace hx177_3 := (cell_far (p := ⟨gb171, 0, none⟩) (by first | (rw [add_block]; exact hn177_0) | (show (Addr.add _ _).block ≠ _; rw [add_block]; exact hn177_0) | exact hn177_0) (.int .i64 t175)).trans hx177_3
                            replace hx177_4 := (cell_far (p := ⟨gb171, 0, none⟩) (by first | (rw [add_block]; exact hn177_0) | (show (Addr.add _ _).block ≠ _; rw [add_block]; exact hn177_0) | exact hn177_0) (.int .i64 t175)).trans hx177_4
                            replace hx177_5 := (cell_far (p := ⟨gb171, 0, none⟩) (by first | (rw [add_block]; exact hn177_0) | (show (Addr.add _ _).block ≠ _; rw [add_block]; exact hn177_0) | exact hn177_0) (.int .i64 t175)).trans hx177_5
                            replace hx177_6 := (cell_far (p := ⟨gb171, 0, none⟩) (by first | (rw [add_block]; exact hn177_0) | (show (Addr.add _ _).block ≠ _; rw [add_block]; exact hn177_0) | exact hn177_0) (.int .i64 t175)).trans hx177_6
                            replace hx177_0 := (cell_far (p := ⟨gb171, 1, none⟩) (by first | (rw [add_block]; exact hn177_1) | (show (Addr.add _ _).block ≠ _; rw [add_block]; exact hn177_1) | exact hn177_1) (.int .i64 t176)).trans hx177_0
                            replace hx177_1 := (cell_far (p := ⟨gb171, 1, none⟩) (by first | (rw [add_block]; exact hn177_1) | (show (Addr.add _ _).block ≠ _; rw [add_block]; exact hn177_1) | exact hn177_1) (.int .i64 t176)).trans hx177_1
                            replace hx177_2 := (cell_far (p := ⟨gb171, 1, none⟩) (by first | (rw [add_block]; exact hn177_1) | (show (Addr.add _ _).block ≠ _; rw [add_block]; exact hn177_1) | exact hn177_1) (.int .i64 t176)).trans hx177_2
                            replace hx177_3 := (cell_far (p := ⟨gb171, 1, none⟩) (by first | (rw [add_block]; exact hn177_1) | (show (Addr.add _ _).block ≠ _; rw [add_block]; exact hn177_1) | exact hn177_1) (.int .i64 t176)).trans hx177_3
                            replace hx177_4 := (cell_far (p := ⟨gb171, 1, none⟩) (by first | (rw [add_block]; exact hn177_1) | (show (Addr.add _ _).block ≠ _; rw [add_block]; exact hn177_1) | exact hn177_1) (.int .i64 t176)).trans hx177_4
                            replace hx177_5 := (cell_far (p := ⟨gb171, 1, none⟩) (by first | (rw [add_block]; exact hn177_1) | (show (Addr.add _ _).block ≠ _; rw [add_block]; exact hn177_1) | exact hn177_1) (.int .i64 t176)).trans hx177_5
                            replace hx177_6 := (cell_far (p := ⟨gb171, 1, none⟩) (by first | (rw [add_block]; exact hn177_1) | (show (Addr.add _ _).block ≠ _; rw [add_block]; exact hn177_1) | exact hn177_1) (.int .i64 t176)).trans hx177_6
                            clear hn177_0
                            clear hn177_1
                            replace p177 := eq_true p177
                            replace q177 := eq_true q177
                            have p178 : 0 ≤ (x9_2 : Int) := of_decide_eq_true (by first | (with_reducible assumption) | assumption)
                            have q178 : x9_2 < (l1.length : Int) := of_decide_eq_true (by first | (with_reducible assumption) | assumption)
                            obtain ⟨ad178, e178, hx178_0, hx178_1, hx178_2, hx178_3, hx178_4, hx178_5, hx178_6⟩ := at_T36 HR1.out x9_2 p178 q178
                            (try rw [← Nbq32.out] at hx178_0)
                            (try rw [← Nbq36.out] at hx178_0)
                            (try rw [← Nbq32.out] at hx178_1)
                            (try rw [← Nbq36.out] at hx178_1)
                            (try rw [← Nbq32.out] at hx178_2)
                            (try rw [← Nbq36.out] at hx178_2)
                            (try rw [← Nbq32.out] at hx178_3)
                            (try rw [← Nbq36.out] at hx178_3)
                            (try rw [← Nbq32.out] at hx178_4)
                            (try rw [← Nbq36.out] at hx178_4)
                            (try rw [← Nbq32.out] at hx178_5)
                            (try rw [← Nbq36.out] at hx178_5)
                            (try rw [← Nbq32.out] at hx178_6)
                            (try rw [← Nbq36.out] at hx178_6)
                            obtain rfl : ad172 = ad178 := (by injection e178)
                            have hn178_0 : ad172.block ≠ gb171 := Nat.ne_of_lt (Nat.lt_of_lt_of_le (by have := World.block_lt_of_cell? _ _ hx178_0; first | rwa [add_block] at this | exact this) GW171.out)
                            have hn178_1 : ad172.block ≠ gb171 := Nat.ne_of_lt (Nat.lt_of_lt_of_le (by have := World.block_lt_of_cell? _ _ hx178_0; first | rwa [add_block] at this | exact this) GW171.out)
                            replace hx178_0 := (HB.out.cell (World.block_lt_of_cell? w _ hx178_0)).trans hx178_0
                            replace hx178_1 := (HB.out.cell (World.block_lt_of_cell? w _ hx178_1)).trans hx178_1
                            replace hx178_2 := (HB.out.cell (World.block_lt_of_cell? w _ hx178_2)).trans hx178_2
                            replace hx178_3 := (HB.out.cell (World.block_lt_of_cell? w _ hx178_3)).trans hx178_3
                            replace hx178_4 := (HB.out.cell (World.block_lt_of_cell? w _ hx178_4)).trans hx178_4
                            replace hx178_5 := (HB.out.cell (World.block_lt_of_cell? w _ hx178_5)).trans hx178_5
                            replace hx178_6 := (HB.out.cell (World.block_lt_of_cell? w _ hx178_6)).trans hx178_6
                            replace hx178_0 := (cell_far (p := ⟨gb171, 0, none⟩) (by first | (rw [add_block]; exact hn178_0) | (show (Addr.add _ _).block ≠ _; rw [add_block]; exact hn178_0) | exact hn178_0) (.int .i64 t175)).trans hx178_0
                            replace hx178_1 := (cell_far (p := ⟨gb171, 0, none⟩) (by first | (rw [add_block]; exact hn178_0) | (show (Addr.add _ _).block ≠ _; rw [add_block]; exact hn178_0) | exact hn178_0) (.int .i64 t175)).trans hx178_1
                            replace hx178_2 := (cell_far (p := ⟨gb171, 0, none⟩) (by first | (rw [add_block]; exact hn178_0) | (show (Addr.add _ _).block ≠ _; rw [add_block]; exact hn178_0) | exact hn178_0) (.int .i64 t175)).trans hx178_2
                            replace hx178_3 := (cell_far (p := ⟨gb171, 0, none⟩) (by first | (rw [add_block]; exact hn178_0) | (show (Addr.add _ _).block ≠ _; rw [add_block]; exact hn178_0) | exact hn178_0) (.int .i64 t175)).trans hx178_3
                            replace hx178_4 := (cell_far (p := ⟨gb171, 0, none⟩) (by first | (rw [add_block]; exact hn178_0) | (show (Addr.add _ _).block ≠ _; rw [add_block]; exact hn178_0) | exact hn178_0) (.int .i64 t175)).trans hx178_4
                            replace hx178_5 := (cell_far (p := ⟨gb171, 0, none⟩) (by first | (rw [add_block]; exact hn178_0) | (show (Addr.add _ _).block ≠ _; rw [add_block]; exact hn178_0) | exact hn178_0) (.int .i64 t175)).trans hx178_5
                            replace hx178_6 := (cell_far (p := ⟨gb171, 0, none⟩) (by first | (rw [add_block]; exact hn178_0) | (show (Addr.add _ _).block ≠ _; rw [add_block]; exact hn178_0) | exact hn178_0) (.int .i64 t175)).trans hx178_6
                            replace hx178_0 := (cell_far (p := ⟨gb171, 1, none⟩) (by first | (rw [add_block]; exact hn178_1) | (show (Addr.add _ _).block ≠ _; rw [add_block]; exact hn178_1) | exact hn178_1) (.int .i64 t176)).trans hx178_0
                            replace hx178_1 := (cell_far (p := ⟨gb171, 1, none⟩) (by first | (rw [add_block]; exact hn178_1) | (show (Addr.add _ _).block ≠ _; rw [add_block]; exact hn178_1) | exact hn178_1) (.int .i64 t176)).trans hx178_1
                            replace hx178_2 := (cell_far (p := ⟨gb171, 1, none⟩) (by first | (rw [add_block]; exact hn178_1) | (show (Addr.add _ _).block ≠ _; rw [add_block]; exact hn178_1) | exact hn178_1) (.int .i64 t176)).trans hx178_2
                            replace hx178_3 := (cell_far (p := ⟨gb171, 1, none⟩) (by first | (rw [add_block]; exact hn178_1) | (show (Addr.add _ _).block ≠ _; rw [add_block]; exact hn178_1) | exact hn178_1) (.int .i64 t176)).trans hx178_3
                            replace hx178_4 := (cell_far (p := ⟨gb171, 1, none⟩) (by first | (rw [add_block]; exact hn178_1) | (show (Addr.add _ _).block ≠ _; rw [add_block]; exact hn178_1) | exact hn178_1) (.int .i64 t176)).trans hx178_4
                            replace hx178_5 := (cell_far (p := ⟨gb171, 1, none⟩) (by first | (rw [add_block]; exact hn178_1) | (show (Addr.add _ _).block ≠ _; rw [add_block]; exact hn178_1) | exact hn178_1) (.int .i64 t176)).trans hx178_5
                            replace hx178_6 := (cell_far (p := ⟨gb171, 1, none⟩) (by first | (rw [add_block]; exact hn178_1) | (show (Addr.add _ _).block ≠ _; rw [add_block]; exact hn178_1) | exact hn178_1) (.int .i64 t176)).trans hx178_6
                            clear hn178_0
                            clear hn178_1
                            replace p178 := eq_true p178
                            replace q178 := eq_true q178
                            have hcz40_0 : w24.cell? ⟨gb166, 0, none⟩ = some (.int .i64 a0_0) := (blk_cell BK166.out 0).trans rfl
                            have hcz40_1 : w24.cell? ⟨gb166, 1, none⟩ = some (.int .i64 a0_1) := (blk_cell BK166.out 1).trans rfl
                            have hcz40_2 : w24.cell? ⟨gb166, 2, none⟩ = some (.int .i64 a0_2) := (blk_cell BK166.out 2).trans rfl
                            have hcz40_3 : w24.cell? ⟨gb166, 3, none⟩ = some (.int .i64 a0_3) := (blk_cell BK166.out 3).trans rfl
                            have hcz40_4 : w24.cell? ⟨gb166, 4, none⟩ = some (.int .i64 a0_4) := (blk_cell BK166.out 4).trans rfl
                            have hcz40_5 : w24.cell? ⟨gb166, 5, none⟩ = some (.int .i64 a0_5) := (blk_cell BK166.out 5).trans rfl
                            have hcz40_6 : w24.cell? ⟨gb166, 6, none⟩ = some (.int .i64 a0_6) := (blk_cell BK166.out 6).trans rfl
                            have hcz40_7 : w24.cell? ⟨gb166, 7, none⟩ = some (.int .i64 a0_7) := (blk_cell BK166.out 7).trans rfl
                            have hcz40_8 : w24.cell? ⟨gb166, 8, none⟩ = some (.int .i64 a0_8) := (blk_cell BK166.out 8).trans rfl
                            have hcz40_9 : w24.cell? ⟨gb166, 9, none⟩ = some (.int .i64 a0_9) := (blk_cell BK166.out 9).trans rfl
                            have hfz40_0 := blk_frozen BK166.out 0
                            have hfz40_1 := blk_frozen BK166.out 1
                            have hfz40_2 := blk_frozen BK166.out 2
                            have hfz40_3 := blk_frozen BK166.out 3
                            have hfz40_4 := blk_frozen BK166.out 4
                            have hfz40_5 := blk_frozen BK166.out 5
                            have hfz40_6 := blk_frozen BK166.out 6
                            have hfz40_7 := blk_frozen BK166.out 7
                            have hfz40_8 := blk_frozen BK166.out 8
                            have hfz40_9 := blk_frozen BK166.out 9
                            go_wp2
                            go_meet
                            case rel => exact ⟨_, (decide (x8_2 < a0_5)), (by first | rfl | (simp; done) | (simp [*]; done)), H', ⟨by have := HJ4.out; have := HK2.out; first | omega | exact Nat.le_refl _⟩, ⟨by (with_reducible repeat (first | refine blk_drewN ?_ _ | refine blk_drew ?_ | refine blk_alloc ?_ _)); refine blk_far ?_ NB166_171.out _; (with_reducible repeat (first | refine blk_drewN ?_ _ | refine blk_drew ?_ | refine blk_alloc ?_ _)); refine blk_far ?_ NB166_171.out _; (with_reducible repeat (first | refine blk_drewN ?_ _ | refine blk_drew ?_ | refine blk_alloc ?_ _)); exact BK166.out⟩, ⟨by (with_reducible repeat (first | refine blk_drewN ?_ _ | refine blk_drew ?_ | refine blk_alloc ?_ _)); refine blk_put (cs := #[.int .i64 t175, .int .i64 x172001_2]) ?_ 1 _ rfl; (with_reducible repeat (first | refine blk_drewN ?_ _ | refine blk_drew ?_ | refine blk_alloc ?_ _)); refine blk_put (cs := #[.int .i64 x172000_2, .int .i64 x172001_2]) ?_ 0 _ rfl; (with_reducible repeat (first | refine blk_drewN ?_ _ | refine blk_drew ?_ | refine blk_alloc ?_ _)); exact BK171.out⟩, ⟨by repeat (first | (with_reducible first | exact HB.out | apply below_alloc | apply pw_below_drewN | apply below_drew1 | refine below_set ?_ GE166.out | refine below_set ?_ GE171.out) | exact HB.out)⟩⟩
                          · replace c37 := Bool.eq_false_iff.mpr c37
                            subst c37
                            have H1 : (crossbucklaw20_PhaseOpens.j2 k2 l1 t167 x8_2 x9_2 true a0_0 a0_1 a0_2 a0_3 a0_4 a0_5 a0_6 a0_7 a0_8 a0_9 t175 t176) = some r := by rw [if_neg (show ¬ (false = true) by decide)] at H; exact H
                            clear H
                            have H := H1
                            clear H1
                            have H' := Aside0.mk H
                            clear H
                            have hnb41 := NB171_166.out
                            have hnc41 := NB166_171.out
                            have hcz42_0 : w24.cell? ⟨gb171, 0, none⟩ = some (.int .i64 x172000_2) := (blk_cell BK171.out 0).trans rfl
                            have hcz42_1 : w24.cell? ⟨gb171, 1, none⟩ = some (.int .i64 x172001_2) := (blk_cell BK171.out 1).trans rfl
                            have hfz42_0 := blk_frozen BK171.out 0
                            have hfz42_1 := blk_frozen BK171.out 1
                            have p177 : 0 ≤ (x9_2 : Int) := of_decide_eq_true (by first | (with_reducible assumption) | assumption)
                            have q177 : x9_2 < (l1.length : Int) := of_decide_eq_true (by first | (with_reducible assumption) | assumption)
                            obtain ⟨ad177, e177, hx177_0, hx177_1, hx177_2, hx177_3, hx177_4, hx177_5, hx177_6⟩ := at_T36 HR1.out x9_2 p177 q177
                            (try rw [← Nbq32.out] at hx177_0)
                            (try rw [← Nbq36.out] at hx177_0)
                            (try rw [← Nbq32.out] at hx177_1)
                            (try rw [← Nbq36.out] at hx177_1)
                            (try rw [← Nbq32.out] at hx177_2)
                            (try rw [← Nbq36.out] at hx177_2)
                            (try rw [← Nbq32.out] at hx177_3)
                            (try rw [← Nbq36.out] at hx177_3)
                            (try rw [← Nbq32.out] at hx177_4)
                            (try rw [← Nbq36.out] at hx177_4)
                            (try rw [← Nbq32.out] at hx177_5)
                            (try rw [← Nbq36.out] at hx177_5)
                            (try rw [← Nbq32.out] at hx177_6)
                            (try rw [← Nbq36.out] at hx177_6)
                            obtain rfl : ad172 = ad177 := (by injection e177)
                            have hn177_0 : ad172.block ≠ gb171 := Nat.ne_of_lt (Nat.lt_of_lt_of_le (by have := World.block_lt_of_cell? _ _ hx177_0; first | rwa [add_block] at this | exact this) GW171.out)
                            have hn177_1 : ad172.block ≠ gb171 := Nat.ne_of_lt (Nat.lt_of_lt_of_le (by have := World.block_lt_of_cell? _ _ hx177_0; first | rwa [add_block] at this | exact this) GW171.out)
                            replace hx177_0 := (HB.out.cell (World.block_lt_of_cell? w _ hx177_0)).trans hx177_0
                            replace hx177_1 := (HB.out.cell (World.block_lt_of_cell? w _ hx177_1)).trans hx177_1
                            replace hx177_2 := (HB.out.cell (World.block_lt_of_cell? w _ hx177_2)).trans hx177_2
                            replace hx177_3 := (HB.out.cell (World.block_lt_of_cell? w _ hx177_3)).trans hx177_3
                            replace hx177_4 := (HB.out.cell (World.block_lt_of_cell? w _ hx177_4)).trans hx177_4
                            replace hx177_5 := (HB.out.cell (World.block_lt_of_cell? w _ hx177_5)).trans hx177_5
                            replace hx177_6 := (HB.out.cell (World.block_lt_of_cell? w _ hx177_6)).trans hx177_6
                            replace hx177_0 := (cell_far (p := ⟨gb171, 0, none⟩) (by first | (rw [add_block]; exact hn177_0) | (show (Addr.add _ _).block ≠ _; rw [add_block]; exact hn177_0) | exact hn177_0) (.int .i64 t175)).trans hx177_0
                            replace hx177_1 := (cell_far (p := ⟨gb171, 0, none⟩) (by first | (rw [add_block]; exact hn177_0) | (show (Addr.add _ _).block ≠ _; rw [add_block]; exact hn177_0) | exact hn177_0) (.int .i64 t175)).trans hx177_1
                            replace hx177_2 := (cell_far (p := ⟨gb171, 0, none⟩) (by first | (rw [add_block]; exact hn177_0) | (show (Addr.add _ _).block ≠ _; rw [add_block]; exact hn177_0) | exact hn177_0) (.int .i64 t175)).trans hx177_2
                            replace hx177_3 := (cell_far (p := ⟨gb171, 0, none⟩) (by first | (rw [add_block]; exact hn177_0) | (show (Addr.add _ _).block ≠ _; rw [add_block]; exact hn177_0) | exact hn177_0) (.int .i64 t175)).trans hx177_3
                            replace hx177_4 := (cell_far (p := ⟨gb171, 0, none⟩) (by first | (rw [add_block]; exact hn177_0) | (show (Addr.add _ _).block ≠ _; rw [add_block]; exact hn177_0) | exact hn177_0) (.int .i64 t175)).trans hx177_4
                            replace hx177_5 := (cell_far (p := ⟨gb171, 0, none⟩) (by first | (rw [add_block]; exact hn177_0) | (show (Addr.add _ _).block ≠ _; rw [add_block]; exact hn177_0) | exact hn177_0) (.int .i64 t175)).trans hx177_5
                            replace hx177_6 := (cell_far (p := ⟨gb171, 0, none⟩) (by first | (rw [add_block]; exact hn177_0) | (show (Addr.add _ _).block ≠ _; rw [add_block]; exact hn177_0) | exact hn177_0) (.int .i64 t175)).trans hx177_6
                            replace hx177_0 := (cell_far (p := ⟨gb171, 1, none⟩) (by first | (rw [add_block]; exact hn177_1) | (show (Addr.add _ _).block ≠ _; rw [add_block]; exact hn177_1) | exact hn177_1) (.int .i64 t176)).trans hx177_0
                            replace hx177_1 := (cell_far (p := ⟨gb171, 1, none⟩) (by first | (rw [add_block]; exact hn177_1) | (show (Addr.add _ _).block ≠ _; rw [add_block]; exact hn177_1) | exact hn177_1) (.int .i64 t176)).trans hx177_1
                            replace hx177_2 := (cell_far (p := ⟨gb171, 1, none⟩) (by first | (rw [add_block]; exact hn177_1) | (show (Addr.add _ _).block ≠ _; rw [add_block]; exact hn177_1) | exact hn177_1) (.int .i64 t176)).trans hx177_2
                            replace hx177_3 := (cell_far (p := ⟨gb171, 1, none⟩) (by first | (rw [add_block]; exact hn177_1) | (show (Addr.add _ _).block ≠ _; rw [add_block]; exact hn177_1) | exact hn177_1) (.int .i64 t176)).trans hx177_3
                            replace hx177_4 := (cell_far (p := ⟨gb171, 1, none⟩) (by first | (rw [add_block]; exact hn177_1) | (show (Addr.add _ _).block ≠ _; rw [add_block]; exact hn177_1) | exact hn177_1) (.int .i64 t176)).trans hx177_4
                            replace hx177_5 := (cell_far (p := ⟨gb171, 1, none⟩) (by first | (rw [add_block]; exact hn177_1) | (show (Addr.add _ _).block ≠ _; rw [add_block]; exact hn177_1) | exact hn177_1) (.int .i64 t176)).trans hx177_5
                            replace hx177_6 := (cell_far (p := ⟨gb171, 1, none⟩) (by first | (rw [add_block]; exact hn177_1) | (show (Addr.add _ _).block ≠ _; rw [add_block]; exact hn177_1) | exact hn177_1) (.int .i64 t176)).trans hx177_6
                            clear hn177_0
                            clear hn177_1
                            replace p177 := eq_true p177
                            replace q177 := eq_true q177
                            have p178 : 0 ≤ (x9_2 : Int) := of_decide_eq_true (by first | (with_reducible assumption) | assumption)
                            have q178 : x9_2 < (l1.length : Int) := of_decide_eq_true (by first | (with_reducible assumption) | assumption)
                            obtain ⟨ad178, e178, hx178_0, hx178_1, hx178_2, hx178_3, hx178_4, hx178_5, hx178_6⟩ := at_T36 HR1.out x9_2 p178 q178
                            (try rw [← Nbq32.out] at hx178_0)
                            (try rw [← Nbq36.out] at hx178_0)
                            (try rw [← Nbq32.out] at hx178_1)
                            (try rw [← Nbq36.out] at hx178_1)
                            (try rw [← Nbq32.out] at hx178_2)
                            (try rw [← Nbq36.out] at hx178_2)
                            (try rw [← Nbq32.out] at hx178_3)
                            (try rw [← Nbq36.out] at hx178_3)
                            (try rw [← Nbq32.out] at hx178_4)
                            (try rw [← Nbq36.out] at hx178_4)
                            (try rw [← Nbq32.out] at hx178_5)
                            (try rw [← Nbq36.out] at hx178_5)
                            (try rw [← Nbq32.out] at hx178_6)
                            (try rw [← Nbq36.out] at hx178_6)
                            obtain rfl : ad172 = ad178 := (by injection e178)
                            have hn178_0 : ad172.block ≠ gb171 := Nat.ne_of_lt (Nat.lt_of_lt_of_le (by have := World.block_lt_of_cell? _ _ hx178_0; first | rwa [add_block] at this | exact this) GW171.out)
                            have hn178_1 : ad172.block ≠ gb171 := Nat.ne_of_lt (Nat.lt_of_lt_of_le (by have := World.block_lt_of_cell? _ _ hx178_0; first | rwa [add_block] at this | exact this) GW171.out)
                            replace hx178_0 := (HB.out.cell (World.block_lt_of_cell? w _ hx178_0)).trans hx178_0
                            replace hx178_1 := (HB.out.cell (World.block_lt_of_cell? w _ hx178_1)).trans hx178_1
                            replace hx178_2 := (HB.out.cell (World.block_lt_of_cell? w _ hx178_2)).trans hx178_2
                            replace hx178_3 := (HB.out.cell (World.block_lt_of_cell? w _ hx178_3)).trans hx178_3
                            replace hx178_4 := (HB.out.cell (World.block_lt_of_cell? w _ hx178_4)).trans hx178_4
                            replace hx178_5 := (HB.out.cell (World.block_lt_of_cell? w _ hx178_5)).trans hx178_5
                            replace hx178_6 := (HB.out.cell (World.block_lt_of_cell? w _ hx178_6)).trans hx178_6
                            replace hx178_0 := (cell_far (p := ⟨gb171, 0, none⟩) (by first | (rw [add_block]; exact hn178_0) | (show (Addr.add _ _).block ≠ _; rw [add_block]; exact hn178_0) | exact hn178_0) (.int .i64 t175)).trans hx178_0
                            replace hx178_1 := (cell_far (p := ⟨gb171, 0, none⟩) (by first | (rw [add_block]; exact hn178_0) | (show (Addr.add _ _).block ≠ _; rw [add_block]; exact hn178_0) | exact hn178_0) (.int .i64 t175)).trans hx178_1
                            replace hx178_2 := (cell_far (p := ⟨gb171, 0, none⟩) (by first | (rw [add_block]; exact hn178_0) | (show (Addr.add _ _).block ≠ _; rw [add_block]; exact hn178_0) | exact hn178_0) (.int .i64 t175)).trans hx178_2
                            replace hx178_3 := (cell_far (p := ⟨gb171, 0, none⟩) (by first | (rw [add_block]; exact hn178_0) | (show (Addr.add _ _).block ≠ _; rw [add_block]; exact hn178_0) | exact hn178_0) (.int .i64 t175)).trans hx178_3
                            replace hx178_4 := (cell_far (p := ⟨gb171, 0, none⟩) (by first | (rw [add_block]; exact hn178_0) | (show (Addr.add _ _).block ≠ _; rw [add_block]; exact hn178_0) | exact hn178_0) (.int .i64 t175)).trans hx178_4
                            replace hx178_5 := (cell_far (p := ⟨gb171, 0, none⟩) (by first | (rw [add_block]; exact hn178_0) | (show (Addr.add _ _).block ≠ _; rw [add_block]; exact hn178_0) | exact hn178_0) (.int .i64 t175)).trans hx178_5
                            replace hx178_6 := (cell_far (p := ⟨gb171, 0, none⟩) (by first | (rw [add_block]; exact hn178_0) | (show (Addr.add _ _).block ≠ _; rw [add_block]; exact hn178_0) | exact hn178_0) (.int .i64 t175)).trans hx178_6
                            replace hx178_0 := (cell_far (p := ⟨gb171, 1, none⟩) (by first | (rw [add_block]; exact hn178_1) | (show (Addr.add _ _).block ≠ _; rw [add_block]; exact hn178_1) | exact hn178_1) (.int .i64 t176)).trans hx178_0
                            replace hx178_1 := (cell_far (p := ⟨gb171, 1, none⟩) (by first | (rw [add_block]; exact hn178_1) | (show (Addr.add _ _).block ≠ _; rw [add_block]; exact hn178_1) | exact hn178_1) (.int .i64 t176)).trans hx178_1
                            replace hx178_2 := (cell_far (p := ⟨gb171, 1, none⟩) (by first | (rw [add_block]; exact hn178_1) | (show (Addr.add _ _).block ≠ _; rw [add_block]; exact hn178_1) | exact hn178_1) (.int .i64 t176)).trans hx178_2
                            replace hx178_3 := (cell_far (p := ⟨gb171, 1, none⟩) (by first | (rw [add_block]; exact hn178_1) | (show (Addr.add _ _).block ≠ _; rw [add_block]; exact hn178_1) | exact hn178_1) (.int .i64 t176)).trans hx178_3
                            replace hx178_4 := (cell_far (p := ⟨gb171, 1, none⟩) (by first | (rw [add_block]; exact hn178_1) | (show (Addr.add _ _).block ≠ _; rw [add_block]; exact hn178_1) | exact hn178_1) (.int .i64 t176)).trans hx178_4
                            replace hx178_5 := (cell_far (p := ⟨gb171, 1, none⟩) (by first | (rw [add_block]; exact hn178_1) | (show (Addr.add _ _).block ≠ _; rw [add_block]; exact hn178_1) | exact hn178_1) (.int .i64 t176)).trans hx178_5
                            replace hx178_6 := (cell_far (p := ⟨gb171, 1, none⟩) (by first | (rw [add_block]; exact hn178_1) | (show (Addr.add _ _).block ≠ _; rw [add_block]; exact hn178_1) | exact hn178_1) (.int .i64 t176)).trans hx178_6
                            clear hn178_0
                            clear hn178_1
                            replace p178 := eq_true p178
                            replace q178 := eq_true q178
                            go_wp2
                            go_meet
                            case rel => exact ⟨_, (true), (by first | rfl | (simp; done) | (simp [*]; done)), H', ⟨by have := HJ4.out; have := HK2.out; first | omega | exact Nat.le_refl _⟩, ⟨by (with_reducible repeat (first | refine blk_drewN ?_ _ | refine blk_drew ?_ | refine blk_alloc ?_ _)); refine blk_far ?_ NB166_171.out _; (with_reducible repeat (first | refine blk_drewN ?_ _ | refine blk_drew ?_ | refine blk_alloc ?_ _)); refine blk_far ?_ NB166_171.out _; (with_reducible repeat (first | refine blk_drewN ?_ _ | refine blk_drew ?_ | refine blk_alloc ?_ _)); exact BK166.out⟩, ⟨by (with_reducible repeat (first | refine blk_drewN ?_ _ | refine blk_drew ?_ | refine blk_alloc ?_ _)); refine blk_put (cs := #[.int .i64 t175, .int .i64 x172001_2]) ?_ 1 _ rfl; (with_reducible repeat (first | refine blk_drewN ?_ _ | refine blk_drew ?_ | refine blk_alloc ?_ _)); refine blk_put (cs := #[.int .i64 x172000_2, .int .i64 x172001_2]) ?_ 0 _ rfl; (with_reducible repeat (first | refine blk_drewN ?_ _ | refine blk_drew ?_ | refine blk_alloc ?_ _)); exact BK171.out⟩, ⟨by repeat (first | (with_reducible first | exact HB.out | apply below_alloc | apply pw_below_drewN | apply below_drew1 | refine below_set ?_ GE166.out | refine below_set ?_ GE171.out) | exact HB.out)⟩⟩
                      · rw [if_neg c31] at H
                        have c31b0 : (t175 == 1) = false := beq_eq_false_iff_ne.mpr c31
                        have c31b1 : (t175 != 1) = true := bne_iff_ne.mpr c31
                        have H' := Aside0.mk H
                        clear H
                        have hnb43 := NB171_166.out
                        have hnc43 := NB166_171.out
                        have hcz44_0 : w24.cell? ⟨gb171, 0, none⟩ = some (.int .i64 x172000_2) := (blk_cell BK171.out 0).trans rfl
                        have hcz44_1 : w24.cell? ⟨gb171, 1, none⟩ = some (.int .i64 x172001_2) := (blk_cell BK171.out 1).trans rfl
                        have hfz44_0 := blk_frozen BK171.out 0
                        have hfz44_1 := blk_frozen BK171.out 1
                        go_wp2
                        go_meet
                        case rel => exact ⟨_, (true), (by first | rfl | (simp; done) | (simp [*]; done)), H', ⟨by have := HJ4.out; have := HK2.out; first | omega | exact Nat.le_refl _⟩, ⟨by (with_reducible repeat (first | refine blk_drewN ?_ _ | refine blk_drew ?_ | refine blk_alloc ?_ _)); refine blk_far ?_ NB166_171.out _; (with_reducible repeat (first | refine blk_drewN ?_ _ | refine blk_drew ?_ | refine blk_alloc ?_ _)); refine blk_far ?_ NB166_171.out _; (with_reducible repeat (first | refine blk_drewN ?_ _ | refine blk_drew ?_ | refine blk_alloc ?_ _)); exact BK166.out⟩, ⟨by (with_reducible repeat (first | refine blk_drewN ?_ _ | refine blk_drew ?_ | refine blk_alloc ?_ _)); refine blk_put (cs := #[.int .i64 t175, .int .i64 x172001_2]) ?_ 1 _ rfl; (with_reducible repeat (first | refine blk_drewN ?_ _ | refine blk_drew ?_ | refine blk_alloc ?_ _)); refine blk_put (cs := #[.int .i64 x172000_2, .int .i64 x172001_2]) ?_ 0 _ rfl; (with_reducible repeat (first | refine blk_drewN ?_ _ | refine blk_drew ?_ | refine blk_alloc ?_ _)); exact BK171.out⟩, ⟨by repeat (first | (with_reducible first | exact HB.out | apply below_alloc | apply pw_below_drewN | apply below_drew1 | refine below_set ?_ GE166.out | refine below_set ?_ GE171.out) | exact HB.out)⟩⟩
                  · rw [if_neg c27] at H
                    have c27b0 : (x172000_2 == 0) = false := beq_eq_false_iff_ne.mpr c27
                    have c27b1 : (x172000_2 != 0) = true := bne_iff_ne.mpr c27
                    (first | rw [c27b0] | (simp only [i64_w, i32_w]; rw [c27b0]) | skip)
                    have H' := Aside0.mk H
                    clear H
                    go_wp2
                    go_meet
                    case rel => exact ⟨_, (false), (by first | rfl | (simp; done) | (simp [*]; done)), H', ⟨by have := HJ4.out; have := HK2.out; first | omega | exact Nat.le_refl _⟩, ⟨by (with_reducible repeat (first | refine blk_drewN ?_ _ | refine blk_drew ?_ | refine blk_alloc ?_ _)); refine blk_far ?_ NB166_171.out _; (with_reducible repeat (first | refine blk_drewN ?_ _ | refine blk_drew ?_ | refine blk_alloc ?_ _)); refine blk_far ?_ NB166_171.out _; (with_reducible repeat (first | refine blk_drewN ?_ _ | refine blk_drew ?_ | refine blk_alloc ?_ _)); exact BK166.out⟩, ⟨by (with_reducible repeat (first | refine blk_drewN ?_ _ | refine blk_drew ?_ | refine blk_alloc ?_ _)); refine blk_put (cs := #[.int .i64 t175, .int .i64 x172001_2]) ?_ 1 _ rfl; (with_reducible repeat (first | refine blk_drewN ?_ _ | refine blk_drew ?_ | refine blk_alloc ?_ _)); refine blk_put (cs := #[.int .i64 x172000_2, .int .i64 x172001_2]) ?_ 0 _ rfl; (with_reducible repeat (first | refine blk_drewN ?_ _ | refine blk_drew ?_ | refine blk_alloc ?_ _)); exact BK171.out⟩, ⟨by repeat (first | (with_reducible first | exact HB.out | apply below_alloc | apply pw_below_drewN | apply below_drew1 | refine below_set ?_ GE166.out | refine below_set ?_ GE171.out) | exact HB.out)⟩⟩
                case rest =>
                  clear HC20
                  try clear c1
                  try clear p1
                  try clear q1
                  try clear hx1
                  try clear c2
                  try clear p2
                  try clear c3
                  try clear q3
                  try clear c4
                  try clear c12
                  try clear p17
                  try clear q17
                  try clear hx17
                  try clear c27
                  try clear c27b0
                  try clear c27b1
                  try clear c28
                  try clear c28b0
                  try clear c28b1
                  try clear c29
                  try clear c31
                  try clear c31b0
                  try clear c31b1
                  try clear q32
                  try clear c33
                  try clear c34
                  try clear q36
                  try clear c37
                  try clear c38
                  try clear c41
                  try clear c43
                  try clear hcz30_0
                  try clear hcz30_1
                  try clear hcz35_0
                  try clear hcz35_1
                  try clear hcz39_0
                  try clear hcz39_1
                  try clear hcz40_0
                  try clear hcz40_1
                  try clear hcz40_2
                  try clear hcz40_3
                  try clear hcz40_4
                  try clear hcz40_5
                  try clear hcz40_6
                  try clear hcz40_7
                  try clear hcz40_8
                  try clear hcz40_9
                  try clear hcz42_0
                  try clear hcz42_1
                  try clear hcz44_0
                  try clear hcz44_1
                  try clear hfz30_0
                  try clear hfz30_1
                  try clear hfz35_0
                  try clear hfz35_1
                  try clear hfz39_0
                  try clear hfz39_1
                  try clear hfz40_0
                  try clear hfz40_1
                  try clear hfz40_2
                  try clear hfz40_3
                  try clear hfz40_4
                  try clear hfz40_5
                  try clear hfz40_6
                  try clear hfz40_7
                  try clear hfz40_8
                  try clear hfz40_9
                  try clear hfz42_0
                  try clear hfz42_1
                  try clear hfz44_0
                  try clear hfz44_1
                  try clear hx172_0
                  try clear hx172_1
                  try clear hx172_2
                  try clear hx172_3
                  try clear hx172_4
                  try clear hx172_5
                  try clear hx172_6
                  try clear hx173_0
                  try clear hx173_1
                  try clear hx173_2
                  try clear hx173_3
                  try clear hx173_4
                  try clear hx173_5
                  try clear hx173_6
                  try clear hx174_0
                  try clear hx174_1
                  try clear hx174_2
                  try clear hx174_3
                  try clear hx174_4
                  try clear hx174_5
                  try clear hx174_6
                  try clear hx177_0
                  try clear hx177_1
                  try clear hx177_2
                  try clear hx177_3
                  try clear hx177_4
                  try clear hx177_5
                  try clear hx177_6
                  try clear hx178_0
                  try clear hx178_1
                  try clear hx178_2
                  try clear hx178_3
                  try clear hx178_4
                  try clear hx178_5
                  try clear hx178_6
                  try clear p172
                  try clear p173
                  try clear p174
                  try clear p177
                  try clear p178
                  try clear q172
                  try clear q173
                  try clear q174
                  try clear q177
                  try clear q178
                  obtain ⟨kq, x84_19, rfl, HA, HJ19, BK166, BK171, HB⟩ := hcut
                  cases kq with
                  | zero => exact absurd HA.out (by simp [crossbucklaw20_PhaseOpens.j2])
                  | succ kj19 =>
                    have H := HA.out
                    clear HA
                    simp only [crossbucklaw20_PhaseOpens.j2] at H
                    by_cases c45 : x84_19 = true
                    · subst c45
                      have H1 : (some false) = some r := by rw [if_pos rfl] at H; exact H
                      clear H
                      have H := H1
                      clear H1
                      obtain rfl := Option.some.inj H
                      go_wp2
                      go_ret
                      exact ⟨by first | rfl | (simp [errW_none, errW_some] <;> rfl) | (simp [*, errW_none, errW_some] <;> rfl), by repeat (first | (with_reducible first | exact HB.out | apply below_alloc | apply pw_below_drewN | apply below_drew1 | refine below_set ?_ GE166.out | refine below_set ?_ GE171.out) | exact HB.out)⟩
                    · replace c45 := Bool.eq_false_iff.mpr c45
                      subst c45
                      have H1 : (if t175 = 0 then (crossbucklaw20_PhaseOpens.l0 kj19 l1 t167 (wrap64 (x8_2 + 1)) (wrap64 (x9_2 + 1)) a0_0 a0_1 a0_2 a0_3 a0_4 a0_5 a0_6 a0_7 a0_8 a0_9 t175 t176) else (crossbucklaw20_PhaseOpens.l0 kj19 l1 t167 0 (wrap64 (x9_2 + 1)) a0_0 a0_1 a0_2 a0_3 a0_4 a0_5 a0_6 a0_7 a0_8 a0_9 t175 t176)) = some r := by rw [if_neg (show ¬ (false = true) by decide)] at H; exact H
                      clear H
                      have H := H1
                      clear H1
                      by_cases c46 : t175 = 0
                      · rw [if_pos c46] at H
                        have c46b0 : (t175 == 0) = true := beq_iff_eq.mpr c46
                        have c46b1 : (t175 != 0) = false := bne_eq_false_iff_eq.mpr c46
                        clear c46
                        have H' := Aside0.mk H
                        clear H
                        have hnb47 := NB171_166.out
                        have hnc47 := NB166_171.out
                        have hcz48_0 : wc.cell? ⟨gb171, 0, none⟩ = some (.int .i64 t175) := (blk_cell BK171.out 0).trans rfl
                        have hcz48_1 : wc.cell? ⟨gb171, 1, none⟩ = some (.int .i64 t176) := (blk_cell BK171.out 1).trans rfl
                        have hfz48_0 := blk_frozen BK171.out 0
                        have hfz48_1 := blk_frozen BK171.out 1
                        go_wp2
                        go_roundg kj19
                        case measure => have := HJ4.out; have := HK2.out; have := HJ19.out; omega
                        case rel => exact ⟨(wrap64 (x8_2 + 1)), (wrap64 (x9_2 + 1)), (t175), (t176), (by first | rfl | (simp; done) | (simp [*]; done)), (by first | rfl | (simp; done) | (simp [*]; done)), H', ⟨by have := HJ4.out; have := HK2.out; have := HJ19.out; omega⟩, ⟨by (with_reducible repeat (first | refine blk_drewN ?_ _ | refine blk_drew ?_ | refine blk_alloc ?_ _)); exact BK166.out⟩, ⟨by (with_reducible repeat (first | refine blk_drewN ?_ _ | refine blk_drew ?_ | refine blk_alloc ?_ _)); exact BK171.out⟩, ⟨by repeat (first | (with_reducible first | exact HB.out | apply below_alloc | apply pw_below_drewN | apply below_drew1 | refine below_set ?_ GE166.out | refine below_set ?_ GE171.out) | exact HB.out)⟩⟩
                      · rw [if_neg c46] at H
                        have c46b0 : (t175 == 0) = false := beq_eq_false_iff_ne.mpr c46
                        have c46b1 : (t175 != 0) = true := bne_iff_ne.mpr c46
                        have H' := Aside0.mk H
                        clear H
                        have hnb49 := NB171_166.out
                        have hnc49 := NB166_171.out
                        have hcz50_0 : wc.cell? ⟨gb171, 0, none⟩ = some (.int .i64 t175) := (blk_cell BK171.out 0).trans rfl
                        have hcz50_1 : wc.cell? ⟨gb171, 1, none⟩ = some (.int .i64 t176) := (blk_cell BK171.out 1).trans rfl
                        have hfz50_0 := blk_frozen BK171.out 0
                        have hfz50_1 := blk_frozen BK171.out 1
                        go_wp2
                        go_roundg kj19
                        case measure => have := HJ4.out; have := HK2.out; have := HJ19.out; omega
                        case rel => exact ⟨(0), (wrap64 (x9_2 + 1)), (t175), (t176), (by first | rfl | (simp; done) | (simp [*]; done)), (by first | rfl | (simp; done) | (simp [*]; done)), H', ⟨by have := HJ4.out; have := HK2.out; have := HJ19.out; omega⟩, ⟨by (with_reducible repeat (first | refine blk_drewN ?_ _ | refine blk_drew ?_ | refine blk_alloc ?_ _)); exact BK166.out⟩, ⟨by (with_reducible repeat (first | refine blk_drewN ?_ _ | refine blk_drew ?_ | refine blk_alloc ?_ _)); exact BK171.out⟩, ⟨by repeat (first | (with_reducible first | exact HB.out | apply below_alloc | apply pw_below_drewN | apply below_drew1 | refine below_set ?_ GE166.out | refine below_set ?_ GE171.out) | exact HB.out)⟩⟩
              · rw [if_neg c18] at H
                exact absurd H (by simp)
            · rw [if_neg c17] at H
              have c17b0 : decide (x9_2 < (l1.length : Int)) = false := decide_eq_false c17
              clear c17
              obtain rfl := Option.some.inj H
              go_wp2
              go_ret
              exact ⟨by first | rfl | (simp [errW_none, errW_some] <;> rfl) | (simp [*, errW_none, errW_some] <;> rfl), by repeat (first | (with_reducible first | exact HB.out | apply below_alloc | apply pw_below_drewN | apply below_drew1 | refine below_set ?_ GE166.out | refine below_set ?_ GE171.out) | exact HB.out)⟩

end Go.Proofs.Ytngmjmcamkfopaa.A
