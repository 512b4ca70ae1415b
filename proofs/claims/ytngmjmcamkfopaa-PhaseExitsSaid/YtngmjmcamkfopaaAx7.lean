/- Each function's own law: what the call answers, as a plain Lean function; a text that a program of this session wrote. -/
import Derived.Test.YtngmjmcamkfopaaAx0
import Derived.Test.YtngmjmcamkfopaaAx3
import Derived.Test.YtngmjmcamkfopaaAx5
import Derived.Test.YtngmjmcamkfopaaHandLights
import Derived.Test.YtngmjmcamkfopaaHandSmall20
namespace Go.Proofs.Ytngmjmcamkfopaa.A
open Go.RowKit Go.Proofs.YtngmjmcamkfopaaW.PrintWords Go.Proofs.YtngmjmcamkfopaaW.PrintLast Go.Proofs.YtngmjmcamkfopaaW.PrintMore
attribute [local go_sem] max2_int min2_int max_two min_two max_three min_three max_four min_four   -- for this text's walks alone
set_option linter.unusedVariables false
set_option linter.unusedSimpArgs false

/-! ### crossbucklaw20_PhaseExits: function 4 -/
mutual
def crossbucklaw20_PhaseExits.j0 : Nat → List (S36) → Bool → Bool → Int → Int → Int → Int → Int → Int → Int → Int → Int → Int → Option (Bool)
  | 0, _, _, _, _, _, _, _, _, _, _, _, _, _ => none
  | k + 1, x1, x5, x21, x143000, x143001, x143002, x143003, x143004, x143005, x143006, x143007, x143008, x143009 => if x21 = true then (some x5) else ((phase_Enter.f 0).bind fun bt145 => (crossbucklaw20_PhaseExits.l0 k x1 x5 0 0 x143000 x143001 x143002 x143003 x143004 x143005 x143006 x143007 x143008 x143009 bt145.1 bt145.2))
def crossbucklaw20_PhaseExits.l0 : Nat → List (S36) → Bool → Int → Int → Int → Int → Int → Int → Int → Int → Int → Int → Int → Int → Int → Int → Option (Bool)
  | 0, _, _, _, _, _, _, _, _, _, _, _, _, _, _, _, _ => none
  | k + 1, x1, x5, x8, x9, x143000, x143001, x143002, x143003, x143004, x143005, x143006, x143007, x143008, x143009, x148000, x148001 => if x9 < (x1.length : Int) then ((phase_Lights.f x148000 x148001).bind fun bt148 => (if 0 ≤ x9 then ((phase_Step.f k x143000 x143001 x143002 x143003 x143004 x143005 x143006 x143007 x143008 x143009 x148000 x148001 ((rd_T36 x1 x9).f0.f0) ((rd_T36 x1 x9).f0.f1) ((rd_T36 x1 x9).f1.f0) ((rd_T36 x1 x9).f1.f1) ((rd_T36 x1 x9).f1.f2) ((rd_T36 x1 x9).f1.f3) ((rd_T36 x1 x9).f2)).bind fun bt157 => ((phase_Lights.f bt157.1 bt157.2).bind fun bt159 => (if bt159.2.2.2.2 = true then (if bt148.2.2.2.2 = true then (crossbucklaw20_PhaseExits.j2 k x1 x5 x8 x9 false x143000 x143001 x143002 x143003 x143004 x143005 x143006 x143007 x143008 x143009 bt157.1 bt157.2 bt159.1 bt159.2.1 bt159.2.2.1 bt159.2.2.2.1 bt159.2.2.2.2) else (if x8 < x143002 then (crossbucklaw20_PhaseExits.j2 k x1 x5 x8 x9 true x143000 x143001 x143002 x143003 x143004 x143005 x143006 x143007 x143008 x143009 bt157.1 bt157.2 bt159.1 bt159.2.1 bt159.2.2.1 bt159.2.2.2.1 bt159.2.2.2.2) else (if (rd_T36 x1 x9).f2 = true then (crossbucklaw20_PhaseExits.j2 k x1 x5 x8 x9 (decide (x8 < (wrap64 (x143002 + x143006)))) x143000 x143001 x143002 x143003 x143004 x143005 x143006 x143007 x143008 x143009 bt157.1 bt157.2 bt159.1 bt159.2.1 bt159.2.2.1 bt159.2.2.2.1 bt159.2.2.2.2) else (crossbucklaw20_PhaseExits.j2 k x1 x5 x8 x9 false x143000 x143001 x143002 x143003 x143004 x143005 x143006 x143007 x143008 x143009 bt157.1 bt157.2 bt159.1 bt159.2.1 bt159.2.2.1 bt159.2.2.2.1 bt159.2.2.2.2)))) else (crossbucklaw20_PhaseExits.j2 k x1 x5 x8 x9 false x143000 x143001 x143002 x143003 x143004 x143005 x143006 x143007 x143008 x143009 bt157.1 bt157.2 bt159.1 bt159.2.1 bt159.2.2.1 bt159.2.2.2.1 bt159.2.2.2.2)))) else (none))) else (some x5)
def crossbucklaw20_PhaseExits.j2 : Nat → List (S36) → Bool → Int → Int → Bool → Int → Int → Int → Int → Int → Int → Int → Int → Int → Int → Int → Int → Bool → Bool → Bool → Bool → Bool → Option (Bool)
  | 0, _, _, _, _, _, _, _, _, _, _, _, _, _, _, _, _, _, _, _, _, _, _ => none
  | k + 1, x1, x5, x8, x9, x80, x143000, x143001, x143002, x143003, x143004, x143005, x143006, x143007, x143008, x143009, x148000, x148001, x165000, x165001, x165002, x165003, x165004 => if x80 = true then (some false) else (if x165003 = true then (crossbucklaw20_PhaseExits.l0 k x1 x5 (wrap64 (x8 + 1)) (wrap64 (x9 + 1)) x143000 x143001 x143002 x143003 x143004 x143005 x143006 x143007 x143008 x143009 x148000 x148001) else (crossbucklaw20_PhaseExits.l0 k x1 x5 0 (wrap64 (x9 + 1)) x143000 x143001 x143002 x143003 x143004 x143005 x143006 x143007 x143008 x143009 x148000 x148001))
end
def crossbucklaw20_PhaseExits.f (k : Nat) (a0_0 : Int) (a0_1 : Int) (a0_2 : Int) (a0_3 : Int) (a0_4 : Int) (a0_5 : Int) (a0_6 : Int) (a0_7 : Int) (a0_8 : Int) (a0_9 : Int) (l1 : List (S36)) : Option (Bool) := (crossbucklaw20_small.f).bind fun t143 => ((crossbucklaw20_Few.f k a0_0 a0_1 a0_2 a0_3 a0_4 a0_5 a0_6 a0_7 a0_8 a0_9).bind fun t144 => (if t144 = true then (crossbucklaw20_PhaseExits.j0 k l1 t143 (decide ((l1.length : Int) > 400)) a0_0 a0_1 a0_2 a0_3 a0_4 a0_5 a0_6 a0_7 a0_8 a0_9) else (crossbucklaw20_PhaseExits.j0 k l1 t143 true a0_0 a0_1 a0_2 a0_3 a0_4 a0_5 a0_6 a0_7 a0_8 a0_9)))
theorem crossbucklaw20_PhaseExits.mono_l : ∀ k, (∀ y0 y1 y2 y3 y4 y5 y6 y7 y8 y9 y10 y11 y12, LeO (crossbucklaw20_PhaseExits.j0 k y0 y1 y2 y3 y4 y5 y6 y7 y8 y9 y10 y11 y12) (crossbucklaw20_PhaseExits.j0 (k + 1) y0 y1 y2 y3 y4 y5 y6 y7 y8 y9 y10 y11 y12)) ∧ (∀ y0 y1 y2 y3 y4 y5 y6 y7 y8 y9 y10 y11 y12 y13 y14 y15, LeO (crossbucklaw20_PhaseExits.l0 k y0 y1 y2 y3 y4 y5 y6 y7 y8 y9 y10 y11 y12 y13 y14 y15) (crossbucklaw20_PhaseExits.l0 (k + 1) y0 y1 y2 y3 y4 y5 y6 y7 y8 y9 y10 y11 y12 y13 y14 y15)) ∧ (∀ y0 y1 y2 y3 y4 y5 y6 y7 y8 y9 y10 y11 y12 y13 y14 y15 y16 y17 y18 y19 y20 y21, LeO (crossbucklaw20_PhaseExits.j2 k y0 y1 y2 y3 y4 y5 y6 y7 y8 y9 y10 y11 y12 y13 y14 y15 y16 y17 y18 y19 y20 y21) (crossbucklaw20_PhaseExits.j2 (k + 1) y0 y1 y2 y3 y4 y5 y6 y7 y8 y9 y10 y11 y12 y13 y14 y15 y16 y17 y18 y19 y20 y21))
  | 0 => ⟨fun _ _ _ _ _ _ _ _ _ _ _ _ _ r h => by simp [crossbucklaw20_PhaseExits.j0] at h, fun _ _ _ _ _ _ _ _ _ _ _ _ _ _ _ _ r h => by simp [crossbucklaw20_PhaseExits.l0] at h, fun _ _ _ _ _ _ _ _ _ _ _ _ _ _ _ _ _ _ _ _ _ _ r h => by simp [crossbucklaw20_PhaseExits.j2] at h⟩
  | k + 1 => by
    obtain ⟨ih0, ih1, ih2⟩ := crossbucklaw20_PhaseExits.mono_l k
    refine ⟨?_, ?_, ?_⟩
    · intro y0 y1 y2 y3 y4 y5 y6 y7 y8 y9 y10 y11 y12
      unfold crossbucklaw20_PhaseExits.j0
      repeat' first
      | (with_reducible exact ih0 _ _ _ _ _ _ _ _ _ _ _ _ _)
      | (with_reducible exact ih1 _ _ _ _ _ _ _ _ _ _ _ _ _ _ _ _)
      | (with_reducible exact ih2 _ _ _ _ _ _ _ _ _ _ _ _ _ _ _ _ _ _ _ _ _ _)
      | (with_reducible exact crossbucklaw20_Few.mono _ _ _ _ _ _ _ _ _ _ _)
      | (with_reducible exact phase_Step.mono _ _ _ _ _ _ _ _ _ _ _ _ _ _ _ _ _ _ _ _)
      | (with_reducible exact LeO.refl _)
      | (with_reducible exact LeO.none _)
      | (with_reducible refine LeO.ite ?_ ?_)
      | (with_reducible refine LeO.bind ?_ (fun _ => ?_))
      | exact ih0 _ _ _ _ _ _ _ _ _ _ _ _ _
      | exact ih1 _ _ _ _ _ _ _ _ _ _ _ _ _ _ _ _
      | exact ih2 _ _ _ _ _ _ _ _ _ _ _ _ _ _ _ _ _ _ _ _ _ _
      | exact crossbucklaw20_Few.mono _ _ _ _ _ _ _ _ _ _ _
      | exact phase_Step.mono _ _ _ _ _ _ _ _ _ _ _ _ _ _ _ _ _ _ _ _
      | exact LeO.none _
      | refine LeO.ite ?_ ?_
      | refine LeO.bind ?_ (fun _ => ?_)
    · intro y0 y1 y2 y3 y4 y5 y6 y7 y8 y9 y10 y11 y12 y13 y14 y15
      unfold crossbucklaw20_PhaseExits.l0
      repeat' first
      | (with_reducible exact ih0 _ _ _ _ _ _ _ _ _ _ _ _ _)
      | (with_reducible exact ih1 _ _ _ _ _ _ _ _ _ _ _ _ _ _ _ _)
      | (with_reducible exact ih2 _ _ _ _ _ _ _ _ _ _ _ _ _ _ _ _ _ _ _ _ _ _)
      | (with_reducible exact crossbucklaw20_Few.mono _ _ _ _ _ _ _ _ _ _ _)
      | (with_reducible exact phase_Step.mono _ _ _ _ _ _ _ _ _ _ _ _ _ _ _ _ _ _ _ _)
      | (with_reducible exact LeO.refl _)
      | (with_reducible exact LeO.none _)
      | (with_reducible refine LeO.ite ?_ ?_)
      | (with_reducible refine LeO.bind ?_ (fun _ => ?_))
      | exact ih0 _ _ _ _ _ _ _ _ _ _ _ _ _
      | exact ih1 _ _ _ _ _ _ _ _ _ _ _ _ _ _ _ _
      | exact ih2 _ _ _ _ _ _ _ _ _ _ _ _ _ _ _ _ _ _ _ _ _ _
      | exact crossbucklaw20_Few.mono _ _ _ _ _ _ _ _ _ _ _
      | exact phase_Step.mono _ _ _ _ _ _ _ _ _ _ _ _ _ _ _ _ _ _ _ _
      | exact LeO.none _
      | refine LeO.ite ?_ ?_
      | refine LeO.bind ?_ (fun _ => ?_)
    · intro y0 y1 y2 y3 y4 y5 y6 y7 y8 y9 y10 y11 y12 y13 y14 y15 y16 y17 y18 y19 y20 y21
      unfold crossbucklaw20_PhaseExits.j2
      repeat' first
      | (with_reducible exact ih0 _ _ _ _ _ _ _ _ _ _ _ _ _)
      | (with_reducible exact ih1 _ _ _ _ _ _ _ _ _ _ _ _ _ _ _ _)
      | (with_reducible exact ih2 _ _ _ _ _ _ _ _ _ _ _ _ _ _ _ _ _ _ _ _ _ _)
      | (with_reducible exact crossbucklaw20_Few.mono _ _ _ _ _ _ _ _ _ _ _)
      | (with_reducible exact phase_Step.mono _ _ _ _ _ _ _ _ _ _ _ _ _ _ _ _ _ _ _ _)
      | (with_reducible exact LeO.refl _)
      | (with_reducible exact LeO.none _)
      | (with_reducible refine LeO.ite ?_ ?_)
      | (with_reducible refine LeO.bind ?_ (fun _ => ?_))
      | exact ih0 _ _ _ _ _ _ _ _ _ _ _ _ _
      | exact ih1 _ _ _ _ _ _ _ _ _ _ _ _ _ _ _ _
      | exact ih2 _ _ _ _ _ _ _ _ _ _ _ _ _ _ _ _ _ _ _ _ _ _
      | exact crossbucklaw20_Few.mono _ _ _ _ _ _ _ _ _ _ _
      | exact phase_Step.mono _ _ _ _ _ _ _ _ _ _ _ _ _ _ _ _ _ _ _ _
      | exact LeO.none _
      | refine LeO.ite ?_ ?_
      | refine LeO.bind ?_ (fun _ => ?_)
theorem crossbucklaw20_PhaseExits.mono : ∀ a0 a1 a2 a3 a4 a5 a6 a7 a8 a9 a10 k, LeO (crossbucklaw20_PhaseExits.f k a0 a1 a2 a3 a4 a5 a6 a7 a8 a9 a10) (crossbucklaw20_PhaseExits.f (k + 1) a0 a1 a2 a3 a4 a5 a6 a7 a8 a9 a10) := by
  intro a0 a1 a2 a3 a4 a5 a6 a7 a8 a9 a10 k
  obtain ⟨ih0, ih1, ih2⟩ := crossbucklaw20_PhaseExits.mono_l k
  unfold crossbucklaw20_PhaseExits.f
  repeat' first
      | (with_reducible exact ih0 _ _ _ _ _ _ _ _ _ _ _ _ _)
      | (with_reducible exact ih1 _ _ _ _ _ _ _ _ _ _ _ _ _ _ _ _)
      | (with_reducible exact ih2 _ _ _ _ _ _ _ _ _ _ _ _ _ _ _ _ _ _ _ _ _ _)
      | (with_reducible exact crossbucklaw20_Few.mono _ _ _ _ _ _ _ _ _ _ _)
      | (with_reducible exact phase_Step.mono _ _ _ _ _ _ _ _ _ _ _ _ _ _ _ _ _ _ _ _)
      | (with_reducible exact LeO.refl _)
      | (with_reducible exact LeO.none _)
      | (with_reducible refine LeO.ite ?_ ?_)
      | (with_reducible refine LeO.bind ?_ (fun _ => ?_))
      | exact ih0 _ _ _ _ _ _ _ _ _ _ _ _ _
      | exact ih1 _ _ _ _ _ _ _ _ _ _ _ _ _ _ _ _
      | exact ih2 _ _ _ _ _ _ _ _ _ _ _ _ _ _ _ _ _ _ _ _ _ _
      | exact crossbucklaw20_Few.mono _ _ _ _ _ _ _ _ _ _ _
      | exact phase_Step.mono _ _ _ _ _ _ _ _ _ _ _ _ _ _ _ _ _ _ _ _
      | exact LeO.none _
      | refine LeO.ite ?_ ?_
      | refine LeO.bind ?_ (fun _ => ?_)
def crossbucklaw20_PhaseExits.T11 : Bool × List (List Nat × List Nat) := (true, [([], []), ([], []), ([], []), ([], []), ([2, 3], [2, 3]), ([4], [4]), ([5], [5]), ([], []), ([], []), ([7, 8], [7, 8]), ([9], [9]), ([10], [10]), ([], []), ([], []), ([12, 13], [12, 13]), ([14], [14]), ([15], [15]), ([0, 1, 6, 11, 16], [0, 1, 6, 11, 16]), ([17, 17, 0, 1, 2, 3, 4, 5, 6, 7, 8, 9, 10, 11, 12, 13, 14, 15, 16, 17], [17])])
def crossbucklaw20_PhaseExits.B11 : List Nat := [0, 0, 0, 0, 12, 28, 60, 0, 0, 384, 896, 1920, 0, 0, 12288, 28672, 61440, 131071, 262143]
theorem crossbucklaw20_PhaseExits.tab11 : rtab .any (opsOf Try.f4 11) = crossbucklaw20_PhaseExits.T11 := by kernel_rfl
theorem crossbucklaw20_PhaseExits.bits11 : waitsOk crossbucklaw20_PhaseExits.T11.2 crossbucklaw20_PhaseExits.B11 = true := by kernel_rfl
set_option maxHeartbeats 8000000 in
set_option maxRecDepth 100000 in
theorem crossbucklaw20_PhaseExits.calls (k : Nat) (a0_0 : Int) (a0_1 : Int) (a0_2 : Int) (a0_3 : Int) (a0_4 : Int) (a0_5 : Int) (a0_6 : Int) (a0_7 : Int) (a0_8 : Int) (a0_9 : Int) (A1 : Option Addr) (c1 : Nat) (l1 : List (S36)) (r : Bool) (w : World) (hr1 : Kd.C k36 w A1 l1.length l1) (hc1 : l1.length ≤ c1) (h : crossbucklaw20_PhaseExits.f k a0_0 a0_1 a0_2 a0_3 a0_4 a0_5 a0_6 a0_7 a0_8 a0_9 l1 = some r) :
    Calls Try.prog 4 #[.agg #[.int .i64 a0_0, .int .i64 a0_1, .int .i64 a0_2, .int .i64 a0_3, .int .i64 a0_4, .int .i64 a0_5, .int .i64 a0_6, .int .i64 a0_7, .int .i64 a0_8, .int .i64 a0_9], .slice A1 l1.length c1] w fun e w' => e = .returned (.bool r) ∧ Below w.heap.size w w' := by
  have hu23 := Try.underlying23
  have hu28 := Try.underlying28
  have hu38 := Try.underlying38
  have hu32 := Try.underlying32
  have hu34 := Try.underlying34
  have HR1 := Aside0.mk hr1
  have HC1 := Aside0.mk hc1
  clear hr1 hc1
  have HB := Aside0.mk (Below.refl w.heap.size w)
  have H : ((crossbucklaw20_small.f).bind fun t143 => ((crossbucklaw20_Few.f k a0_0 a0_1 a0_2 a0_3 a0_4 a0_5 a0_6 a0_7 a0_8 a0_9).bind fun t144 => (if t144 = true then (crossbucklaw20_PhaseExits.j0 k l1 t143 (decide ((l1.length : Int) > 400)) a0_0 a0_1 a0_2 a0_3 a0_4 a0_5 a0_6 a0_7 a0_8 a0_9) else (crossbucklaw20_PhaseExits.j0 k l1 t143 true a0_0 a0_1 a0_2 a0_3 a0_4 a0_5 a0_6 a0_7 a0_8 a0_9)))) = some r := h
  clear h
  replace H := Option.bind_eq_some_iff.mp H
  obtain ⟨t143, A30, H⟩ := H
  replace H : ((crossbucklaw20_Few.f k a0_0 a0_1 a0_2 a0_3 a0_4 a0_5 a0_6 a0_7 a0_8 a0_9).bind fun t144 => (if t144 = true then (crossbucklaw20_PhaseExits.j0 k l1 t143 (decide ((l1.length : Int) > 400)) a0_0 a0_1 a0_2 a0_3 a0_4 a0_5 a0_6 a0_7 a0_8 a0_9) else (crossbucklaw20_PhaseExits.j0 k l1 t143 true a0_0 a0_1 a0_2 a0_3 a0_4 a0_5 a0_6 a0_7 a0_8 a0_9))) = some r := H
  have A3 := Aside0.mk A30
  clear A30
  replace H := Option.bind_eq_some_iff.mp H
  obtain ⟨t144, A40, H⟩ := H
  replace H : (if t144 = true then (crossbucklaw20_PhaseExits.j0 k l1 t143 (decide ((l1.length : Int) > 400)) a0_0 a0_1 a0_2 a0_3 a0_4 a0_5 a0_6 a0_7 a0_8 a0_9) else (crossbucklaw20_PhaseExits.j0 k l1 t143 true a0_0 a0_1 a0_2 a0_3 a0_4 a0_5 a0_6 a0_7 a0_8 a0_9)) = some r := H
  have A4 := Aside0.mk A40
  clear A40
  have HC5 := Aside0.mk H
  clear H
  go_enter Try.func4, Try.ntmps4
  go_upto_region 3 with (first | ((with_reducible refine gate_dst (N := 2) rfl ?_); (try (refine gate_guard (by rfl) ?_; dsimp only)); refine box_event ?hg (N := 2) ?hd (cs := #[.int .i64 a0_0, .int .i64 a0_1, .int .i64 a0_2, .int .i64 a0_3, .int .i64 a0_4, .int .i64 a0_5, .int .i64 a0_6, .int .i64 a0_7, .int .i64 a0_8, .int .i64 a0_9]) (t := 23) ?hr ?_; (case hd => rfl); (case hg => rfl); (case hr => first | (go_simp; done) | (go_simp; rfl)); intro gb142 hg w6 hbox hb; have n0_ := Aside0.mk (below_step (by repeat (first | (with_reducible first | exact HB.out | apply below_alloc | apply pw_below_drewN | apply below_drew1) | exact HB.out)) hb); have n1_ := Aside0.mk (hbox); have n2_ := Aside0.mk ((by rw [hg]; exact (below_size (by repeat (first | (with_reducible first | exact HB.out | apply below_alloc | apply pw_below_drewN | apply below_drew1) | exact HB.out))) : w.heap.size ≤ gb142)); have n3_ := Aside0.mk ((by rw [hg]; exact (below_size (by repeat (first | (with_reducible first | exact HB.out | apply below_alloc | apply pw_below_drewN | apply below_drew1) | exact HB.out))) : w.heap.size ≤ gb142)); clear HB; have HB := n0_; have BK142 := n1_; have GW142 := n2_; have GE142 := n3_; clear n0_ n1_ n2_ n3_; clear hb hbox hg) | ((with_reducible refine gate_callee (f := 9) rfl ?_); refine goesL_ (some 12) rfl rfl Try.func9 (by kernel_rfl) rfl #[] rfl (by (try simp only [List.map_toArray, List.map_cons, List.map_nil]); first | done | rfl | (simp only [List.length_drop, List.length_take]; rfl)) ?_; (with_reducible refine (crossbucklaw20_small.calls  t143 _ A3.out).mono ?_); rintro e w7 ⟨rfl, hb⟩; refine ⟨_, rfl, ?_⟩; have n0_ := Aside0.mk (blk_below (g := gb142) (o := .cells #[.int .i64 a0_0, .int .i64 a0_1, .int .i64 a0_2, .int .i64 a0_3, .int .i64 a0_4, .int .i64 a0_5, .int .i64 a0_6, .int .i64 a0_7, .int .i64 a0_8, .int .i64 a0_9] 23 (0, 0)) (by (with_reducible repeat (first | refine blk_drewN ?_ _ | refine blk_drew ?_ | refine blk_alloc ?_ _)); exact BK142.out) hb); have n1_ := Aside0.mk (below_step (by repeat (first | (with_reducible first | exact HB.out | apply below_alloc | apply pw_below_drewN | apply below_drew1 | refine below_set ?_ GE142.out) | exact HB.out)) hb); clear BK142; clear HB; have BK142 := n0_; have HB := n1_; clear n0_ n1_; (try clear hb); (try clear hb2); (try clear hk); (try clear hi); have hcz8_0 : w7.cell? ⟨gb142, 0, none⟩ = some (.int .i64 a0_0) := (blk_cell BK142.out 0).trans rfl; have hcz8_1 : w7.cell? ⟨gb142, 1, none⟩ = some (.int .i64 a0_1) := (blk_cell BK142.out 1).trans rfl; have hcz8_2 : w7.cell? ⟨gb142, 2, none⟩ = some (.int .i64 a0_2) := (blk_cell BK142.out 2).trans rfl; have hcz8_3 : w7.cell? ⟨gb142, 3, none⟩ = some (.int .i64 a0_3) := (blk_cell BK142.out 3).trans rfl; have hcz8_4 : w7.cell? ⟨gb142, 4, none⟩ = some (.int .i64 a0_4) := (blk_cell BK142.out 4).trans rfl; have hcz8_5 : w7.cell? ⟨gb142, 5, none⟩ = some (.int .i64 a0_5) := (blk_cell BK142.out 5).trans rfl; have hcz8_6 : w7.cell? ⟨gb142, 6, none⟩ = some (.int .i64 a0_6) := (blk_cell BK142.out 6).trans rfl; have hcz8_7 : w7.cell? ⟨gb142, 7, none⟩ = some (.int .i64 a0_7) := (blk_cell BK142.out 7).trans rfl; have hcz8_8 : w7.cell? ⟨gb142, 8, none⟩ = some (.int .i64 a0_8) := (blk_cell BK142.out 8).trans rfl; have hcz8_9 : w7.cell? ⟨gb142, 9, none⟩ = some (.int .i64 a0_9) := (blk_cell BK142.out 9).trans rfl; have hfz8_0 := blk_frozen BK142.out 0; have hfz8_1 := blk_frozen BK142.out 1; have hfz8_2 := blk_frozen BK142.out 2; have hfz8_3 := blk_frozen BK142.out 3; have hfz8_4 := blk_frozen BK142.out 4; have hfz8_5 := blk_frozen BK142.out 5; have hfz8_6 := blk_frozen BK142.out 6; have hfz8_7 := blk_frozen BK142.out 7; have hfz8_8 := blk_frozen BK142.out 8; have hfz8_9 := blk_frozen BK142.out 9) | ((with_reducible refine gate_callee (f := 10) rfl ?_); refine goesL_ (some 14) rfl rfl Try.func10 (by kernel_rfl) rfl #[.agg #[.int .i64 a0_0, .int .i64 a0_1, .int .i64 a0_2, .int .i64 a0_3, .int .i64 a0_4, .int .i64 a0_5, .int .i64 a0_6, .int .i64 a0_7, .int .i64 a0_8, .int .i64 a0_9]] rfl (by (try simp only [List.map_toArray, List.map_cons, List.map_nil]); first | done | rfl | (simp only [List.length_drop, List.length_take]; rfl)) ?_; (with_reducible refine (crossbucklaw20_Few.calls k a0_0 a0_1 a0_2 a0_3 a0_4 a0_5 a0_6 a0_7 a0_8 a0_9 t144 _ A4.out).mono ?_); rintro e w9 ⟨rfl, hb⟩; refine ⟨_, rfl, ?_⟩; have n0_ := Aside0.mk (blk_below (g := gb142) (o := .cells #[.int .i64 a0_0, .int .i64 a0_1, .int .i64 a0_2, .int .i64 a0_3, .int .i64 a0_4, .int .i64 a0_5, .int .i64 a0_6, .int .i64 a0_7, .int .i64 a0_8, .int .i64 a0_9] 23 (0, 0)) (by (with_reducible repeat (first | refine blk_drewN ?_ _ | refine blk_drew ?_ | refine blk_alloc ?_ _)); exact BK142.out) hb); have n1_ := Aside0.mk (below_step (by repeat (first | (with_reducible first | exact HB.out | apply below_alloc | apply pw_below_drewN | apply below_drew1 | refine below_set ?_ GE142.out) | exact HB.out)) hb); clear BK142; clear HB; have BK142 := n0_; have HB := n1_; clear n0_ n1_; (try clear hb); (try clear hb2); (try clear hk); (try clear hi)))
  (try simp only [Act.put, List.setIfInBounds_toArray, List.set_cons_zero, List.set_cons_succ])
  go_cut [21] (fun v21 wc => ∃ (kq : Nat) (x21_4 : Bool), v21 = .bool x21_4 ∧ Aside0 (crossbucklaw20_PhaseExits.j0 kq l1 t143 x21_4 a0_0 a0_1 a0_2 a0_3 a0_4 a0_5 a0_6 a0_7 a0_8 a0_9 = some r) ∧ Aside0 (kq ≤ k) ∧ Aside0 (wc.heap[gb142]? = some (.cells #[.int .i64 a0_0, .int .i64 a0_1, .int .i64 a0_2, .int .i64 a0_3, .int .i64 a0_4, .int .i64 a0_5, .int .i64 a0_6, .int .i64 a0_7, .int .i64 a0_8, .int .i64 a0_9] 23 (0, 0))) ∧ Aside0 (Below w.heap.size w wc))
  case first =>
    have H := HC5.out
    clear HC5
    by_cases c10 : t144 = true
    · subst c10
      have H1 : (crossbucklaw20_PhaseExits.j0 k l1 t143 (decide ((l1.length : Int) > 400)) a0_0 a0_1 a0_2 a0_3 a0_4 a0_5 a0_6 a0_7 a0_8 a0_9) = some r := by rw [if_pos rfl] at H; exact H
      clear H
      have H := H1
      clear H1
      have H' := Aside0.mk H
      clear H
      go_wp2
      go_meet
      case rel => exact ⟨_, (decide ((l1.length : Int) > 400)), (by first | rfl | (simp; done) | (simp [*]; done)), H', ⟨by first | omega | exact Nat.le_refl _⟩, ⟨by (with_reducible repeat (first | refine blk_drewN ?_ _ | refine blk_drew ?_ | refine blk_alloc ?_ _)); exact BK142.out⟩, ⟨by repeat (first | (with_reducible first | exact HB.out | apply below_alloc | apply pw_below_drewN | apply below_drew1 | refine below_set ?_ GE142.out) | exact HB.out)⟩⟩
    · replace c10 := Bool.eq_false_iff.mpr c10
      subst c10
      have H1 : (crossbucklaw20_PhaseExits.j0 k l1 t143 true a0_0 a0_1 a0_2 a0_3 a0_4 a0_5 a0_6 a0_7 a0_8 a0_9) = some r := by rw [if_neg (show ¬ (false = true) by decide)] at H; exact H
      clear H
      have H := H1
      clear H1
      have H' := Aside0.mk H
      clear H
      go_wp2
      go_meet
      case rel => exact ⟨_, (true), (by first | rfl | (simp; done) | (simp [*]; done)), H', ⟨by first | omega | exact Nat.le_refl _⟩, ⟨by (with_reducible repeat (first | refine blk_drewN ?_ _ | refine blk_drew ?_ | refine blk_alloc ?_ _)); exact BK142.out⟩, ⟨by repeat (first | (with_reducible first | exact HB.out | apply below_alloc | apply pw_below_drewN | apply below_drew1 | refine below_set ?_ GE142.out) | exact HB.out)⟩⟩
  case rest =>
    clear HC5
    try clear c1
    try clear p2
    try clear c4
    try clear c9
    try clear c10
    try clear hcz8_0
    try clear hcz8_1
    try clear hcz8_2
    try clear hcz8_3
    try clear hcz8_4
    try clear hcz8_5
    try clear hcz8_6
    try clear hcz8_7
    try clear hcz8_8
    try clear hcz8_9
    try clear hfz8_0
    try clear hfz8_1
    try clear hfz8_2
    try clear hfz8_3
    try clear hfz8_4
    try clear hfz8_5
    try clear hfz8_6
    try clear hfz8_7
    try clear hfz8_8
    try clear hfz8_9
    obtain ⟨kq, x21_4, rfl, HA, HJ4, BK142, HB⟩ := hcut
    cases kq with
    | zero => exact absurd HA.out (by simp [crossbucklaw20_PhaseExits.j0])
    | succ kj4 =>
      have H := HA.out
      clear HA
      simp only [crossbucklaw20_PhaseExits.j0] at H
      by_cases c11 : x21_4 = true
      · subst c11
        have H1 : (some t143) = some r := by rw [if_pos rfl] at H; exact H
        clear H
        have H := H1
        clear H1
        obtain rfl := Option.some.inj H
        go_wp2
        go_ret
        exact ⟨by first | rfl | (simp [errW_none, errW_some] <;> rfl) | (simp [*, errW_none, errW_some] <;> rfl), by repeat (first | (with_reducible first | exact HB.out | apply below_alloc | apply pw_below_drewN | apply below_drew1 | refine below_set ?_ GE142.out) | exact HB.out)⟩
      · replace c11 := Bool.eq_false_iff.mpr c11
        subst c11
        have H1 : ((phase_Enter.f 0).bind fun bt145 => (crossbucklaw20_PhaseExits.l0 kj4 l1 t143 0 0 a0_0 a0_1 a0_2 a0_3 a0_4 a0_5 a0_6 a0_7 a0_8 a0_9 bt145.1 bt145.2)) = some r := by rw [if_neg (show ¬ (false = true) by decide)] at H; exact H
        clear H
        have H := H1
        clear H1
        replace H := Option.bind_eq_some_iff.mp H
        obtain ⟨⟨t145, t146⟩, A120, H⟩ := H
        replace H : (crossbucklaw20_PhaseExits.l0 kj4 l1 t143 0 0 a0_0 a0_1 a0_2 a0_3 a0_4 a0_5 a0_6 a0_7 a0_8 a0_9 t145 t146) = some r := H
        have A12 := Aside0.mk A120
        clear A120
        have H' := Aside0.mk H
        clear H
        go_wp2_with (first | ((with_reducible refine gate_callee (f := 11) rfl ?_); refine goesL_ (some 23) rfl rfl Try.func11 (by kernel_rfl) rfl #[.int .i64 0] rfl (by (try simp only [List.map_toArray, List.map_cons, List.map_nil]); first | done | rfl | (simp only [List.length_drop, List.length_take]; rfl)) ?_; (with_reducible refine (phase_Enter.calls 0 t145 t146 _ A12.out).mono ?_); rintro e w13 ⟨rfl, hb⟩; refine ⟨_, rfl, ?_⟩; have n0_ := Aside0.mk (blk_below (g := gb142) (o := .cells #[.int .i64 a0_0, .int .i64 a0_1, .int .i64 a0_2, .int .i64 a0_3, .int .i64 a0_4, .int .i64 a0_5, .int .i64 a0_6, .int .i64 a0_7, .int .i64 a0_8, .int .i64 a0_9] 23 (0, 0)) (by (with_reducible repeat (first | refine blk_drewN ?_ _ | refine blk_drew ?_ | refine blk_alloc ?_ _)); exact BK142.out) hb); have n1_ := Aside0.mk (below_step (by repeat (first | (with_reducible first | exact HB.out | apply below_alloc | apply pw_below_drewN | apply below_drew1 | refine below_set ?_ GE142.out) | exact HB.out)) hb); clear BK142; clear HB; have BK142 := n0_; have HB := n1_; clear n0_ n1_; (try clear hb); (try clear hb2); (try clear hk); (try clear hi)) | ((with_reducible refine gate_dst (N := 7) rfl ?_); (try (refine gate_guard (by rfl) ?_; dsimp only)); refine box_event ?hg (N := 7) ?hd (cs := #[.int .i64 0, .int .i64 0]) (t := 28) ?hr ?_; (case hd => rfl); (case hg => rfl); (case hr => first | (go_simp; done) | (go_simp; rfl)); intro gb147 hg w14 hbox hb; have n0_ := Aside0.mk (blk_below (g := gb142) (o := .cells #[.int .i64 a0_0, .int .i64 a0_1, .int .i64 a0_2, .int .i64 a0_3, .int .i64 a0_4, .int .i64 a0_5, .int .i64 a0_6, .int .i64 a0_7, .int .i64 a0_8, .int .i64 a0_9] 23 (0, 0)) (by (with_reducible repeat (first | refine blk_drewN ?_ _ | refine blk_drew ?_ | refine blk_alloc ?_ _)); exact BK142.out) hb); have n1_ := Aside0.mk (below_step (by repeat (first | (with_reducible first | exact HB.out | apply below_alloc | apply pw_below_drewN | apply below_drew1 | refine below_set ?_ GE142.out) | exact HB.out)) hb); have n2_ := Aside0.mk (hbox); have n3_ := Aside0.mk ((by rw [hg]; exact (below_size (by repeat (first | (with_reducible first | exact HB.out | apply below_alloc | apply pw_below_drewN | apply below_drew1 | refine below_set ?_ GE142.out) | exact HB.out))) : w.heap.size ≤ gb147)); have n4_ := Aside0.mk ((by rw [hg]; exact (below_size (by repeat (first | (with_reducible first | exact HB.out | apply below_alloc | apply pw_below_drewN | apply below_drew1 | refine below_set ?_ GE142.out) | exact HB.out))) : w.heap.size ≤ gb147)); have n5_ := Aside0.mk ((by rw [hg]; exact Nat.ne_of_lt (blk_lt (g := gb142) (o := .cells #[.int .i64 a0_0, .int .i64 a0_1, .int .i64 a0_2, .int .i64 a0_3, .int .i64 a0_4, .int .i64 a0_5, .int .i64 a0_6, .int .i64 a0_7, .int .i64 a0_8, .int .i64 a0_9] 23 (0, 0)) (by (with_reducible repeat (first | refine blk_drewN ?_ _ | refine blk_drew ?_ | refine blk_alloc ?_ _)); exact BK142.out)) : gb142 ≠ gb147)); have n6_ := Aside0.mk ((by rw [hg]; exact Nat.ne_of_gt (blk_lt (g := gb142) (o := .cells #[.int .i64 a0_0, .int .i64 a0_1, .int .i64 a0_2, .int .i64 a0_3, .int .i64 a0_4, .int .i64 a0_5, .int .i64 a0_6, .int .i64 a0_7, .int .i64 a0_8, .int .i64 a0_9] 23 (0, 0)) (by (with_reducible repeat (first | refine blk_drewN ?_ _ | refine blk_drew ?_ | refine blk_alloc ?_ _)); exact BK142.out)) : gb147 ≠ gb142)); clear BK142; clear HB; have BK142 := n0_; have HB := n1_; have BK147 := n2_; have GW147 := n3_; have GE147 := n4_; have NB142_147 := n5_; have NB147_142 := n6_; clear n0_ n1_ n2_ n3_ n4_ n5_ n6_; clear hb hbox hg; have hnb15 := NB147_142.out; have hnc15 := NB142_147.out; have hcz16_0 : w14.cell? ⟨gb147, 0, none⟩ = some (.int .i64 0) := (blk_cell BK147.out 0).trans rfl; have hcz16_1 : w14.cell? ⟨gb147, 1, none⟩ = some (.int .i64 0) := (blk_cell BK147.out 1).trans rfl; have hfz16_0 := blk_frozen BK147.out 0; have hfz16_1 := blk_frozen BK147.out 1))
        go_loopg [8, 9] kj4 (fun kq v8 v9 w' => ∃ (x8_2 : Int) (x9_2 : Int) (x148000_2 : Int) (x148001_2 : Int), v8 = .int .i64 x8_2 ∧ v9 = .int .i64 x9_2 ∧ Aside0 (crossbucklaw20_PhaseExits.l0 kq l1 t143 x8_2 x9_2 a0_0 a0_1 a0_2 a0_3 a0_4 a0_5 a0_6 a0_7 a0_8 a0_9 x148000_2 x148001_2 = some r) ∧ Aside0 (kq ≤ kj4) ∧ Aside0 (w'.heap[gb142]? = some (.cells #[.int .i64 a0_0, .int .i64 a0_1, .int .i64 a0_2, .int .i64 a0_3, .int .i64 a0_4, .int .i64 a0_5, .int .i64 a0_6, .int .i64 a0_7, .int .i64 a0_8, .int .i64 a0_9] 23 (0, 0))) ∧ Aside0 (w'.heap[gb147]? = some (.cells #[.int .i64 x148000_2, .int .i64 x148001_2] 28 (0, 0))) ∧ Aside0 (Below w.heap.size w w'))
        case atStart => exact ⟨(0), (0), (t145), (t146), (by first | rfl | (simp; done) | (simp [*]; done)), (by first | rfl | (simp; done) | (simp [*]; done)), H', ⟨Nat.le_refl _⟩, ⟨by (with_reducible repeat (first | refine blk_drewN ?_ _ | refine blk_drew ?_ | refine blk_alloc ?_ _)); refine blk_far ?_ NB142_147.out _; (with_reducible repeat (first | refine blk_drewN ?_ _ | refine blk_drew ?_ | refine blk_alloc ?_ _)); refine blk_far ?_ NB142_147.out _; (with_reducible repeat (first | refine blk_drewN ?_ _ | refine blk_drew ?_ | refine blk_alloc ?_ _)); exact BK142.out⟩, ⟨by (with_reducible repeat (first | refine blk_drewN ?_ _ | refine blk_drew ?_ | refine blk_alloc ?_ _)); refine blk_put (cs := #[.int .i64 t145, .int .i64 0]) ?_ 1 _ rfl; (with_reducible repeat (first | refine blk_drewN ?_ _ | refine blk_drew ?_ | refine blk_alloc ?_ _)); refine blk_put (cs := #[.int .i64 0, .int .i64 0]) ?_ 0 _ rfl; (with_reducible repeat (first | refine blk_drewN ?_ _ | refine blk_drew ?_ | refine blk_alloc ?_ _)); exact BK147.out⟩, ⟨by repeat (first | (with_reducible first | exact HB.out | apply below_alloc | apply pw_below_drewN | apply below_drew1 | refine below_set ?_ GE142.out | refine below_set ?_ GE147.out) | exact HB.out)⟩⟩
        case round =>
          clear H'
          try clear c1
          try clear p2
          try clear c4
          try clear c9
          try clear c10
          try clear c11
          try clear c15
          try clear hcz16_0
          try clear hcz16_1
          try clear hcz8_0
          try clear hcz8_1
          try clear hcz8_2
          try clear hcz8_3
          try clear hcz8_4
          try clear hcz8_5
          try clear hcz8_6
          try clear hcz8_7
          try clear hcz8_8
          try clear hcz8_9
          try clear hfz16_0
          try clear hfz16_1
          try clear hfz8_0
          try clear hfz8_1
          try clear hfz8_2
          try clear hfz8_3
          try clear hfz8_4
          try clear hfz8_5
          try clear hfz8_6
          try clear hfz8_7
          try clear hfz8_8
          try clear hfz8_9
          try clear p2
          obtain ⟨x8_2, x9_2, x148000_2, x148001_2, rfl, rfl, HA, HK2, BK142, BK147, HB⟩ := hrel
          cases gk with
          | zero => exact absurd HA.out (by simp [crossbucklaw20_PhaseExits.l0])
          | succ k2 =>
            have H := HA.out
            clear HA
            simp only [crossbucklaw20_PhaseExits.l0] at H
            by_cases c17 : x9_2 < (l1.length : Int)
            · rw [if_pos c17] at H
              have c17b0 : decide (x9_2 < (l1.length : Int)) = true := decide_eq_true c17
              clear c17
              replace H := Option.bind_eq_some_iff.mp H
              obtain ⟨⟨t148, t149, t150, t151, t152⟩, A180, H⟩ := H
              replace H : (if 0 ≤ x9_2 then ((phase_Step.f k2 a0_0 a0_1 a0_2 a0_3 a0_4 a0_5 a0_6 a0_7 a0_8 a0_9 x148000_2 x148001_2 ((rd_T36 l1 x9_2).f0.f0) ((rd_T36 l1 x9_2).f0.f1) ((rd_T36 l1 x9_2).f1.f0) ((rd_T36 l1 x9_2).f1.f1) ((rd_T36 l1 x9_2).f1.f2) ((rd_T36 l1 x9_2).f1.f3) ((rd_T36 l1 x9_2).f2)).bind fun bt157 => ((phase_Lights.f bt157.1 bt157.2).bind fun bt159 => (if bt159.2.2.2.2 = true then (if t152 = true then (crossbucklaw20_PhaseExits.j2 k2 l1 t143 x8_2 x9_2 false a0_0 a0_1 a0_2 a0_3 a0_4 a0_5 a0_6 a0_7 a0_8 a0_9 bt157.1 bt157.2 bt159.1 bt159.2.1 bt159.2.2.1 bt159.2.2.2.1 bt159.2.2.2.2) else (if x8_2 < a0_2 then (crossbucklaw20_PhaseExits.j2 k2 l1 t143 x8_2 x9_2 true a0_0 a0_1 a0_2 a0_3 a0_4 a0_5 a0_6 a0_7 a0_8 a0_9 bt157.1 bt157.2 bt159.1 bt159.2.1 bt159.2.2.1 bt159.2.2.2.1 bt159.2.2.2.2) else (if (rd_T36 l1 x9_2).f2 = true then (crossbucklaw20_PhaseExits.j2 k2 l1 t143 x8_2 x9_2 (decide (x8_2 < (wrap64 (a0_2 + a0_6)))) a0_0 a0_1 a0_2 a0_3 a0_4 a0_5 a0_6 a0_7 a0_8 a0_9 bt157.1 bt157.2 bt159.1 bt159.2.1 bt159.2.2.1 bt159.2.2.2.1 bt159.2.2.2.2) else (crossbucklaw20_PhaseExits.j2 k2 l1 t143 x8_2 x9_2 false a0_0 a0_1 a0_2 a0_3 a0_4 a0_5 a0_6 a0_7 a0_8 a0_9 bt157.1 bt157.2 bt159.1 bt159.2.1 bt159.2.2.1 bt159.2.2.2.1 bt159.2.2.2.2)))) else (crossbucklaw20_PhaseExits.j2 k2 l1 t143 x8_2 x9_2 false a0_0 a0_1 a0_2 a0_3 a0_4 a0_5 a0_6 a0_7 a0_8 a0_9 bt157.1 bt157.2 bt159.1 bt159.2.1 bt159.2.2.1 bt159.2.2.2.1 bt159.2.2.2.2)))) else (none)) = some r := H
              have A18 := Aside0.mk A180
              clear A180
              by_cases c19 : 0 ≤ x9_2
              · rw [if_pos c19] at H
                have c19b0 : decide (0 ≤ x9_2) = true := decide_eq_true c19
                clear c19
                replace H := Option.bind_eq_some_iff.mp H
                obtain ⟨⟨t157, t158⟩, A200, H⟩ := H
                replace H : ((phase_Lights.f t157 t158).bind fun bt159 => (if bt159.2.2.2.2 = true then (if t152 = true then (crossbucklaw20_PhaseExits.j2 k2 l1 t143 x8_2 x9_2 false a0_0 a0_1 a0_2 a0_3 a0_4 a0_5 a0_6 a0_7 a0_8 a0_9 t157 t158 bt159.1 bt159.2.1 bt159.2.2.1 bt159.2.2.2.1 bt159.2.2.2.2) else (if x8_2 < a0_2 then (crossbucklaw20_PhaseExits.j2 k2 l1 t143 x8_2 x9_2 true a0_0 a0_1 a0_2 a0_3 a0_4 a0_5 a0_6 a0_7 a0_8 a0_9 t157 t158 bt159.1 bt159.2.1 bt159.2.2.1 bt159.2.2.2.1 bt159.2.2.2.2) else (if (rd_T36 l1 x9_2).f2 = true then (crossbucklaw20_PhaseExits.j2 k2 l1 t143 x8_2 x9_2 (decide (x8_2 < (wrap64 (a0_2 + a0_6)))) a0_0 a0_1 a0_2 a0_3 a0_4 a0_5 a0_6 a0_7 a0_8 a0_9 t157 t158 bt159.1 bt159.2.1 bt159.2.2.1 bt159.2.2.2.1 bt159.2.2.2.2) else (crossbucklaw20_PhaseExits.j2 k2 l1 t143 x8_2 x9_2 false a0_0 a0_1 a0_2 a0_3 a0_4 a0_5 a0_6 a0_7 a0_8 a0_9 t157 t158 bt159.1 bt159.2.1 bt159.2.2.1 bt159.2.2.2.1 bt159.2.2.2.2)))) else (crossbucklaw20_PhaseExits.j2 k2 l1 t143 x8_2 x9_2 false a0_0 a0_1 a0_2 a0_3 a0_4 a0_5 a0_6 a0_7 a0_8 a0_9 t157 t158 bt159.1 bt159.2.1 bt159.2.2.1 bt159.2.2.2.1 bt159.2.2.2.2))) = some r := H
                have A20 := Aside0.mk A200
                clear A200
                replace H := Option.bind_eq_some_iff.mp H
                obtain ⟨⟨t159, t160, t161, t162, t163⟩, A210, H⟩ := H
                replace H : (if t163 = true then (if t152 = true then (crossbucklaw20_PhaseExits.j2 k2 l1 t143 x8_2 x9_2 false a0_0 a0_1 a0_2 a0_3 a0_4 a0_5 a0_6 a0_7 a0_8 a0_9 t157 t158 t159 t160 t161 t162 t163) else (if x8_2 < a0_2 then (crossbucklaw20_PhaseExits.j2 k2 l1 t143 x8_2 x9_2 true a0_0 a0_1 a0_2 a0_3 a0_4 a0_5 a0_6 a0_7 a0_8 a0_9 t157 t158 t159 t160 t161 t162 t163) else (if (rd_T36 l1 x9_2).f2 = true then (crossbucklaw20_PhaseExits.j2 k2 l1 t143 x8_2 x9_2 (decide (x8_2 < (wrap64 (a0_2 + a0_6)))) a0_0 a0_1 a0_2 a0_3 a0_4 a0_5 a0_6 a0_7 a0_8 a0_9 t157 t158 t159 t160 t161 t162 t163) else (crossbucklaw20_PhaseExits.j2 k2 l1 t143 x8_2 x9_2 false a0_0 a0_1 a0_2 a0_3 a0_4 a0_5 a0_6 a0_7 a0_8 a0_9 t157 t158 t159 t160 t161 t162 t163)))) else (crossbucklaw20_PhaseExits.j2 k2 l1 t143 x8_2 x9_2 false a0_0 a0_1 a0_2 a0_3 a0_4 a0_5 a0_6 a0_7 a0_8 a0_9 t157 t158 t159 t160 t161 t162 t163)) = some r := H
                have A21 := Aside0.mk A210
                clear A210
                have HC22 := Aside0.mk H
                clear H
                have hnb23 := NB147_142.out
                have hnc23 := NB142_147.out
                have hcz24_0 : wr.cell? ⟨gb147, 0, none⟩ = some (.int .i64 x148000_2) := (blk_cell BK147.out 0).trans rfl
                have hcz24_1 : wr.cell? ⟨gb147, 1, none⟩ = some (.int .i64 x148001_2) := (blk_cell BK147.out 1).trans rfl
                have hfz24_0 := blk_frozen BK147.out 0
                have hfz24_1 := blk_frozen BK147.out 1
                try go_wp2_with (first | ((with_reducible refine gate_callee (f := 13) rfl ?_); refine goesL_ (some 31) rfl rfl Try.func13 (by kernel_rfl) rfl #[.agg #[.int .i64 x148000_2, .int .i64 x148001_2]] rfl (by (try simp only [List.map_toArray, List.map_cons, List.map_nil]); first | done | rfl | (simp only [List.length_drop, List.length_take]; rfl)) ?_; (with_reducible refine (phase_Lights.calls x148000_2 x148001_2 t148 t149 t150 t151 t152 _ A18.out).mono ?_); rintro e w25 ⟨rfl, hb⟩; refine ⟨_, rfl, ?_⟩; have n0_ := Aside0.mk (blk_below (g := gb142) (o := .cells #[.int .i64 a0_0, .int .i64 a0_1, .int .i64 a0_2, .int .i64 a0_3, .int .i64 a0_4, .int .i64 a0_5, .int .i64 a0_6, .int .i64 a0_7, .int .i64 a0_8, .int .i64 a0_9] 23 (0, 0)) (by (with_reducible repeat (first | refine blk_drewN ?_ _ | refine blk_drew ?_ | refine blk_alloc ?_ _)); exact BK142.out) hb); have n1_ := Aside0.mk (blk_below (g := gb147) (o := .cells #[.int .i64 x148000_2, .int .i64 x148001_2] 28 (0, 0)) (by (with_reducible repeat (first | refine blk_drewN ?_ _ | refine blk_drew ?_ | refine blk_alloc ?_ _)); exact BK147.out) hb); have n2_ := Aside0.mk (below_step (by repeat (first | (with_reducible first | exact HB.out | apply below_alloc | apply pw_below_drewN | apply below_drew1 | refine below_set ?_ GE142.out | refine below_set ?_ GE147.out) | exact HB.out)) hb); clear BK142; clear BK147; clear HB; have BK142 := n0_; have BK147 := n1_; have HB := n2_; clear n0_ n1_ n2_; (try clear hb); (try clear hb2); (try clear hk); (try clear hi)) | ((with_reducible refine gate_dst (N := 10) rfl ?_); (try (refine gate_guard (by rfl) ?_; dsimp only)); refine box_event ?hg (N := 10) ?hd (cs := #[.bool false, .bool false, .bool false, .bool false, .bool false]) (t := 38) ?hr ?_; (case hd => rfl); (case hg => rfl); (case hr => first | (go_simp; done) | (go_simp; rfl)); intro gb153 hg w26 hbox hb; have n0_ := Aside0.mk (blk_below (g := gb142) (o := .cells #[.int .i64 a0_0, .int .i64 a0_1, .int .i64 a0_2, .int .i64 a0_3, .int .i64 a0_4, .int .i64 a0_5, .int .i64 a0_6, .int .i64 a0_7, .int .i64 a0_8, .int .i64 a0_9] 23 (0, 0)) (by (with_reducible repeat (first | refine blk_drewN ?_ _ | refine blk_drew ?_ | refine blk_alloc ?_ _)); exact BK142.out) hb); have n1_ := Aside0.mk (blk_below (g := gb147) (o := .cells #[.int .i64 x148000_2, .int .i64 x148001_2] 28 (0, 0)) (by (with_reducible repeat (first | refine blk_drewN ?_ _ | refine blk_drew ?_ | refine blk_alloc ?_ _)); exact BK147.out) hb); have n2_ := Aside0.mk (below_step (by repeat (first | (with_reducible first | exact HB.out | apply below_alloc | apply pw_below_drewN | apply below_drew1 | refine below_set ?_ GE142.out | refine below_set ?_ GE147.out) | exact HB.out)) hb); have n3_ := Aside0.mk (hbox); have n4_ := Aside0.mk ((by rw [hg]; exact (below_size (by repeat (first | (with_reducible first | exact HB.out | apply below_alloc | apply pw_below_drewN | apply below_drew1 | refine below_set ?_ GE142.out | refine below_set ?_ GE147.out) | exact HB.out))) : w.heap.size ≤ gb153)); have n5_ := Aside0.mk ((by rw [hg]; exact (below_size (by repeat (first | (with_reducible first | exact HB.out | apply below_alloc | apply pw_below_drewN | apply below_drew1 | refine below_set ?_ GE142.out | refine below_set ?_ GE147.out) | exact HB.out))) : w.heap.size ≤ gb153)); have n6_ := Aside0.mk ((by rw [hg]; exact Nat.ne_of_lt (blk_lt (g := gb142) (o := .cells #[.int .i64 a0_0, .int .i64 a0_1, .int .i64 a0_2, .int .i64 a0_3, .int .i64 a0_4, .int .i64 a0_5, .int .i64 a0_6, .int .i64 a0_7, .int .i64 a0_8, .int .i64 a0_9] 23 (0, 0)) (by (with_reducible repeat (first | refine blk_drewN ?_ _ | refine blk_drew ?_ | refine blk_alloc ?_ _)); exact BK142.out)) : gb142 ≠ gb153)); have n7_ := Aside0.mk ((by rw [hg]; exact Nat.ne_of_gt (blk_lt (g := gb142) (o := .cells #[.int .i64 a0_0, .int .i64 a0_1, .int .i64 a0_2, .int .i64 a0_3, .int .i64 a0_4, .int .i64 a0_5, .int .i64 a0_6, .int .i64 a0_7, .int .i64 a0_8, .int .i64 a0_9] 23 (0, 0)) (by (with_reducible repeat (first | refine blk_drewN ?_ _ | refine blk_drew ?_ | refine blk_alloc ?_ _)); exact BK142.out)) : gb153 ≠ gb142)); have n8_ := Aside0.mk ((by rw [hg]; exact Nat.ne_of_lt (blk_lt (g := gb147) (o := .cells #[.int .i64 x148000_2, .int .i64 x148001_2] 28 (0, 0)) (by (with_reducible repeat (first | refine blk_drewN ?_ _ | refine blk_drew ?_ | refine blk_alloc ?_ _)); exact BK147.out)) : gb147 ≠ gb153)); have n9_ := Aside0.mk ((by rw [hg]; exact Nat.ne_of_gt (blk_lt (g := gb147) (o := .cells #[.int .i64 x148000_2, .int .i64 x148001_2] 28 (0, 0)) (by (with_reducible repeat (first | refine blk_drewN ?_ _ | refine blk_drew ?_ | refine blk_alloc ?_ _)); exact BK147.out)) : gb153 ≠ gb147)); clear BK142; clear BK147; clear HB; have BK142 := n0_; have BK147 := n1_; have HB := n2_; have BK153 := n3_; have GW153 := n4_; have GE153 := n5_; have NB142_153 := n6_; have NB153_142 := n7_; have NB147_153 := n8_; have NB153_147 := n9_; clear n0_ n1_ n2_ n3_ n4_ n5_ n6_ n7_ n8_ n9_; clear hb hbox hg; have hnb27 := NB153_142.out; have hnc27 := NB142_153.out; have hnb28 := NB153_147.out; have hnc28 := NB147_153.out; have hcz29_0 : w26.cell? ⟨gb153, 0, none⟩ = some (.bool false) := (blk_cell BK153.out 0).trans rfl; have hcz29_1 : w26.cell? ⟨gb153, 1, none⟩ = some (.bool false) := (blk_cell BK153.out 1).trans rfl; have hcz29_2 : w26.cell? ⟨gb153, 2, none⟩ = some (.bool false) := (blk_cell BK153.out 2).trans rfl; have hcz29_3 : w26.cell? ⟨gb153, 3, none⟩ = some (.bool false) := (blk_cell BK153.out 3).trans rfl; have hcz29_4 : w26.cell? ⟨gb153, 4, none⟩ = some (.bool false) := (blk_cell BK153.out 4).trans rfl; have hfz29_0 := blk_frozen BK153.out 0; have hfz29_1 := blk_frozen BK153.out 1; have hfz29_2 := blk_frozen BK153.out 2; have hfz29_3 := blk_frozen BK153.out 3; have hfz29_4 := blk_frozen BK153.out 4))
                have n0_ : Aside0 ((((((w26.setCell ⟨gb153, 0, none⟩ (.bool t148)).setCell ⟨gb153, 1, none⟩ (.bool t149)).setCell ⟨gb153, 2, none⟩ (.bool t150)).setCell ⟨gb153, 3, none⟩ (.bool t151)).setCell ⟨gb153, 4, none⟩ (.bool t152)).heap[gb142]? = some (.cells #[.int .i64 a0_0, .int .i64 a0_1, .int .i64 a0_2, .int .i64 a0_3, .int .i64 a0_4, .int .i64 a0_5, .int .i64 a0_6, .int .i64 a0_7, .int .i64 a0_8, .int .i64 a0_9] 23 (0, 0))) := ⟨by (with_reducible repeat (first | refine blk_drewN ?_ _ | refine blk_drew ?_ | refine blk_alloc ?_ _)); refine blk_far ?_ NB142_153.out _; (with_reducible repeat (first | refine blk_drewN ?_ _ | refine blk_drew ?_ | refine blk_alloc ?_ _)); refine blk_far ?_ NB142_153.out _; (with_reducible repeat (first | refine blk_drewN ?_ _ | refine blk_drew ?_ | refine blk_alloc ?_ _)); refine blk_far ?_ NB142_153.out _; (with_reducible repeat (first | refine blk_drewN ?_ _ | refine blk_drew ?_ | refine blk_alloc ?_ _)); refine blk_far ?_ NB142_153.out _; (with_reducible repeat (first | refine blk_drewN ?_ _ | refine blk_drew ?_ | refine blk_alloc ?_ _)); refine blk_far ?_ NB142_153.out _; (with_reducible repeat (first | refine blk_drewN ?_ _ | refine blk_drew ?_ | refine blk_alloc ?_ _)); exact BK142.out⟩
                have n1_ : Aside0 ((((((w26.setCell ⟨gb153, 0, none⟩ (.bool t148)).setCell ⟨gb153, 1, none⟩ (.bool t149)).setCell ⟨gb153, 2, none⟩ (.bool t150)).setCell ⟨gb153, 3, none⟩ (.bool t151)).setCell ⟨gb153, 4, none⟩ (.bool t152)).heap[gb147]? = some (.cells #[.int .i64 x148000_2, .int .i64 x148001_2] 28 (0, 0))) := ⟨by (with_reducible repeat (first | refine blk_drewN ?_ _ | refine blk_drew ?_ | refine blk_alloc ?_ _)); refine blk_far ?_ NB147_153.out _; (with_reducible repeat (first | refine blk_drewN ?_ _ | refine blk_drew ?_ | refine blk_alloc ?_ _)); refine blk_far ?_ NB147_153.out _; (with_reducible repeat (first | refine blk_drewN ?_ _ | refine blk_drew ?_ | refine blk_alloc ?_ _)); refine blk_far ?_ NB147_153.out _; (with_reducible repeat (first | refine blk_drewN ?_ _ | refine blk_drew ?_ | refine blk_alloc ?_ _)); refine blk_far ?_ NB147_153.out _; (with_reducible repeat (first | refine blk_drewN ?_ _ | refine blk_drew ?_ | refine blk_alloc ?_ _)); refine blk_far ?_ NB147_153.out _; (with_reducible repeat (first | refine blk_drewN ?_ _ | refine blk_drew ?_ | refine blk_alloc ?_ _)); exact BK147.out⟩
                have n2_ : Aside0 ((((((w26.setCell ⟨gb153, 0, none⟩ (.bool t148)).setCell ⟨gb153, 1, none⟩ (.bool t149)).setCell ⟨gb153, 2, none⟩ (.bool t150)).setCell ⟨gb153, 3, none⟩ (.bool t151)).setCell ⟨gb153, 4, none⟩ (.bool t152)).heap[gb153]? = some (.cells #[.bool t148, .bool t149, .bool t150, .bool t151, .bool t152] 38 (0, 0))) := ⟨by (with_reducible repeat (first | refine blk_drewN ?_ _ | refine blk_drew ?_ | refine blk_alloc ?_ _)); refine blk_put (cs := #[.bool t148, .bool t149, .bool t150, .bool t151, .bool false]) ?_ 4 _ rfl; (with_reducible repeat (first | refine blk_drewN ?_ _ | refine blk_drew ?_ | refine blk_alloc ?_ _)); refine blk_put (cs := #[.bool t148, .bool t149, .bool t150, .bool false, .bool false]) ?_ 3 _ rfl; (with_reducible repeat (first | refine blk_drewN ?_ _ | refine blk_drew ?_ | refine blk_alloc ?_ _)); refine blk_put (cs := #[.bool t148, .bool t149, .bool false, .bool false, .bool false]) ?_ 2 _ rfl; (with_reducible repeat (first | refine blk_drewN ?_ _ | refine blk_drew ?_ | refine blk_alloc ?_ _)); refine blk_put (cs := #[.bool t148, .bool false, .bool false, .bool false, .bool false]) ?_ 1 _ rfl; (with_reducible repeat (first | refine blk_drewN ?_ _ | refine blk_drew ?_ | refine blk_alloc ?_ _)); refine blk_put (cs := #[.bool false, .bool false, .bool false, .bool false, .bool false]) ?_ 0 _ rfl; (with_reducible repeat (first | refine blk_drewN ?_ _ | refine blk_drew ?_ | refine blk_alloc ?_ _)); exact BK153.out⟩
                have n3_ : Aside0 (Below w.heap.size w (((((w26.setCell ⟨gb153, 0, none⟩ (.bool t148)).setCell ⟨gb153, 1, none⟩ (.bool t149)).setCell ⟨gb153, 2, none⟩ (.bool t150)).setCell ⟨gb153, 3, none⟩ (.bool t151)).setCell ⟨gb153, 4, none⟩ (.bool t152))) := ⟨by repeat (first | (with_reducible first | exact HB.out | apply below_alloc | apply pw_below_drewN | apply below_drew1 | refine below_set ?_ GE142.out | refine below_set ?_ GE147.out | refine below_set ?_ GE153.out) | exact HB.out)⟩
                (try clear BK142)
                (try clear BK147)
                (try clear BK153)
                (try clear HB)
                generalize (((((w26.setCell ⟨gb153, 0, none⟩ (.bool t148)).setCell ⟨gb153, 1, none⟩ (.bool t149)).setCell ⟨gb153, 2, none⟩ (.bool t150)).setCell ⟨gb153, 3, none⟩ (.bool t151)).setCell ⟨gb153, 4, none⟩ (.bool t152)) = w30 at n0_ n1_ n2_ n3_ ⊢
                have BK142 := n0_
                have BK147 := n1_
                have BK153 := n2_
                have HB := n3_
                clear n0_ n1_ n2_ n3_
                have n0_ := Aside0.mk (blk_drew BK142.out)
                have n1_ := Aside0.mk (blk_drew BK147.out)
                have n2_ := Aside0.mk (blk_drew BK153.out)
                have n3_ := Aside0.mk (below_drew1 HB.out)
                clear BK142
                clear BK147
                clear BK153
                clear HB
                have BK142 := n0_
                have BK147 := n1_
                have BK153 := n2_
                have HB := n3_
                clear n0_ n1_ n2_ n3_
                have p154 : 0 ≤ (x9_2 : Int) := of_decide_eq_true (by first | (with_reducible assumption) | assumption)
                have q154 : x9_2 < (l1.length : Int) := of_decide_eq_true (by first | (with_reducible assumption) | assumption)
                obtain ⟨ad154, e154, hx154_0, hx154_1, hx154_2, hx154_3, hx154_4, hx154_5, hx154_6⟩ := at_T36 HR1.out x9_2 p154 q154
                have hw154_6 := hx154_6
                have hw154_5 := hx154_5
                have hw154_4 := hx154_4
                have hw154_3 := hx154_3
                have hw154_2 := hx154_2
                have hw154_1 := hx154_1
                have hw154_0 := hx154_0
                cases e154
                replace hx154_0 := (HB.out.cell (World.block_lt_of_cell? w _ hx154_0)).trans hx154_0
                replace hx154_1 := (HB.out.cell (World.block_lt_of_cell? w _ hx154_1)).trans hx154_1
                replace hx154_2 := (HB.out.cell (World.block_lt_of_cell? w _ hx154_2)).trans hx154_2
                replace hx154_3 := (HB.out.cell (World.block_lt_of_cell? w _ hx154_3)).trans hx154_3
                replace hx154_4 := (HB.out.cell (World.block_lt_of_cell? w _ hx154_4)).trans hx154_4
                replace hx154_5 := (HB.out.cell (World.block_lt_of_cell? w _ hx154_5)).trans hx154_5
                replace hx154_6 := (HB.out.cell (World.block_lt_of_cell? w _ hx154_6)).trans hx154_6
                replace p154 := eq_true p154
                replace q154 := eq_true q154
                have p155 : 0 ≤ (x9_2 : Int) := of_decide_eq_true (by first | (with_reducible assumption) | assumption)
                have q155 : x9_2 < (l1.length : Int) := of_decide_eq_true (by first | (with_reducible assumption) | assumption)
                obtain ⟨ad155, e155, hx155_0, hx155_1, hx155_2, hx155_3, hx155_4, hx155_5, hx155_6⟩ := at_T36 HR1.out x9_2 p155 q155
                have hw155_6 := hx155_6
                have hw155_5 := hx155_5
                have hw155_4 := hx155_4
                have hw155_3 := hx155_3
                have hw155_2 := hx155_2
                have hw155_1 := hx155_1
                have hw155_0 := hx155_0
                obtain rfl : ad154 = ad155 := (by injection e155)
                replace hx155_0 := (HB.out.cell (World.block_lt_of_cell? w _ hx155_0)).trans hx155_0
                replace hx155_1 := (HB.out.cell (World.block_lt_of_cell? w _ hx155_1)).trans hx155_1
                replace hx155_2 := (HB.out.cell (World.block_lt_of_cell? w _ hx155_2)).trans hx155_2
                replace hx155_3 := (HB.out.cell (World.block_lt_of_cell? w _ hx155_3)).trans hx155_3
                replace hx155_4 := (HB.out.cell (World.block_lt_of_cell? w _ hx155_4)).trans hx155_4
                replace hx155_5 := (HB.out.cell (World.block_lt_of_cell? w _ hx155_5)).trans hx155_5
                replace hx155_6 := (HB.out.cell (World.block_lt_of_cell? w _ hx155_6)).trans hx155_6
                replace p155 := eq_true p155
                replace q155 := eq_true q155
                have p156 : 0 ≤ (x9_2 : Int) := of_decide_eq_true (by first | (with_reducible assumption) | assumption)
                have q156 : x9_2 < (l1.length : Int) := of_decide_eq_true (by first | (with_reducible assumption) | assumption)
                obtain ⟨ad156, e156, hx156_0, hx156_1, hx156_2, hx156_3, hx156_4, hx156_5, hx156_6⟩ := at_T36 HR1.out x9_2 p156 q156
                have hw156_6 := hx156_6
                have hw156_5 := hx156_5
                have hw156_4 := hx156_4
                have hw156_3 := hx156_3
                have hw156_2 := hx156_2
                have hw156_1 := hx156_1
                have hw156_0 := hx156_0
                obtain rfl : ad154 = ad156 := (by injection e156)
                replace hx156_0 := (HB.out.cell (World.block_lt_of_cell? w _ hx156_0)).trans hx156_0
                replace hx156_1 := (HB.out.cell (World.block_lt_of_cell? w _ hx156_1)).trans hx156_1
                replace hx156_2 := (HB.out.cell (World.block_lt_of_cell? w _ hx156_2)).trans hx156_2
                replace hx156_3 := (HB.out.cell (World.block_lt_of_cell? w _ hx156_3)).trans hx156_3
                replace hx156_4 := (HB.out.cell (World.block_lt_of_cell? w _ hx156_4)).trans hx156_4
                replace hx156_5 := (HB.out.cell (World.block_lt_of_cell? w _ hx156_5)).trans hx156_5
                replace hx156_6 := (HB.out.cell (World.block_lt_of_cell? w _ hx156_6)).trans hx156_6
                replace p156 := eq_true p156
                replace q156 := eq_true q156
                refine start_ (n := 19) (S := fun w' => w'.cell? ⟨gb142, 0, none⟩ = some (.int .i64 a0_0) ∧ w'.cell? ⟨gb142, 1, none⟩ = some (.int .i64 a0_1) ∧ w'.cell? ⟨gb142, 2, none⟩ = some (.int .i64 a0_2) ∧ w'.cell? ⟨gb142, 3, none⟩ = some (.int .i64 a0_3) ∧ w'.cell? ⟨gb142, 4, none⟩ = some (.int .i64 a0_4) ∧ w'.cell? ⟨gb142, 5, none⟩ = some (.int .i64 a0_5) ∧ w'.cell? ⟨gb142, 6, none⟩ = some (.int .i64 a0_6) ∧ w'.cell? ⟨gb142, 7, none⟩ = some (.int .i64 a0_7) ∧ w'.cell? ⟨gb142, 8, none⟩ = some (.int .i64 a0_8) ∧ w'.cell? ⟨gb142, 9, none⟩ = some (.int .i64 a0_9) ∧ w'.cell? ⟨gb147, 0, none⟩ = some (.int .i64 x148000_2) ∧ w'.cell? ⟨gb147, 1, none⟩ = some (.int .i64 x148001_2) ∧ w'.cell? (ad154.add ((x9_2).toNat * 7)) = some (.bool ((rd_T36 l1 x9_2).f0.f0)) ∧ w'.cell? ⟨(ad154.add ((x9_2).toNat * 7)).block, (ad154.add ((x9_2).toNat * 7)).off + 1, none⟩ = some (.bool ((rd_T36 l1 x9_2).f0.f1)) ∧ w'.cell? ⟨(ad154.add ((x9_2).toNat * 7)).block, (ad154.add ((x9_2).toNat * 7)).off + 2, none⟩ = some (.bool ((rd_T36 l1 x9_2).f1.f0)) ∧ w'.cell? ⟨(ad154.add ((x9_2).toNat * 7)).block, (ad154.add ((x9_2).toNat * 7)).off + 3, none⟩ = some (.bool ((rd_T36 l1 x9_2).f1.f1)) ∧ w'.cell? ⟨(ad154.add ((x9_2).toNat * 7)).block, (ad154.add ((x9_2).toNat * 7)).off + 4, none⟩ = some (.bool ((rd_T36 l1 x9_2).f1.f2)) ∧ w'.cell? ⟨(ad154.add ((x9_2).toNat * 7)).block, (ad154.add ((x9_2).toNat * 7)).off + 5, none⟩ = some (.bool ((rd_T36 l1 x9_2).f1.f3)) ∧ w'.cell? ⟨(ad154.add ((x9_2).toNat * 7)).block, (ad154.add ((x9_2).toNat * 7)).off + 6, none⟩ = some (.bool ((rd_T36 l1 x9_2).f2)) ∧ w'.cell? (ad154.add ((x9_2).toNat * 7)) = some (.bool ((rd_T36 l1 x9_2).f0.f0)) ∧ w'.cell? ⟨(ad154.add ((x9_2).toNat * 7)).block, (ad154.add ((x9_2).toNat * 7)).off + 1, none⟩ = some (.bool ((rd_T36 l1 x9_2).f0.f1)) ∧ w'.cell? ⟨(ad154.add ((x9_2).toNat * 7)).block, (ad154.add ((x9_2).toNat * 7)).off + 2, none⟩ = some (.bool ((rd_T36 l1 x9_2).f1.f0)) ∧ w'.cell? ⟨(ad154.add ((x9_2).toNat * 7)).block, (ad154.add ((x9_2).toNat * 7)).off + 3, none⟩ = some (.bool ((rd_T36 l1 x9_2).f1.f1)) ∧ w'.cell? ⟨(ad154.add ((x9_2).toNat * 7)).block, (ad154.add ((x9_2).toNat * 7)).off + 4, none⟩ = some (.bool ((rd_T36 l1 x9_2).f1.f2)) ∧ w'.cell? ⟨(ad154.add ((x9_2).toNat * 7)).block, (ad154.add ((x9_2).toNat * 7)).off + 5, none⟩ = some (.bool ((rd_T36 l1 x9_2).f1.f3)) ∧ w'.cell? ⟨(ad154.add ((x9_2).toNat * 7)).block, (ad154.add ((x9_2).toNat * 7)).off + 6, none⟩ = some (.bool ((rd_T36 l1 x9_2).f2)) ∧ w'.cell? (ad154.add ((x9_2).toNat * 7)) = some (.bool ((rd_T36 l1 x9_2).f0.f0)) ∧ w'.cell? ⟨(ad154.add ((x9_2).toNat * 7)).block, (ad154.add ((x9_2).toNat * 7)).off + 1, none⟩ = some (.bool ((rd_T36 l1 x9_2).f0.f1)) ∧ w'.cell? ⟨(ad154.add ((x9_2).toNat * 7)).block, (ad154.add ((x9_2).toNat * 7)).off + 2, none⟩ = some (.bool ((rd_T36 l1 x9_2).f1.f0)) ∧ w'.cell? ⟨(ad154.add ((x9_2).toNat * 7)).block, (ad154.add ((x9_2).toNat * 7)).off + 3, none⟩ = some (.bool ((rd_T36 l1 x9_2).f1.f1)) ∧ w'.cell? ⟨(ad154.add ((x9_2).toNat * 7)).block, (ad154.add ((x9_2).toNat * 7)).off + 4, none⟩ = some (.bool ((rd_T36 l1 x9_2).f1.f2)) ∧ w'.cell? ⟨(ad154.add ((x9_2).toNat * 7)).block, (ad154.add ((x9_2).toNat * 7)).off + 5, none⟩ = some (.bool ((rd_T36 l1 x9_2).f1.f3)) ∧ w'.cell? ⟨(ad154.add ((x9_2).toNat * 7)).block, (ad154.add ((x9_2).toNat * 7)).off + 6, none⟩ = some (.bool ((rd_T36 l1 x9_2).f2))) (ds := [18]) #[false, false, false, false, false, false, false, false, false, false, false, false, false, false, false, false, false, false, false] (by kernel_rfl) rfl rfl ⟨(blk_cell BK142.out 0).trans rfl, (blk_cell BK142.out 1).trans rfl, (blk_cell BK142.out 2).trans rfl, (blk_cell BK142.out 3).trans rfl, (blk_cell BK142.out 4).trans rfl, (blk_cell BK142.out 5).trans rfl, (blk_cell BK142.out 6).trans rfl, (blk_cell BK142.out 7).trans rfl, (blk_cell BK142.out 8).trans rfl, (blk_cell BK142.out 9).trans rfl, (blk_cell BK147.out 0).trans rfl, (blk_cell BK147.out 1).trans rfl, ((HB.out.cell (World.block_lt_of_cell? w _ hw154_0)).trans hw154_0), ((HB.out.cell (World.block_lt_of_cell? w _ hw154_1)).trans hw154_1), ((HB.out.cell (World.block_lt_of_cell? w _ hw154_2)).trans hw154_2), ((HB.out.cell (World.block_lt_of_cell? w _ hw154_3)).trans hw154_3), ((HB.out.cell (World.block_lt_of_cell? w _ hw154_4)).trans hw154_4), ((HB.out.cell (World.block_lt_of_cell? w _ hw154_5)).trans hw154_5), ((HB.out.cell (World.block_lt_of_cell? w _ hw154_6)).trans hw154_6), ((HB.out.cell (World.block_lt_of_cell? w _ hw155_0)).trans hw155_0), ((HB.out.cell (World.block_lt_of_cell? w _ hw155_1)).trans hw155_1), ((HB.out.cell (World.block_lt_of_cell? w _ hw155_2)).trans hw155_2), ((HB.out.cell (World.block_lt_of_cell? w _ hw155_3)).trans hw155_3), ((HB.out.cell (World.block_lt_of_cell? w _ hw155_4)).trans hw155_4), ((HB.out.cell (World.block_lt_of_cell? w _ hw155_5)).trans hw155_5), ((HB.out.cell (World.block_lt_of_cell? w _ hw155_6)).trans hw155_6), ((HB.out.cell (World.block_lt_of_cell? w _ hw156_0)).trans hw156_0), ((HB.out.cell (World.block_lt_of_cell? w _ hw156_1)).trans hw156_1), ((HB.out.cell (World.block_lt_of_cell? w _ hw156_2)).trans hw156_2), ((HB.out.cell (World.block_lt_of_cell? w _ hw156_3)).trans hw156_3), ((HB.out.cell (World.block_lt_of_cell? w _ hw156_4)).trans hw156_4), ((HB.out.cell (World.block_lt_of_cell? w _ hw156_5)).trans hw156_5), ((HB.out.cell (World.block_lt_of_cell? w _ hw156_6)).trans hw156_6)⟩ (fun hHeld => ?_); refine with_tabW crossbucklaw20_PhaseExits.tab11 crossbucklaw20_PhaseExits.bits11 (fun HT_ HW_ => ?_)
                generalize w30.drew = w31 at BK142 BK147 BK153 HB hx154_0 hx154_1 hx154_2 hx154_3 hx154_4 hx154_5 hx154_6 hx155_0 hx155_1 hx155_2 hx155_3 hx155_4 hx155_5 hx155_6 hx156_0 hx156_1 hx156_2 hx156_3 hx156_4 hx156_5 hx156_6 hHeld ⊢
                refine pure_ (i := 2) (N := some 34) (v := ?_) (a' := ?_) #[false, false, true, false, false, false, false, false, false, false, false, false, false, false, false, false, false, false, false] rfl rfl (any_of HT_.out (by kernel_rfl)) (fun _ _ _ h => h) (Or.inl ⟨by rfl, ?_⟩) ?_ ?_
                rotate_left
                · intro w'
                  go_simp
                  with_reducible rfl
                rotate_left
                · simp only [Act.put, List.setIfInBounds_toArray, List.set_cons_zero, List.set_cons_succ, i64_w, i32_w]
                  rfl
                refine pure_ (i := 3) (N := some 35) (v := ?_) (a' := ?_) #[false, false, true, true, false, false, false, false, false, false, false, false, false, false, false, false, false, false, false] rfl rfl (any_of HT_.out (by kernel_rfl)) (fun _ _ _ h => h) (Or.inl ⟨by rfl, ?_⟩) ?_ ?_
                rotate_left
                · intro w'
                  go_simp
                  with_reducible rfl
                rotate_left
                · simp only [Act.put, List.setIfInBounds_toArray, List.set_cons_zero, List.set_cons_succ, i64_w, i32_w]
                  rfl
                refine pure_ (i := 4) (N := some 36) (v := ?_) (a' := ?_) #[false, false, true, true, true, false, false, false, false, false, false, false, false, false, false, false, false, false, false] rfl rfl (any_of HT_.out (by kernel_rfl)) (fun _ _ _ h => h) (Or.inl ⟨by rfl, ?_⟩) ?_ ?_
                rotate_left
                · intro w'
                  go_simp
                  with_reducible rfl
                rotate_left
                · simp only [Act.put, List.setIfInBounds_toArray, List.set_cons_zero, List.set_cons_succ, i64_w, i32_w]
                  rfl
                refine pure_ (i := 5) (N := some 37) (v := ?_) (a' := ?_) #[false, false, true, true, true, true, false, false, false, false, false, false, false, false, false, false, false, false, false] rfl rfl (any_of HT_.out (by kernel_rfl)) (fun _ _ _ h => h) (Or.inl ⟨by rfl, ?_⟩) ?_ ?_
                rotate_left
                · intro w'
                  go_simp
                  with_reducible rfl
                rotate_left
                · simp only [Act.put, List.setIfInBounds_toArray, List.set_cons_zero, List.set_cons_succ, i64_w, i32_w]
                  rfl
                refine pure_ (i := 7) (N := some 39) (v := ?_) (a' := ?_) #[false, false, true, true, true, true, false, true, false, false, false, false, false, false, false, false, false, false, false] rfl rfl (any_of HT_.out (by kernel_rfl)) (fun _ _ _ h => h) (Or.inl ⟨by rfl, ?_⟩) ?_ ?_
                rotate_left
                · intro w'
                  go_simp
                  with_reducible rfl
                rotate_left
                · simp only [Act.put, List.setIfInBounds_toArray, List.set_cons_zero, List.set_cons_succ, i64_w, i32_w]
                  rfl
                refine pure_ (i := 8) (N := some 40) (v := ?_) (a' := ?_) #[false, false, true, true, true, true, false, true, true, false, false, false, false, false, false, false, false, false, false] rfl rfl (any_of HT_.out (by kernel_rfl)) (fun _ _ _ h => h) (Or.inl ⟨by rfl, ?_⟩) ?_ ?_
                rotate_left
                · intro w'
                  go_simp
                  with_reducible rfl
                rotate_left
                · simp only [Act.put, List.setIfInBounds_toArray, List.set_cons_zero, List.set_cons_succ, i64_w, i32_w]
                  rfl
                refine pure_ (i := 9) (N := some 41) (v := ?_) (a' := ?_) #[false, false, true, true, true, true, false, true, true, true, false, false, false, false, false, false, false, false, false] rfl rfl (any_of HT_.out (by kernel_rfl)) (fun _ _ _ h => h) (Or.inl ⟨by rfl, ?_⟩) ?_ ?_
                rotate_left
                · intro w'
                  go_simp
                  with_reducible rfl
                rotate_left
                · simp only [Act.put, List.setIfInBounds_toArray, List.set_cons_zero, List.set_cons_succ, i64_w, i32_w]
                  rfl
                refine pure_ (i := 10) (N := some 42) (v := ?_) (a' := ?_) #[false, false, true, true, true, true, false, true, true, true, true, false, false, false, false, false, false, false, false] rfl rfl (any_of HT_.out (by kernel_rfl)) (fun _ _ _ h => h) (Or.inl ⟨by rfl, ?_⟩) ?_ ?_
                rotate_left
                · intro w'
                  go_simp
                  with_reducible rfl
                rotate_left
                · simp only [Act.put, List.setIfInBounds_toArray, List.set_cons_zero, List.set_cons_succ, i64_w, i32_w]
                  rfl
                refine pure_ (i := 12) (N := some 44) (v := ?_) (a' := ?_) #[false, false, true, true, true, true, false, true, true, true, true, false, true, false, false, false, false, false, false] rfl rfl (any_of HT_.out (by kernel_rfl)) (fun _ _ _ h => h) (Or.inl ⟨by rfl, ?_⟩) ?_ ?_
                rotate_left
                · intro w'
                  go_simp
                  with_reducible rfl
                rotate_left
                · simp only [Act.put, List.setIfInBounds_toArray, List.set_cons_zero, List.set_cons_succ, i64_w, i32_w]
                  rfl
                refine pure_ (i := 13) (N := some 45) (v := ?_) (a' := ?_) #[false, false, true, true, true, true, false, true, true, true, true, false, true, true, false, false, false, false, false] rfl rfl (any_of HT_.out (by kernel_rfl)) (fun _ _ _ h => h) (Or.inl ⟨by rfl, ?_⟩) ?_ ?_
                rotate_left
                · intro w'
                  go_simp
                  with_reducible rfl
                rotate_left
                · simp only [Act.put, List.setIfInBounds_toArray, List.set_cons_zero, List.set_cons_succ, i64_w, i32_w]
                  rfl
                refine pure_ (i := 14) (N := some 46) (v := ?_) (a' := ?_) #[false, false, true, true, true, true, false, true, true, true, true, false, true, true, true, false, false, false, false] rfl rfl (any_of HT_.out (by kernel_rfl)) (fun _ _ _ h => h) (Or.inl ⟨by rfl, ?_⟩) ?_ ?_
                rotate_left
                · intro w'
                  go_simp
                  with_reducible rfl
                rotate_left
                · simp only [Act.put, List.setIfInBounds_toArray, List.set_cons_zero, List.set_cons_succ, i64_w, i32_w]
                  rfl
                refine pure_ (i := 15) (N := some 47) (v := ?_) (a' := ?_) #[false, false, true, true, true, true, false, true, true, true, true, false, true, true, true, true, false, false, false] rfl rfl (any_of HT_.out (by kernel_rfl)) (fun _ _ _ h => h) (Or.inl ⟨by rfl, ?_⟩) ?_ ?_
                rotate_left
                · intro w'
                  go_simp
                  with_reducible rfl
                rotate_left
                · simp only [Act.put, List.setIfInBounds_toArray, List.set_cons_zero, List.set_cons_succ, i64_w, i32_w]
                  rfl
                refine take_ (i := 0) (N := some 32) (v := ?_) (a' := ?_) #[true, false, true, true, true, true, false, true, true, true, true, false, true, true, true, true, false, false, false] rfl rfl (take_ofW HT_.out HW_.out (by kernel_rfl)) (fun _ _ _ h => h) (Or.inl ⟨by rfl, ?_⟩) hHeld ?_ ?_
                rotate_left
                · rintro w' ⟨s0, s1, s2, s3, s4, s5, s6, s7, s8, s9, s10, s11, s12, s13, s14, s15, s16, s17, s18, s19, s20, s21, s22, s23, s24, s25, s26, s27, s28, s29, s30, s31, s32⟩
                  go_simp
                  with_reducible rfl
                rotate_left
                · simp only [Act.put, List.setIfInBounds_toArray, List.set_cons_zero, List.set_cons_succ, i64_w, i32_w]
                  rfl
                refine take_ (i := 1) (N := some 33) (v := ?_) (a' := ?_) #[true, true, true, true, true, true, false, true, true, true, true, false, true, true, true, true, false, false, false] rfl rfl (take_ofW HT_.out HW_.out (by kernel_rfl)) (fun _ _ _ h => h) (Or.inl ⟨by rfl, ?_⟩) hHeld ?_ ?_
                rotate_left
                · rintro w' ⟨s0, s1, s2, s3, s4, s5, s6, s7, s8, s9, s10, s11, s12, s13, s14, s15, s16, s17, s18, s19, s20, s21, s22, s23, s24, s25, s26, s27, s28, s29, s30, s31, s32⟩
                  go_simp
                  with_reducible rfl
                rotate_left
                · simp only [Act.put, List.setIfInBounds_toArray, List.set_cons_zero, List.set_cons_succ, i64_w, i32_w]
                  rfl
                refine take_ (i := 6) (N := some 38) (v := ?_) (a' := ?_) #[true, true, true, true, true, true, true, true, true, true, true, false, true, true, true, true, false, false, false] rfl rfl (take_ofW HT_.out HW_.out (by kernel_rfl)) (fun _ _ _ h => h) (Or.inl ⟨by rfl, ?_⟩) hHeld ?_ ?_
                rotate_left
                · rintro w' ⟨s0, s1, s2, s3, s4, s5, s6, s7, s8, s9, s10, s11, s12, s13, s14, s15, s16, s17, s18, s19, s20, s21, s22, s23, s24, s25, s26, s27, s28, s29, s30, s31, s32⟩
                  go_simp
                  with_reducible rfl
                rotate_left
                · simp only [Act.put, List.setIfInBounds_toArray, List.set_cons_zero, List.set_cons_succ, i64_w, i32_w]
                  rfl
                refine take_ (i := 11) (N := some 43) (v := ?_) (a' := ?_) #[true, true, true, true, true, true, true, true, true, true, true, true, true, true, true, true, false, false, false] rfl rfl (take_ofW HT_.out HW_.out (by kernel_rfl)) (fun _ _ _ h => h) (Or.inl ⟨by rfl, ?_⟩) hHeld ?_ ?_
                rotate_left
                · rintro w' ⟨s0, s1, s2, s3, s4, s5, s6, s7, s8, s9, s10, s11, s12, s13, s14, s15, s16, s17, s18, s19, s20, s21, s22, s23, s24, s25, s26, s27, s28, s29, s30, s31, s32⟩
                  go_simp
                  with_reducible rfl
                rotate_left
                · simp only [Act.put, List.setIfInBounds_toArray, List.set_cons_zero, List.set_cons_succ, i64_w, i32_w]
                  rfl
                refine take_ (i := 16) (N := some 48) (v := ?_) (a' := ?_) #[true, true, true, true, true, true, true, true, true, true, true, true, true, true, true, true, true, false, false] rfl rfl (take_ofW HT_.out HW_.out (by kernel_rfl)) (fun _ _ _ h => h) (Or.inl ⟨by rfl, ?_⟩) hHeld ?_ ?_
                rotate_left
                · rintro w' ⟨s0, s1, s2, s3, s4, s5, s6, s7, s8, s9, s10, s11, s12, s13, s14, s15, s16, s17, s18, s19, s20, s21, s22, s23, s24, s25, s26, s27, s28, s29, s30, s31, s32⟩
                  go_simp
                  with_reducible rfl
                rotate_left
                · simp only [Act.put, List.setIfInBounds_toArray, List.set_cons_zero, List.set_cons_succ, i64_w, i32_w]
                  rfl
                refine one_ (i := 17) (N := some 49) #[true, true, true, true, true, true, true, true, true, true, true, true, true, true, true, true, true, true, false] rfl rfl (one_of HT_.out (by kernel_rfl)) (by decide) (fun K hK => ?_)
                refine goes_ Try.func12 (by kernel_rfl) rfl #[.agg #[.int .i64 a0_0, .int .i64 a0_1, .int .i64 a0_2, .int .i64 a0_3, .int .i64 a0_4, .int .i64 a0_5, .int .i64 a0_6, .int .i64 a0_7, .int .i64 a0_8, .int .i64 a0_9], .agg #[.int .i64 x148000_2, .int .i64 x148001_2], .agg #[.bool ((rd_T36 l1 x9_2).f0.f0), .bool ((rd_T36 l1 x9_2).f0.f1)], .agg #[.bool ((rd_T36 l1 x9_2).f1.f0), .bool ((rd_T36 l1 x9_2).f1.f1), .bool ((rd_T36 l1 x9_2).f1.f2), .bool ((rd_T36 l1 x9_2).f1.f3)], .bool ((rd_T36 l1 x9_2).f2)] (by rfl) rfl rfl (by (try simp only [List.map_toArray, List.map_cons, List.map_nil]); first | done | rfl | (simp only [List.length_drop, List.length_take]; rfl)) ?_
                with_reducible refine (phase_Step.calls k2 a0_0 a0_1 a0_2 a0_3 a0_4 a0_5 a0_6 a0_7 a0_8 a0_9 x148000_2 x148001_2 ((rd_T36 l1 x9_2).f0.f0) ((rd_T36 l1 x9_2).f0.f1) ((rd_T36 l1 x9_2).f1.f0) ((rd_T36 l1 x9_2).f1.f1) ((rd_T36 l1 x9_2).f1.f2) ((rd_T36 l1 x9_2).f1.f3) ((rd_T36 l1 x9_2).f2) t157 t158 _ A20.out).mono ?_
                rintro e w32 ⟨rfl, hb⟩
                refine ⟨_, rfl, ?_⟩
                have n0_ := Aside0.mk (blk_below (g := gb142) (o := .cells #[.int .i64 a0_0, .int .i64 a0_1, .int .i64 a0_2, .int .i64 a0_3, .int .i64 a0_4, .int .i64 a0_5, .int .i64 a0_6, .int .i64 a0_7, .int .i64 a0_8, .int .i64 a0_9] 23 (0, 0)) (by (with_reducible repeat (first | refine blk_drewN ?_ _ | refine blk_drew ?_ | refine blk_alloc ?_ _)); exact BK142.out) hb)
                have n1_ := Aside0.mk (blk_below (g := gb147) (o := .cells #[.int .i64 x148000_2, .int .i64 x148001_2] 28 (0, 0)) (by (with_reducible repeat (first | refine blk_drewN ?_ _ | refine blk_drew ?_ | refine blk_alloc ?_ _)); exact BK147.out) hb)
                have n2_ := Aside0.mk (blk_below (g := gb153) (o := .cells #[.bool t148, .bool t149, .bool t150, .bool t151, .bool t152] 38 (0, 0)) (by (with_reducible repeat (first | refine blk_drewN ?_ _ | refine blk_drew ?_ | refine blk_alloc ?_ _)); exact BK153.out) hb)
                have n3_ := Aside0.mk (below_step (by repeat (first | (with_reducible first | exact HB.out | apply below_alloc | apply pw_below_drewN | apply below_drew1 | refine below_set ?_ GE142.out | refine below_set ?_ GE147.out | refine below_set ?_ GE153.out) | exact HB.out)) hb)
                clear BK142
                clear BK147
                clear BK153
                clear HB
                have BK142 := n0_
                have BK147 := n1_
                have BK153 := n2_
                have HB := n3_
                clear n0_ n1_ n2_ n3_
                (try clear hb)
                (try clear hb2)
                (try clear hk)
                (try clear hi)
                refine hK.out _ _ ⟨(blk_cell BK142.out 0).trans rfl, (blk_cell BK142.out 1).trans rfl, (blk_cell BK142.out 2).trans rfl, (blk_cell BK142.out 3).trans rfl, (blk_cell BK142.out 4).trans rfl, (blk_cell BK142.out 5).trans rfl, (blk_cell BK142.out 6).trans rfl, (blk_cell BK142.out 7).trans rfl, (blk_cell BK142.out 8).trans rfl, (blk_cell BK142.out 9).trans rfl, (blk_cell BK147.out 0).trans rfl, (blk_cell BK147.out 1).trans rfl, ((HB.out.cell (World.block_lt_of_cell? w _ hw154_0)).trans hw154_0), ((HB.out.cell (World.block_lt_of_cell? w _ hw154_1)).trans hw154_1), ((HB.out.cell (World.block_lt_of_cell? w _ hw154_2)).trans hw154_2), ((HB.out.cell (World.block_lt_of_cell? w _ hw154_3)).trans hw154_3), ((HB.out.cell (World.block_lt_of_cell? w _ hw154_4)).trans hw154_4), ((HB.out.cell (World.block_lt_of_cell? w _ hw154_5)).trans hw154_5), ((HB.out.cell (World.block_lt_of_cell? w _ hw154_6)).trans hw154_6), ((HB.out.cell (World.block_lt_of_cell? w _ hw155_0)).trans hw155_0), ((HB.out.cell (World.block_lt_of_cell? w _ hw155_1)).trans hw155_1), ((HB.out.cell (World.block_lt_of_cell? w _ hw155_2)).trans hw155_2), ((HB.out.cell (World.block_lt_of_cell? w _ hw155_3)).trans hw155_3), ((HB.out.cell (World.block_lt_of_cell? w _ hw155_4)).trans hw155_4), ((HB.out.cell (World.block_lt_of_cell? w _ hw155_5)).trans hw155_5), ((HB.out.cell (World.block_lt_of_cell? w _ hw155_6)).trans hw155_6), ((HB.out.cell (World.block_lt_of_cell? w _ hw156_0)).trans hw156_0), ((HB.out.cell (World.block_lt_of_cell? w _ hw156_1)).trans hw156_1), ((HB.out.cell (World.block_lt_of_cell? w _ hw156_2)).trans hw156_2), ((HB.out.cell (World.block_lt_of_cell? w _ hw156_3)).trans hw156_3), ((HB.out.cell (World.block_lt_of_cell? w _ hw156_4)).trans hw156_4), ((HB.out.cell (World.block_lt_of_cell? w _ hw156_5)).trans hw156_5), ((HB.out.cell (World.block_lt_of_cell? w _ hw156_6)).trans hw156_6)⟩ (fun hHeld => ?_)
                clear hK K
                refine norm_ (a' := ?_) ?_ ?_
                rotate_left
                · show Act.put _ (some 49) _ = _
                  simp only [Act.put, List.setIfInBounds_toArray, List.set_cons_zero, List.set_cons_succ, i64_w, i32_w]
                  rfl
                refine last_ (i := 18) (N := none) #[true, true, true, true, true, true, true, true, true, true, true, true, true, true, true, true, true, true, true] rfl rfl (one_of HT_.out (by kernel_rfl)) (by decide) (fun K hK => ?_)
                have hs33 : w32.cell? ⟨gb147, 0, none⟩ = some (.int .i64 x148000_2) := (blk_cell BK147.out 0).trans rfl
                have hfs33 := blk_frozen BK147.out 0
                have hns33_0 := NB142_147.out
                have hns33_2 := NB153_147.out
                have hms33_0 := NB147_142.out
                have hms33_2 := NB147_153.out
                have hs34 : w32.cell? ⟨gb147, 1, none⟩ = some (.int .i64 x148001_2) := (blk_cell BK147.out 1).trans rfl
                have hfs34 := blk_frozen BK147.out 1
                have hns34_0 := NB142_147.out
                have hns34_2 := NB153_147.out
                have hms34_0 := NB147_142.out
                have hms34_2 := NB147_153.out
                refine skip_ (w1 := ?_) (by rfl) rfl ?_ ?_
                rotate_left
                · go_simp
                  rfl
                refine hK.out _ _ ?_
                clear hK K
                refine done_ (done_of HT_.out (by kernel_rfl)) ?_
                have hcz35_0 : w32.cell? ⟨gb147, 0, none⟩ = some (.int .i64 x148000_2) := (blk_cell BK147.out 0).trans rfl
                have hcz35_1 : w32.cell? ⟨gb147, 1, none⟩ = some (.int .i64 x148001_2) := (blk_cell BK147.out 1).trans rfl
                have hfz35_0 := blk_frozen BK147.out 0
                have hfz35_1 := blk_frozen BK147.out 1
                go_upto_region 13 with (first | ((with_reducible refine gate_callee (f := 13) rfl ?_); refine goesL_ (some 51) rfl rfl Try.func13 (by kernel_rfl) rfl #[.agg #[.int .i64 t157, .int .i64 t158]] rfl (by (try simp only [List.map_toArray, List.map_cons, List.map_nil]); first | done | rfl | (simp only [List.length_drop, List.length_take]; rfl)) ?_; (with_reducible refine (phase_Lights.calls t157 t158 t159 t160 t161 t162 t163 _ A21.out).mono ?_); rintro e w36 ⟨rfl, hb⟩; refine ⟨_, rfl, ?_⟩; have n0_ := Aside0.mk (blk_below (g := gb142) (o := .cells #[.int .i64 a0_0, .int .i64 a0_1, .int .i64 a0_2, .int .i64 a0_3, .int .i64 a0_4, .int .i64 a0_5, .int .i64 a0_6, .int .i64 a0_7, .int .i64 a0_8, .int .i64 a0_9] 23 (0, 0)) (by (with_reducible repeat (first | refine blk_drewN ?_ _ | refine blk_drew ?_ | refine blk_alloc ?_ _)); refine blk_far ?_ NB142_147.out _; (with_reducible repeat (first | refine blk_drewN ?_ _ | refine blk_drew ?_ | refine blk_alloc ?_ _)); refine blk_far ?_ NB142_147.out _; (with_reducible repeat (first | refine blk_drewN ?_ _ | refine blk_drew ?_ | refine blk_alloc ?_ _)); exact BK142.out) hb); have n1_ := Aside0.mk (blk_below (g := gb147) (o := .cells #[.int .i64 t157, .int .i64 t158] 28 (0, 0)) (by (with_reducible repeat (first | refine blk_drewN ?_ _ | refine blk_drew ?_ | refine blk_alloc ?_ _)); refine blk_put (cs := #[.int .i64 t157, .int .i64 x148001_2]) ?_ 1 _ rfl; (with_reducible repeat (first | refine blk_drewN ?_ _ | refine blk_drew ?_ | refine blk_alloc ?_ _)); refine blk_put (cs := #[.int .i64 x148000_2, .int .i64 x148001_2]) ?_ 0 _ rfl; (with_reducible repeat (first | refine blk_drewN ?_ _ | refine blk_drew ?_ | refine blk_alloc ?_ _)); exact BK147.out) hb); have n2_ := Aside0.mk (blk_below (g := gb153) (o := .cells #[.bool t148, .bool t149, .bool t150, .bool t151, .bool t152] 38 (0, 0)) (by (with_reducible repeat (first | refine blk_drewN ?_ _ | refine blk_drew ?_ | refine blk_alloc ?_ _)); refine blk_far ?_ NB153_147.out _; (with_reducible repeat (first | refine blk_drewN ?_ _ | refine blk_drew ?_ | refine blk_alloc ?_ _)); refine blk_far ?_ NB153_147.out _; (with_reducible repeat (first | refine blk_drewN ?_ _ | refine blk_drew ?_ | refine blk_alloc ?_ _)); exact BK153.out) hb); have n3_ := Aside0.mk (below_step (by repeat (first | (with_reducible first | exact HB.out | apply below_alloc | apply pw_below_drewN | apply below_drew1 | refine below_set ?_ GE142.out | refine below_set ?_ GE147.out | refine below_set ?_ GE153.out) | exact HB.out)) hb); clear BK142; clear BK147; clear BK153; clear HB; have BK142 := n0_; have BK147 := n1_; have BK153 := n2_; have HB := n3_; clear n0_ n1_ n2_ n3_; (try clear hb); (try clear hb2); (try clear hk); (try clear hi)) | ((with_reducible refine gate_dst (N := 11) rfl ?_); (try (refine gate_guard (by rfl) ?_; dsimp only)); refine box_event ?hg (N := 11) ?hd (cs := #[.bool false, .bool false, .bool false, .bool false, .bool false]) (t := 38) ?hr ?_; (case hd => rfl); (case hg => rfl); (case hr => first | (go_simp; done) | (go_simp; rfl)); intro gb164 hg w37 hbox hb; have n0_ := Aside0.mk (blk_below (g := gb142) (o := .cells #[.int .i64 a0_0, .int .i64 a0_1, .int .i64 a0_2, .int .i64 a0_3, .int .i64 a0_4, .int .i64 a0_5, .int .i64 a0_6, .int .i64 a0_7, .int .i64 a0_8, .int .i64 a0_9] 23 (0, 0)) (by (with_reducible repeat (first | refine blk_drewN ?_ _ | refine blk_drew ?_ | refine blk_alloc ?_ _)); exact BK142.out) hb); have n1_ := Aside0.mk (blk_below (g := gb147) (o := .cells #[.int .i64 t157, .int .i64 t158] 28 (0, 0)) (by (with_reducible repeat (first | refine blk_drewN ?_ _ | refine blk_drew ?_ | refine blk_alloc ?_ _)); exact BK147.out) hb); have n2_ := Aside0.mk (blk_below (g := gb153) (o := .cells #[.bool t148, .bool t149, .bool t150, .bool t151, .bool t152] 38 (0, 0)) (by (with_reducible repeat (first | refine blk_drewN ?_ _ | refine blk_drew ?_ | refine blk_alloc ?_ _)); exact BK153.out) hb); have n3_ := Aside0.mk (below_step (by repeat (first | (with_reducible first | exact HB.out | apply below_alloc | apply pw_below_drewN | apply below_drew1 | refine below_set ?_ GE142.out | refine below_set ?_ GE147.out | refine below_set ?_ GE153.out) | exact HB.out)) hb); have n4_ := Aside0.mk (hbox); have n5_ := Aside0.mk ((by rw [hg]; exact (below_size (by repeat (first | (with_reducible first | exact HB.out | apply below_alloc | apply pw_below_drewN | apply below_drew1 | refine below_set ?_ GE142.out | refine below_set ?_ GE147.out | refine below_set ?_ GE153.out) | exact HB.out))) : w.heap.size ≤ gb164)); have n6_ := Aside0.mk ((by rw [hg]; exact (below_size (by repeat (first | (with_reducible first | exact HB.out | apply below_alloc | apply pw_below_drewN | apply below_drew1 | refine below_set ?_ GE142.out | refine below_set ?_ GE147.out | refine below_set ?_ GE153.out) | exact HB.out))) : w.heap.size ≤ gb164)); have n7_ := Aside0.mk ((by rw [hg]; exact Nat.ne_of_lt (blk_lt (g := gb142) (o := .cells #[.int .i64 a0_0, .int .i64 a0_1, .int .i64 a0_2, .int .i64 a0_3, .int .i64 a0_4, .int .i64 a0_5, .int .i64 a0_6, .int .i64 a0_7, .int .i64 a0_8, .int .i64 a0_9] 23 (0, 0)) (by (with_reducible repeat (first | refine blk_drewN ?_ _ | refine blk_drew ?_ | refine blk_alloc ?_ _)); exact BK142.out)) : gb142 ≠ gb164)); have n8_ := Aside0.mk ((by rw [hg]; exact Nat.ne_of_gt (blk_lt (g := gb142) (o := .cells #[.int .i64 a0_0, .int .i64 a0_1, .int .i64 a0_2, .int .i64 a0_3, .int .i64 a0_4, .int .i64 a0_5, .int .i64 a0_6, .int .i64 a0_7, .int .i64 a0_8, .int .i64 a0_9] 23 (0, 0)) (by (with_reducible repeat (first | refine blk_drewN ?_ _ | refine blk_drew ?_ | refine blk_alloc ?_ _)); exact BK142.out)) : gb164 ≠ gb142)); have n9_ := Aside0.mk ((by rw [hg]; exact Nat.ne_of_lt (blk_lt (g := gb147) (o := .cells #[.int .i64 t157, .int .i64 t158] 28 (0, 0)) (by (with_reducible repeat (first | refine blk_drewN ?_ _ | refine blk_drew ?_ | refine blk_alloc ?_ _)); exact BK147.out)) : gb147 ≠ gb164)); have n10_ := Aside0.mk ((by rw [hg]; exact Nat.ne_of_gt (blk_lt (g := gb147) (o := .cells #[.int .i64 t157, .int .i64 t158] 28 (0, 0)) (by (with_reducible repeat (first | refine blk_drewN ?_ _ | refine blk_drew ?_ | refine blk_alloc ?_ _)); exact BK147.out)) : gb164 ≠ gb147)); have n11_ := Aside0.mk ((by rw [hg]; exact Nat.ne_of_lt (blk_lt (g := gb153) (o := .cells #[.bool t148, .bool t149, .bool t150, .bool t151, .bool t152] 38 (0, 0)) (by (with_reducible repeat (first | refine blk_drewN ?_ _ | refine blk_drew ?_ | refine blk_alloc ?_ _)); exact BK153.out)) : gb153 ≠ gb164)); have n12_ := Aside0.mk ((by rw [hg]; exact Nat.ne_of_gt (blk_lt (g := gb153) (o := .cells #[.bool t148, .bool t149, .bool t150, .bool t151, .bool t152] 38 (0, 0)) (by (with_reducible repeat (first | refine blk_drewN ?_ _ | refine blk_drew ?_ | refine blk_alloc ?_ _)); exact BK153.out)) : gb164 ≠ gb153)); clear BK142; clear BK147; clear BK153; clear HB; have BK142 := n0_; have BK147 := n1_; have BK153 := n2_; have HB := n3_; have BK164 := n4_; have GW164 := n5_; have GE164 := n6_; have NB142_164 := n7_; have NB164_142 := n8_; have NB147_164 := n9_; have NB164_147 := n10_; have NB153_164 := n11_; have NB164_153 := n12_; clear n0_ n1_ n2_ n3_ n4_ n5_ n6_ n7_ n8_ n9_ n10_ n11_ n12_; clear hb hbox hg; have hnb38 := NB164_142.out; have hnc38 := NB142_164.out; have hnb39 := NB164_147.out; have hnc39 := NB147_164.out; have hnb40 := NB164_153.out; have hnc40 := NB153_164.out; have hcz41_0 : w37.cell? ⟨gb164, 0, none⟩ = some (.bool false) := (blk_cell BK164.out 0).trans rfl; have hcz41_1 : w37.cell? ⟨gb164, 1, none⟩ = some (.bool false) := (blk_cell BK164.out 1).trans rfl; have hcz41_2 : w37.cell? ⟨gb164, 2, none⟩ = some (.bool false) := (blk_cell BK164.out 2).trans rfl; have hcz41_3 : w37.cell? ⟨gb164, 3, none⟩ = some (.bool false) := (blk_cell BK164.out 3).trans rfl; have hcz41_4 : w37.cell? ⟨gb164, 4, none⟩ = some (.bool false) := (blk_cell BK164.out 4).trans rfl; have hfz41_0 := blk_frozen BK164.out 0; have hfz41_1 := blk_frozen BK164.out 1; have hfz41_2 := blk_frozen BK164.out 2; have hfz41_3 := blk_frozen BK164.out 3; have hfz41_4 := blk_frozen BK164.out 4))
                (try simp only [Act.put, List.setIfInBounds_toArray, List.set_cons_zero, List.set_cons_succ])
                go_cut [80] (fun v80 wc => ∃ (kq : Nat) (x80_21 : Bool), v80 = .bool x80_21 ∧ Aside0 (crossbucklaw20_PhaseExits.j2 kq l1 t143 x8_2 x9_2 x80_21 a0_0 a0_1 a0_2 a0_3 a0_4 a0_5 a0_6 a0_7 a0_8 a0_9 t157 t158 t159 t160 t161 t162 t163 = some r) ∧ Aside0 (kq ≤ k2) ∧ Aside0 (wc.heap[gb142]? = some (.cells #[.int .i64 a0_0, .int .i64 a0_1, .int .i64 a0_2, .int .i64 a0_3, .int .i64 a0_4, .int .i64 a0_5, .int .i64 a0_6, .int .i64 a0_7, .int .i64 a0_8, .int .i64 a0_9] 23 (0, 0))) ∧ Aside0 (wc.heap[gb147]? = some (.cells #[.int .i64 t157, .int .i64 t158] 28 (0, 0))) ∧ Aside0 (wc.heap[gb153]? = some (.cells #[.bool t148, .bool t149, .bool t150, .bool t151, .bool t152] 38 (0, 0))) ∧ Aside0 (wc.heap[gb164]? = some (.cells #[.bool t159, .bool t160, .bool t161, .bool t162, .bool t163] 38 (0, 0))) ∧ Aside0 (Below w.heap.size w wc))
                case first =>
                  have H := HC22.out
                  clear HC22
                  by_cases c42 : t163 = true
                  · subst c42
                    have H1 : (if t152 = true then (crossbucklaw20_PhaseExits.j2 k2 l1 t143 x8_2 x9_2 false a0_0 a0_1 a0_2 a0_3 a0_4 a0_5 a0_6 a0_7 a0_8 a0_9 t157 t158 t159 t160 t161 t162 true) else (if x8_2 < a0_2 then (crossbucklaw20_PhaseExits.j2 k2 l1 t143 x8_2 x9_2 true a0_0 a0_1 a0_2 a0_3 a0_4 a0_5 a0_6 a0_7 a0_8 a0_9 t157 t158 t159 t160 t161 t162 true) else (if (rd_T36 l1 x9_2).f2 = true then (crossbucklaw20_PhaseExits.j2 k2 l1 t143 x8_2 x9_2 (decide (x8_2 < (wrap64 (a0_2 + a0_6)))) a0_0 a0_1 a0_2 a0_3 a0_4 a0_5 a0_6 a0_7 a0_8 a0_9 t157 t158 t159 t160 t161 t162 true) else (crossbucklaw20_PhaseExits.j2 k2 l1 t143 x8_2 x9_2 false a0_0 a0_1 a0_2 a0_3 a0_4 a0_5 a0_6 a0_7 a0_8 a0_9 t157 t158 t159 t160 t161 t162 true)))) = some r := by rw [if_pos rfl] at H; exact H
                    clear H
                    have H := H1
                    clear H1
                    by_cases c43 : t152 = true
                    · subst c43
                      have H1 : (crossbucklaw20_PhaseExits.j2 k2 l1 t143 x8_2 x9_2 false a0_0 a0_1 a0_2 a0_3 a0_4 a0_5 a0_6 a0_7 a0_8 a0_9 t157 t158 t159 t160 t161 t162 true) = some r := by rw [if_pos rfl] at H; exact H
                      clear H
                      have H := H1
                      clear H1
                      have H' := Aside0.mk H
                      clear H
                      have hnb44 := NB164_142.out
                      have hnc44 := NB142_164.out
                      have hnb45 := NB164_147.out
                      have hnc45 := NB147_164.out
                      have hnb46 := NB164_153.out
                      have hnc46 := NB153_164.out
                      have hcz47_0 : w37.cell? ⟨gb164, 0, none⟩ = some (.bool false) := (blk_cell BK164.out 0).trans rfl
                      have hcz47_1 : w37.cell? ⟨gb164, 1, none⟩ = some (.bool false) := (blk_cell BK164.out 1).trans rfl
                      have hcz47_2 : w37.cell? ⟨gb164, 2, none⟩ = some (.bool false) := (blk_cell BK164.out 2).trans rfl
                      have hcz47_3 : w37.cell? ⟨gb164, 3, none⟩ = some (.bool false) := (blk_cell BK164.out 3).trans rfl
                      have hcz47_4 : w37.cell? ⟨gb164, 4, none⟩ = some (.bool false) := (blk_cell BK164.out 4).trans rfl
                      have hfz47_0 := blk_frozen BK164.out 0
                      have hfz47_1 := blk_frozen BK164.out 1
                      have hfz47_2 := blk_frozen BK164.out 2
                      have hfz47_3 := blk_frozen BK164.out 3
                      have hfz47_4 := blk_frozen BK164.out 4
                      have hnb48 := NB153_142.out
                      have hnc48 := NB142_153.out
                      have hnb49 := NB153_147.out
                      have hnc49 := NB147_153.out
                      have hcz50_0 : w37.cell? ⟨gb153, 0, none⟩ = some (.bool t148) := (blk_cell BK153.out 0).trans rfl
                      have hcz50_1 : w37.cell? ⟨gb153, 1, none⟩ = some (.bool t149) := (blk_cell BK153.out 1).trans rfl
                      have hcz50_2 : w37.cell? ⟨gb153, 2, none⟩ = some (.bool t150) := (blk_cell BK153.out 2).trans rfl
                      have hcz50_3 : w37.cell? ⟨gb153, 3, none⟩ = some (.bool t151) := (blk_cell BK153.out 3).trans rfl
                      have hcz50_4 : w37.cell? ⟨gb153, 4, none⟩ = some (.bool true) := (blk_cell BK153.out 4).trans rfl
                      have hfz50_0 := blk_frozen BK153.out 0
                      have hfz50_1 := blk_frozen BK153.out 1
                      have hfz50_2 := blk_frozen BK153.out 2
                      have hfz50_3 := blk_frozen BK153.out 3
                      have hfz50_4 := blk_frozen BK153.out 4
                      go_wp2
                      go_meet
                      case rel => exact ⟨_, (false), (by first | rfl | (simp; done) | (simp [*]; done)), H', ⟨by have := HJ4.out; have := HK2.out; first | omega | exact Nat.le_refl _⟩, ⟨by (with_reducible repeat (first | refine blk_drewN ?_ _ | refine blk_drew ?_ | refine blk_alloc ?_ _)); refine blk_far ?_ NB142_164.out _; (with_reducible repeat (first | refine blk_drewN ?_ _ | refine blk_drew ?_ | refine blk_alloc ?_ _)); refine blk_far ?_ NB142_164.out _; (with_reducible repeat (first | refine blk_drewN ?_ _ | refine blk_drew ?_ | refine blk_alloc ?_ _)); refine blk_far ?_ NB142_164.out _; (with_reducible repeat (first | refine blk_drewN ?_ _ | refine blk_drew ?_ | refine blk_alloc ?_ _)); refine blk_far ?_ NB142_164.out _; (with_reducible repeat (first | refine blk_drewN ?_ _ | refine blk_drew ?_ | refine blk_alloc ?_ _)); refine blk_far ?_ NB142_164.out _; (with_reducible repeat (first | refine blk_drewN ?_ _ | refine blk_drew ?_ | refine blk_alloc ?_ _)); exact BK142.out⟩, ⟨by (with_reducible repeat (first | refine blk_drewN ?_ _ | refine blk_drew ?_ | refine blk_alloc ?_ _)); refine blk_far ?_ NB147_164.out _; (with_reducible repeat (first | refine blk_drewN ?_ _ | refine blk_drew ?_ | refine blk_alloc ?_ _)); refine blk_far ?_ NB147_164.out _; (with_reducible repeat (first | refine blk_drewN ?_ _ | refine blk_drew ?_ | refine blk_alloc ?_ _)); refine blk_far ?_ NB147_164.out _; (with_reducible repeat (first | refine blk_drewN ?_ _ | refine blk_drew ?_ | refine blk_alloc ?_ _)); refine blk_far ?_ NB147_164.out _; (with_reducible repeat (first | refine blk_drewN ?_ _ | refine blk_drew ?_ | refine blk_alloc ?_ _)); refine blk_far ?_ NB147_164.out _; (with_reducible repeat (first | refine blk_drewN ?_ _ | refine blk_drew ?_ | refine blk_alloc ?_ _)); exact BK147.out⟩, ⟨by (with_reducible repeat (first | refine blk_drewN ?_ _ | refine blk_drew ?_ | refine blk_alloc ?_ _)); refine blk_far ?_ NB153_164.out _; (with_reducible repeat (first | refine blk_drewN ?_ _ | refine blk_drew ?_ | refine blk_alloc ?_ _)); refine blk_far ?_ NB153_164.out _; (with_reducible repeat (first | refine blk_drewN ?_ _ | refine blk_drew ?_ | refine blk_alloc ?_ _)); refine blk_far ?_ NB153_164.out _; (with_reducible repeat (first | refine blk_drewN ?_ _ | refine blk_drew ?_ | refine blk_alloc ?_ _)); refine blk_far ?_ NB153_164.out _; (with_reducible repeat (first | refine blk_drewN ?_ _ | refine blk_drew ?_ | refine blk_alloc ?_ _)); refine blk_far ?_ NB153_164.out _; (with_reducible repeat (first | refine blk_drewN ?_ _ | refine blk_drew ?_ | refine blk_alloc ?_ _)); exact BK153.out⟩, ⟨by (with_reducible repeat (first | refine blk_drewN ?_ _ | refine blk_drew ?_ | refine blk_alloc ?_ _)); refine blk_put (cs := #[.bool t159, .bool t160, .bool t161, .bool t162, .bool false]) ?_ 4 _ rfl; (with_reducible repeat (first | refine blk_drewN ?_ _ | refine blk_drew ?_ | refine blk_alloc ?_ _)); refine blk_put (cs := #[.bool t159, .bool t160, .bool t161, .bool false, .bool false]) ?_ 3 _ rfl; (with_reducible repeat (first | refine blk_drewN ?_ _ | refine blk_drew ?_ | refine blk_alloc ?_ _)); refine blk_put (cs := #[.bool t159, .bool t160, .bool false, .bool false, .bool false]) ?_ 2 _ rfl; (with_reducible repeat (first | refine blk_drewN ?_ _ | refine blk_drew ?_ | refine blk_alloc ?_ _)); refine blk_put (cs := #[.bool t159, .bool false, .bool false, .bool false, .bool false]) ?_ 1 _ rfl; (with_reducible repeat (first | refine blk_drewN ?_ _ | refine blk_drew ?_ | refine blk_alloc ?_ _)); refine blk_put (cs := #[.bool false, .bool false, .bool false, .bool false, .bool false]) ?_ 0 _ rfl; (with_reducible repeat (first | refine blk_drewN ?_ _ | refine blk_drew ?_ | refine blk_alloc ?_ _)); exact BK164.out⟩, ⟨by repeat (first | (with_reducible first | exact HB.out | apply below_alloc | apply pw_below_drewN | apply below_drew1 | refine below_set ?_ GE142.out | refine below_set ?_ GE147.out | refine below_set ?_ GE153.out | refine below_set ?_ GE164.out) | exact HB.out)⟩⟩
                    · replace c43 := Bool.eq_false_iff.mpr c43
                      subst c43
                      have H1 : (if x8_2 < a0_2 then (crossbucklaw20_PhaseExits.j2 k2 l1 t143 x8_2 x9_2 true a0_0 a0_1 a0_2 a0_3 a0_4 a0_5 a0_6 a0_7 a0_8 a0_9 t157 t158 t159 t160 t161 t162 true) else (if (rd_T36 l1 x9_2).f2 = true then (crossbucklaw20_PhaseExits.j2 k2 l1 t143 x8_2 x9_2 (decide (x8_2 < (wrap64 (a0_2 + a0_6)))) a0_0 a0_1 a0_2 a0_3 a0_4 a0_5 a0_6 a0_7 a0_8 a0_9 t157 t158 t159 t160 t161 t162 true) else (crossbucklaw20_PhaseExits.j2 k2 l1 t143 x8_2 x9_2 false a0_0 a0_1 a0_2 a0_3 a0_4 a0_5 a0_6 a0_7 a0_8 a0_9 t157 t158 t159 t160 t161 t162 true))) = some r := by rw [if_neg (show ¬ (false = true) by decide)] at H; exact H
                      clear H
                      have H := H1
                      clear H1
                      by_cases c51 : x8_2 < a0_2
                      · rw [if_pos c51] at H
                        have c51b0 : decide (x8_2 < a0_2) = true := decide_eq_true c51
                        clear c51
                        (first | rw [c51b0] | (simp only [i64_w, i32_w]; rw [c51b0]) | skip)
                        have H' := Aside0.mk H
                        clear H
                        have hnb52 := NB164_142.out
                        have hnc52 := NB142_164.out
                        have hnb53 := NB164_147.out
                        have hnc53 := NB147_164.out
                        have hnb54 := NB164_153.out
                        have hnc54 := NB153_164.out
                        have hcz55_0 : w37.cell? ⟨gb164, 0, none⟩ = some (.bool false) := (blk_cell BK164.out 0).trans rfl
                        have hcz55_1 : w37.cell? ⟨gb164, 1, none⟩ = some (.bool false) := (blk_cell BK164.out 1).trans rfl
                        have hcz55_2 : w37.cell? ⟨gb164, 2, none⟩ = some (.bool false) := (blk_cell BK164.out 2).trans rfl
                        have hcz55_3 : w37.cell? ⟨gb164, 3, none⟩ = some (.bool false) := (blk_cell BK164.out 3).trans rfl
                        have hcz55_4 : w37.cell? ⟨gb164, 4, none⟩ = some (.bool false) := (blk_cell BK164.out 4).trans rfl
                        have hfz55_0 := blk_frozen BK164.out 0
                        have hfz55_1 := blk_frozen BK164.out 1
                        have hfz55_2 := blk_frozen BK164.out 2
                        have hfz55_3 := blk_frozen BK164.out 3
                        have hfz55_4 := blk_frozen BK164.out 4
                        have hnb56 := NB153_142.out
                        have hnc56 := NB142_153.out
                        have hnb57 := NB153_147.out
                        have hnc57 := NB147_153.out
                        have hcz58_0 : w37.cell? ⟨gb153, 0, none⟩ = some (.bool t148) := (blk_cell BK153.out 0).trans rfl
                        have hcz58_1 : w37.cell? ⟨gb153, 1, none⟩ = some (.bool t149) := (blk_cell BK153.out 1).trans rfl
                        have hcz58_2 : w37.cell? ⟨gb153, 2, none⟩ = some (.bool t150) := (blk_cell BK153.out 2).trans rfl
                        have hcz58_3 : w37.cell? ⟨gb153, 3, none⟩ = some (.bool t151) := (blk_cell BK153.out 3).trans rfl
                        have hcz58_4 : w37.cell? ⟨gb153, 4, none⟩ = some (.bool false) := (blk_cell BK153.out 4).trans rfl
                        have hfz58_0 := blk_frozen BK153.out 0
                        have hfz58_1 := blk_frozen BK153.out 1
                        have hfz58_2 := blk_frozen BK153.out 2
                        have hfz58_3 := blk_frozen BK153.out 3
                        have hfz58_4 := blk_frozen BK153.out 4
                        have hnb59 := NB142_147.out
                        have hnc59 := NB147_142.out
                        have hcz60_0 : w37.cell? ⟨gb142, 0, none⟩ = some (.int .i64 a0_0) := (blk_cell BK142.out 0).trans rfl
                        have hcz60_1 : w37.cell? ⟨gb142, 1, none⟩ = some (.int .i64 a0_1) := (blk_cell BK142.out 1).trans rfl
                        have hcz60_2 : w37.cell? ⟨gb142, 2, none⟩ = some (.int .i64 a0_2) := (blk_cell BK142.out 2).trans rfl
                        have hcz60_3 : w37.cell? ⟨gb142, 3, none⟩ = some (.int .i64 a0_3) := (blk_cell BK142.out 3).trans rfl
                        have hcz60_4 : w37.cell? ⟨gb142, 4, none⟩ = some (.int .i64 a0_4) := (blk_cell BK142.out 4).trans rfl
                        have hcz60_5 : w37.cell? ⟨gb142, 5, none⟩ = some (.int .i64 a0_5) := (blk_cell BK142.out 5).trans rfl
                        have hcz60_6 : w37.cell? ⟨gb142, 6, none⟩ = some (.int .i64 a0_6) := (blk_cell BK142.out 6).trans rfl
                        have hcz60_7 : w37.cell? ⟨gb142, 7, none⟩ = some (.int .i64 a0_7) := (blk_cell BK142.out 7).trans rfl
                        have hcz60_8 : w37.cell? ⟨gb142, 8, none⟩ = some (.int .i64 a0_8) := (blk_cell BK142.out 8).trans rfl
                        have hcz60_9 : w37.cell? ⟨gb142, 9, none⟩ = some (.int .i64 a0_9) := (blk_cell BK142.out 9).trans rfl
                        have hfz60_0 := blk_frozen BK142.out 0
                        have hfz60_1 := blk_frozen BK142.out 1
                        have hfz60_2 := blk_frozen BK142.out 2
                        have hfz60_3 := blk_frozen BK142.out 3
                        have hfz60_4 := blk_frozen BK142.out 4
                        have hfz60_5 := blk_frozen BK142.out 5
                        have hfz60_6 := blk_frozen BK142.out 6
                        have hfz60_7 := blk_frozen BK142.out 7
                        have hfz60_8 := blk_frozen BK142.out 8
                        have hfz60_9 := blk_frozen BK142.out 9
                        go_wp2
                        go_meet
                        case rel => exact ⟨_, (true), (by first | rfl | (simp; done) | (simp [*]; done)), H', ⟨by have := HJ4.out; have := HK2.out; first | omega | exact Nat.le_refl _⟩, ⟨by (with_reducible repeat (first | refine blk_drewN ?_ _ | refine blk_drew ?_ | refine blk_alloc ?_ _)); refine blk_far ?_ NB142_164.out _; (with_reducible repeat (first | refine blk_drewN ?_ _ | refine blk_drew ?_ | refine blk_alloc ?_ _)); refine blk_far ?_ NB142_164.out _; (with_reducible repeat (first | refine blk_drewN ?_ _ | refine blk_drew ?_ | refine blk_alloc ?_ _)); refine blk_far ?_ NB142_164.out _; (with_reducible repeat (first | refine blk_drewN ?_ _ | refine blk_drew ?_ | refine blk_alloc ?_ _)); refine blk_far ?_ NB142_164.out _; (with_reducible repeat (first | refine blk_drewN ?_ _ | refine blk_drew ?_ | refine blk_alloc ?_ _)); refine blk_far ?_ NB142_164.out _; (with_reducible repeat (first | refine blk_drewN ?_ _ | refine blk_drew ?_ | refine blk_alloc ?_ _)); exact BK142.out⟩, ⟨by (with_reducible repeat (first | refine blk_drewN ?_ _ | refine blk_drew ?_ | refine blk_alloc ?_ _)); refine blk_far ?_ NB147_164.out _; (with_reducible repeat (first | refine blk_drewN ?_ _ | refine blk_drew ?_ | refine blk_alloc ?_ _)); refine blk_far ?_ NB147_164.out _; (with_reducible repeat (first | refine blk_drewN ?_ _ | refine blk_drew ?_ | refine blk_alloc ?_ _)); refine blk_far ?_ NB147_164.out _; (with_reducible repeat (first | refine blk_drewN ?_ _ | refine blk_drew ?_ | refine blk_alloc ?_ _)); refine blk_far ?_ NB147_164.out _; (with_reducible repeat (first | refine blk_drewN ?_ _ | refine blk_drew ?_ | refine blk_alloc ?_ _)); refine blk_far ?_ NB147_164.out _; (with_reducible repeat (first | refine blk_drewN ?_ _ | refine blk_drew ?_ | refine blk_alloc ?_ _)); exact BK147.out⟩, ⟨by (with_reducible repeat (first | refine blk_drewN ?_ _ | refine blk_drew ?_ | refine blk_alloc ?_ _)); refine blk_far ?_ NB153_164.out _; (with_reducible repeat (first | refine blk_drewN ?_ _ | refine blk_drew ?_ | refine blk_alloc ?_ _)); refine blk_far ?_ NB153_164.out _; (with_reducible repeat (first | refine blk_drewN ?_ _ | refine blk_drew ?_ | refine blk_alloc ?_ _)); refine blk_far ?_ NB153_164.out _; (with_reducible repeat (first | refine blk_drewN ?_ _ | refine blk_drew ?_ | refine blk_alloc ?_ _)); refine blk_far ?_ NB153_164.out _; (with_reducible repeat (first | refine blk_drewN ?_ _ | refine blk_drew ?_ | refine blk_alloc ?_ _)); refine blk_far ?_ NB153_164.out _; (with_reducible repeat (first | refine blk_drewN ?_ _ | refine blk_drew ?_ | refine blk_alloc ?_ _)); exact BK153.out⟩, ⟨by (with_reducible repeat (first | refine blk_drewN ?_ _ | refine blk_drew ?_ | refine blk_alloc ?_ _)); refine blk_put (cs := #[.bool t159, .bool t160, .bool t161, .bool t162, .bool false]) ?_ 4 _ rfl; (with_reducible repeat (first | refine blk_drewN ?_ _ | refine blk_drew ?_ | refine blk_alloc ?_ _)); refine blk_put (cs := #[.bool t159, .bool t160, .bool t161, .bool false, .bool false]) ?_ 3 _ rfl; (with_reducible repeat (first | refine blk_drewN ?_ _ | refine blk_drew ?_ | refine blk_alloc ?_ _)); refine blk_put (cs := #[.bool t159, .bool t160, .bool false, .bool false, .bool false]) ?_ 2 _ rfl; (with_reducible repeat (first | refine blk_drewN ?_ _ | refine blk_drew ?_ | refine blk_alloc ?_ _)); refine blk_put (cs := #[.bool t159, .bool false, .bool false, .bool false, .bool false]) ?_ 1 _ rfl; (with_reducible repeat (first | refine blk_drewN ?_ _ | refine blk_drew ?_ | refine blk_alloc ?_ _)); refine blk_put (cs := #[.bool false, .bool false, .bool false, .bool false, .bool false]) ?_ 0 _ rfl; (with_reducible repeat (first | refine blk_drewN ?_ _ | refine blk_drew ?_ | refine blk_alloc ?_ _)); exact BK164.out⟩, ⟨by repeat (first | (with_reducible first | exact HB.out | apply below_alloc | apply pw_below_drewN | apply below_drew1 | refine below_set ?_ GE142.out | refine below_set ?_ GE147.out | refine below_set ?_ GE153.out | refine below_set ?_ GE164.out) | exact HB.out)⟩⟩
                      · rw [if_neg c51] at H
                        have c51b0 : decide (x8_2 < a0_2) = false := decide_eq_false c51
                        clear c51
                        (first | rw [c51b0] | (simp only [i64_w, i32_w]; rw [c51b0]) | skip)
                        obtain ⟨bq61, hbq61⟩ : ∃ b_ : Bool, b_ = ((rd_T36 l1 x9_2).f2) := ⟨_, rfl⟩
                        replace H : (if bq61 = true then (crossbucklaw20_PhaseExits.j2 k2 l1 t143 x8_2 x9_2 (decide (x8_2 < (wrap64 (a0_2 + a0_6)))) a0_0 a0_1 a0_2 a0_3 a0_4 a0_5 a0_6 a0_7 a0_8 a0_9 t157 t158 t159 t160 t161 t162 true) else (crossbucklaw20_PhaseExits.j2 k2 l1 t143 x8_2 x9_2 false a0_0 a0_1 a0_2 a0_3 a0_4 a0_5 a0_6 a0_7 a0_8 a0_9 t157 t158 t159 t160 t161 t162 true)) = some r := by rw [← hbq61] at H; exact H
                        have Nbq61 := Aside0.mk hbq61
                        clear hbq61
                        by_cases c62 : bq61 = true
                        · subst c62
                          have H1 : (crossbucklaw20_PhaseExits.j2 k2 l1 t143 x8_2 x9_2 (decide (x8_2 < (wrap64 (a0_2 + a0_6)))) a0_0 a0_1 a0_2 a0_3 a0_4 a0_5 a0_6 a0_7 a0_8 a0_9 t157 t158 t159 t160 t161 t162 true) = some r := by rw [if_pos rfl] at H; exact H
                          clear H
                          have H := H1
                          clear H1
                          have H' := Aside0.mk H
                          clear H
                          have hnb63 := NB164_142.out
                          have hnc63 := NB142_164.out
                          have hnb64 := NB164_147.out
                          have hnc64 := NB147_164.out
                          have hnb65 := NB164_153.out
                          have hnc65 := NB153_164.out
                          have hcz66_0 : w37.cell? ⟨gb164, 0, none⟩ = some (.bool false) := (blk_cell BK164.out 0).trans rfl
                          have hcz66_1 : w37.cell? ⟨gb164, 1, none⟩ = some (.bool false) := (blk_cell BK164.out 1).trans rfl
                          have hcz66_2 : w37.cell? ⟨gb164, 2, none⟩ = some (.bool false) := (blk_cell BK164.out 2).trans rfl
                          have hcz66_3 : w37.cell? ⟨gb164, 3, none⟩ = some (.bool false) := (blk_cell BK164.out 3).trans rfl
                          have hcz66_4 : w37.cell? ⟨gb164, 4, none⟩ = some (.bool false) := (blk_cell BK164.out 4).trans rfl
                          have hfz66_0 := blk_frozen BK164.out 0
                          have hfz66_1 := blk_frozen BK164.out 1
                          have hfz66_2 := blk_frozen BK164.out 2
                          have hfz66_3 := blk_frozen BK164.out 3
                          have hfz66_4 := blk_frozen BK164.out 4
                          have hnb67 := NB153_142.out
                          have hnc67 := NB142_153.out
                          have hnb68 := NB153_147.out
                          have hnc68 := NB147_153.out
                          have hcz69_0 : w37.cell? ⟨gb153, 0, none⟩ = some (.bool t148) := (blk_cell BK153.out 0).trans rfl
                          have hcz69_1 : w37.cell? ⟨gb153, 1, none⟩ = some (.bool t149) := (blk_cell BK153.out 1).trans rfl
                          have hcz69_2 : w37.cell? ⟨gb153, 2, none⟩ = some (.bool t150) := (blk_cell BK153.out 2).trans rfl
                          have hcz69_3 : w37.cell? ⟨gb153, 3, none⟩ = some (.bool t151) := (blk_cell BK153.out 3).trans rfl
                          have hcz69_4 : w37.cell? ⟨gb153, 4, none⟩ = some (.bool false) := (blk_cell BK153.out 4).trans rfl
                          have hfz69_0 := blk_frozen BK153.out 0
                          have hfz69_1 := blk_frozen BK153.out 1
                          have hfz69_2 := blk_frozen BK153.out 2
                          have hfz69_3 := blk_frozen BK153.out 3
                          have hfz69_4 := blk_frozen BK153.out 4
                          have hnb70 := NB142_147.out
                          have hnc70 := NB147_142.out
                          have hcz71_0 : w37.cell? ⟨gb142, 0, none⟩ = some (.int .i64 a0_0) := (blk_cell BK142.out 0).trans rfl
                          have hcz71_1 : w37.cell? ⟨gb142, 1, none⟩ = some (.int .i64 a0_1) := (blk_cell BK142.out 1).trans rfl
                          have hcz71_2 : w37.cell? ⟨gb142, 2, none⟩ = some (.int .i64 a0_2) := (blk_cell BK142.out 2).trans rfl
                          have hcz71_3 : w37.cell? ⟨gb142, 3, none⟩ = some (.int .i64 a0_3) := (blk_cell BK142.out 3).trans rfl
                          have hcz71_4 : w37.cell? ⟨gb142, 4, none⟩ = some (.int .i64 a0_4) := (blk_cell BK142.out 4).trans rfl
                          have hcz71_5 : w37.cell? ⟨gb142, 5, none⟩ = some (.int .i64 a0_5) := (blk_cell BK142.out 5).trans rfl
                          have hcz71_6 : w37.cell? ⟨gb142, 6, none⟩ = some (.int .i64 a0_6) := (blk_cell BK142.out 6).trans rfl
                          have hcz71_7 : w37.cell? ⟨gb142, 7, none⟩ = some (.int .i64 a0_7) := (blk_cell BK142.out 7).trans rfl
                          have hcz71_8 : w37.cell? ⟨gb142, 8, none⟩ = some (.int .i64 a0_8) := (blk_cell BK142.out 8).trans rfl
                          have hcz71_9 : w37.cell? ⟨gb142, 9, none⟩ = some (.int .i64 a0_9) := (blk_cell BK142.out 9).trans rfl
                          have hfz71_0 := blk_frozen BK142.out 0
                          have hfz71_1 := blk_frozen BK142.out 1
                          have hfz71_2 := blk_frozen BK142.out 2
                          have hfz71_3 := blk_frozen BK142.out 3
                          have hfz71_4 := blk_frozen BK142.out 4
                          have hfz71_5 := blk_frozen BK142.out 5
                          have hfz71_6 := blk_frozen BK142.out 6
                          have hfz71_7 := blk_frozen BK142.out 7
                          have hfz71_8 := blk_frozen BK142.out 8
                          have hfz71_9 := blk_frozen BK142.out 9
                          have p165 : 0 ≤ (x9_2 : Int) := of_decide_eq_true (by first | (with_reducible assumption) | assumption)
                          have q165 : x9_2 < (l1.length : Int) := of_decide_eq_true (by first | (with_reducible assumption) | assumption)
                          obtain ⟨ad165, e165, hx165_0, hx165_1, hx165_2, hx165_3, hx165_4, hx165_5, hx165_6⟩ := at_T36 HR1.out x9_2 p165 q165
                          (try rw [← Nbq61.out] at hx165_0)
                          (try rw [← Nbq61.out] at hx165_1)
                          (try rw [← Nbq61.out] at hx165_2)
                          (try rw [← Nbq61.out] at hx165_3)
                          (try rw [← Nbq61.out] at hx165_4)
                          (try rw [← Nbq61.out] at hx165_5)
                          (try rw [← Nbq61.out] at hx165_6)
                          obtain rfl : ad154 = ad165 := (by injection e165)
                          have hn165_0 : ad154.block ≠ gb164 := Nat.ne_of_lt (Nat.lt_of_lt_of_le (by have := World.block_lt_of_cell? _ _ hx165_0; first | rwa [add_block] at this | exact this) GW164.out)
                          have hn165_1 : ad154.block ≠ gb164 := Nat.ne_of_lt (Nat.lt_of_lt_of_le (by have := World.block_lt_of_cell? _ _ hx165_0; first | rwa [add_block] at this | exact this) GW164.out)
                          have hn165_2 : ad154.block ≠ gb164 := Nat.ne_of_lt (Nat.lt_of_lt_of_le (by have := World.block_lt_of_cell? _ _ hx165_0; first | rwa [add_block] at this | exact this) GW164.out)
                          have hn165_3 : ad154.block ≠ gb164 := Nat.ne_of_lt (Nat.lt_of_lt_of_le (by have := World.block_lt_of_cell? _ _ hx165_0; first | rwa [add_block] at this | exact this) GW164.out)
                          have hn165_4 : ad154.block ≠ gb164 := Nat.ne_of_lt (Nat.lt_of_lt_of_le (by have := World.block_lt_of_cell? _ _ hx165_0; first | rwa [add_block] at this | exact this) GW164.out)
                          replace hx165_0 := (HB.out.cell (World.block_lt_of_cell? w _ hx165_0)).trans hx165_0
                          replace hx165_1 := (HB.out.cell (World.block_lt_of_cell? w _ hx165_1)).trans hx165_1
                          replace hx165_2 := (HB.out.cell (World.block_lt_of_cell? w _ hx165_2)).trans hx165_2
                          replace hx165_3 := (HB.out.cell (World.block_lt_of_cell? w _ hx165_3)).trans hx165_3
                          replace hx165_4 := (HB.out.cell (World.block_lt_of_cell? w _ hx165_4)).trans hx165_4
                          replace hx165_5 := (HB.out.cell (World.block_lt_of_cell? w _ hx165_5)).trans hx165_5
                          replace hx165_6 := (HB.out.cell (World.block_lt_of_cell? w _ hx165_6)).trans hx165_6
                          replace hx165_0 := (cell_far (p := ⟨gb164, 0, none⟩) (by first | (rw [add_block]; exact hn165_0) | (show (Addr.add _ _).block ≠ _; rw [add_block]; exact hn165_0) | exact hn165_0) (.bool t159)).trans hx165_0
                          replace hx165_1 := (cell_far (p := ⟨gb164, 0, none⟩) (by first | (rw [add_block]; exact hn165_0) | (show (Addr.add _ _).block ≠ _; rw [add_block]; exact hn165_0) | exact hn165_0) (.bool t159)).trans hx165_1
                          replace hx165_2 := (cell_far (p := ⟨gb164, 0, none⟩) (by first | (rw [add_block]; exact hn165_0) | (show (Addr.add _ _).block ≠ _; rw [add_block]; exact hn165_0) | exact hn165_0) (.bool t159)).trans hx165_2
                          replace hx165_3 := (cell_far (p := ⟨gb164, 0, none⟩) (by first | (rw [add_block]; exact hn165_0) | (show (Addr.add _ _).block ≠ _; rw [add_block]; exact hn165_0) | exact hn165_0) (.bool t159)).trans hx165_3
                          replace hx165_4 := (cell_far (p := ⟨gb164, 0, none⟩) (by first | (rw [add_block]; exact hn165_0) | (show (Addr.add _ _).block ≠ _; rw [add_block]; exact hn165_0) | exact hn165_0) (.bool t159)).trans hx165_4
                          replace hx165_5 := (cell_far (p := ⟨gb164, 0, none⟩) (by first | (rw [add_block]; exact hn165_0) | (show (Addr.add _ _).block ≠ _; rw [add_block]; exact hn165_0) | exact hn165_0) (.bool t159)).trans hx165_5
                          replace hx165_6 := (cell_far (p := ⟨gb164, 0, none⟩) (by first | (rw [add_block]; exact hn165_0) | (show (Addr.add _ _).block ≠ _; rw [add_block]; exact hn165_0) | exact hn165_0) (.bool t159)).trans hx165_6
                          replace hx165_0 := (cell_far (p := ⟨gb164, 1, none⟩) (by first | (rw [add_block]; exact hn165_1) | (show (Addr.add _ _).block ≠ _; rw [add_block]; exact hn165_1) | exact hn165_1) (.bool t160)).trans hx165_0
                          replace hx165_1 := (cell_far (p := ⟨gb164, 1, none⟩) (by first | (rw [add_block]; exact hn165_1) | (show (Addr.add _ _).block ≠ _; rw [add_block]; exact hn165_1) | exact hn165_1) (.bool t160)).trans hx165_1
                          replace hx165_2 := (cell_far (p := ⟨gb164, 1, none⟩) (by first | (rw [add_block]; exact hn165_1) | (show (Addr.add _ _).block ≠ _; rw [add_block]; exact hn165_1) | exact hn165_1) (.bool t160)).trans hx165_2
                          replace hx165_3 := (cell_far (p := ⟨gb164, 1, none⟩) (by first | (rw [add_block]; exact hn165_1) | (show (Addr.add _ _).block ≠ _; rw [add_block]; exact hn165_1) | exact hn165_1) (.bool t160)).trans hx165_3
                          replace hx165_4 := (cell_far (p := ⟨gb164, 1, none⟩) (by first | (rw [add_block]; exact hn165_1) | (show (Addr.add _ _).block ≠ _; rw [add_block]; exact hn165_1) | exact hn165_1) (.bool t160)).trans hx165_4
                          replace hx165_5 := (cell_far (p := ⟨gb164, 1, none⟩) (by first | (rw [add_block]; exact hn165_1) | (show (Addr.add _ _).block ≠ _; rw [add_block]; exact hn165_1) | exact hn165_1) (.bool t160)).trans hx165_5
                          replace hx165_6 := (cell_far (p := ⟨gb164, 1, none⟩) (by first | (rw [add_block]; exact hn165_1) | (show (Addr.add _ _).block ≠ _; rw [add_block]; exact hn165_1) | exact hn165_1) (.bool t160)).trans hx165_6
                          replace hx165_0 := (cell_far (p := ⟨gb164, 2, none⟩) (by first | (rw [add_block]; exact hn165_2) | (show (Addr.add _ _).block ≠ _; rw [add_block]; exact hn165_2) | exact hn165_2) (.bool t161)).trans hx165_0
                          replace hx165_1 := (cell_far (p := ⟨gb164, 2, none⟩) (by first | (rw [add_block]; exact hn165_2) | (show (Addr.add _ _).block ≠ _; rw [add_block]; exact hn165_2) | exact hn165_2) (.bool t161)).trans hx165_1
                          replace hx165_2 := (cell_far (p := ⟨gb164, 2, none⟩) (by first | (rw [add_block]; exact hn165_2) | (show (Addr.add _ _).block ≠ _; rw [add_block]; exact hn165_2) | exact hn165_2) (.bool t161)).trans hx165_2
                          replace hx165_3 := (cell_far (p := ⟨gb164, 2, none⟩) (by first | (rw [add_block]; exact hn165_2) | (show (Addr.add _ _).block ≠ _; rw [add_block]; exact hn165_2) | exact hn165_2) (.bool t161)).trans hx165_3
                          replace hx165_4 := (cell_far (p := ⟨gb164, 2, none⟩) (by first | (rw [add_block]; exact hn165_2) | (show (Addr.add _ _).block ≠ _; rw [add_block]; exact hn165_2) | exact hn165_2) (.bool t161)).trans hx165_4
                          replace hx165_5 := (cell_far (p := ⟨gb164, 2, none⟩) (by first | (rw [add_block]; exact hn165_2) | (show (Addr.add _ _).block ≠ _; rw [add_block]; exact hn165_2) | exact hn165_2) (.bool t161)).trans hx165_5
                          replace hx165_6 := (cell_far (p := ⟨gb164, 2, none⟩) (by first | (rw [add_block]; exact hn165_2) | (show (Addr.add _ _).block ≠ _; rw [add_block]; exact hn165_2) | exact hn165_2) (.bool t161)).trans hx165_6
                          replace hx165_0 := (cell_far (p := ⟨gb164, 3, none⟩) (by first | (rw [add_block]; exact hn165_3) | (show (Addr.add _ _).block ≠ _; rw [add_block]; exact hn165_3) | exact hn165_3) (.bool t162)).trans hx165_0
                          replace hx165_1 := (cell_far (p := ⟨gb164, 3, none⟩) (by first | (rw [add_block]; exact hn165_3) | (show (Addr.add _ _).block ≠ _; rw [add_block]; exact hn165_3) | exact hn165_3) (.bool t162)).trans hx165_1
                          replace hx165_2 := (cell_far (p := ⟨gb164, 3, none⟩) (by first | (rw [add_block]; exact hn165_3) | (show (Addr.add _ _).block ≠ _; rw [add_block]; exact hn165_3) | exact hn165_3) (.bool t162)).trans hx165_2
                          replace hx165_3 := (cell_far (p := ⟨gb164, 3, none⟩) (by first | (rw [add_block]; exact hn165_3) | (show (Addr.add _ _).block ≠ _; rw [add_block]; exact hn165_3) | exact hn165_3) (.bool t162)).trans hx165_3
                          replace hx165_4 := (cell_far (p := ⟨gb164, 3, none⟩) (by first | (rw [add_block]; exact hn165_3) | (show (Addr.add _ _).block ≠ _; rw [add_block]; exact hn165_3) | exact hn165_3) (.bool t162)).trans hx165_4
                          replace hx165_5 := (cell_far (p := ⟨gb164, 3, none⟩) (by first | (rw [add_block]; exact hn165_3) | (show (Addr.add _ _).block ≠ _; rw [add_block]; exact hn165_3) | exact hn165_3) (.bool t162)).trans hx165_5
                          replace hx165_6 := (cell_far (p := ⟨gb164, 3, none⟩) (by first | (rw [add_block]; exact hn165_3) | (show (Addr.add _ _).block ≠ _; rw [add_block]; exact hn165_3) | exact hn165_3) (.bool t162)).trans hx165_6
                          replace hx165_0 := (cell_far (p := ⟨gb164, 4, none⟩) (by first | (rw [add_block]; exact hn165_4) | (show (Addr.add _ _).block ≠ _; rw [add_block]; exact hn165_4) | exact hn165_4) (.bool true)).trans hx165_0
                          replace hx165_1 := (cell_far (p := ⟨gb164, 4, none⟩) (by first | (rw [add_block]; exact hn165_4) | (show (Addr.add _ _).block ≠ _; rw [add_block]; exact hn165_4) | exact hn165_4) (.bool true)).trans hx165_1
                          replace hx165_2 := (cell_far (p := ⟨gb164, 4, none⟩) (by first | (rw [add_block]; exact hn165_4) | (show (Addr.add _ _).block ≠ _; rw [add_block]; exact hn165_4) | exact hn165_4) (.bool true)).trans hx165_2
                          replace hx165_3 := (cell_far (p := ⟨gb164, 4, none⟩) (by first | (rw [add_block]; exact hn165_4) | (show (Addr.add _ _).block ≠ _; rw [add_block]; exact hn165_4) | exact hn165_4) (.bool true)).trans hx165_3
                          replace hx165_4 := (cell_far (p := ⟨gb164, 4, none⟩) (by first | (rw [add_block]; exact hn165_4) | (show (Addr.add _ _).block ≠ _; rw [add_block]; exact hn165_4) | exact hn165_4) (.bool true)).trans hx165_4
                          replace hx165_5 := (cell_far (p := ⟨gb164, 4, none⟩) (by first | (rw [add_block]; exact hn165_4) | (show (Addr.add _ _).block ≠ _; rw [add_block]; exact hn165_4) | exact hn165_4) (.bool true)).trans hx165_5
                          replace hx165_6 := (cell_far (p := ⟨gb164, 4, none⟩) (by first | (rw [add_block]; exact hn165_4) | (show (Addr.add _ _).block ≠ _; rw [add_block]; exact hn165_4) | exact hn165_4) (.bool true)).trans hx165_6
                          clear hn165_0
                          clear hn165_1
                          clear hn165_2
                          clear hn165_3
                          clear hn165_4
                          replace p165 := eq_true p165
                          replace q165 := eq_true q165
                          go_wp2
                          go_meet
                          case rel => exact ⟨_, (decide (x8_2 < (wrap64 (a0_2 + a0_6)))), (by first | rfl | (simp; done) | (simp [*]; done)), H', ⟨by have := HJ4.out; have := HK2.out; first | omega | exact Nat.le_refl _⟩, ⟨by (with_reducible repeat (first | refine blk_drewN ?_ _ | refine blk_drew ?_ | refine blk_alloc ?_ _)); refine blk_far ?_ NB142_164.out _; (with_reducible repeat (first | refine blk_drewN ?_ _ | refine blk_drew ?_ | refine blk_alloc ?_ _)); refine blk_far ?_ NB142_164.out _; (with_reducible repeat (first | refine blk_drewN ?_ _ | refine blk_drew ?_ | refine blk_alloc ?_ _)); refine blk_far ?_ NB142_164.out _; (with_reducible repeat (first | refine blk_drewN ?_ _ | refine blk_drew ?_ | refine blk_alloc ?_ _)); refine blk_far ?_ NB142_164.out _; (with_reducible repeat (first | refine blk_drewN ?_ _ | refine blk_drew ?_ | refine blk_alloc ?_ _)); refine blk_far ?_ NB142_164.out _; (with_reducible repeat (first | refine blk_drewN ?_ _ | refine blk_drew ?_ | refine blk_alloc ?_ _)); exact BK142.out⟩, ⟨by (with_reducible repeat (first | refine blk_drewN ?_ _ | refine blk_drew ?_ | refine blk_alloc ?_ _)); refine blk_far ?_ NB147_164.out _; (with_reducible repeat (first | refine blk_drewN ?_ _ | refine blk_drew ?_ | refine blk_alloc ?_ _)); refine blk_far ?_ NB147_164.out _; (with_reducible repeat (first | refine blk_drewN ?_ _ | refine blk_drew ?_ | refine blk_alloc ?_ _)); refine blk_far ?_ NB147_164.out _; (with_reducible repeat (first | refine blk_drewN ?_ _ | refine blk_drew ?_ | refine blk_alloc ?_ _)); refine blk_far ?_ NB147_164.out _; (with_reducible repeat (first | refine blk_drewN ?_ _ | refine blk_drew ?_ | refine blk_alloc ?_ _)); refine blk_far ?_ NB147_164.out _; (with_reducible repeat (first | refine blk_drewN ?_ _ | refine blk_drew ?_ | refine blk_alloc ?_ _)); exact BK147.out⟩, ⟨by (with_reducible repeat (first | refine blk_drewN ?_ _ | refine blk_drew ?_ | refine blk_alloc ?_ _)); refine blk_far ?_ NB153_164.out _; (with_reducible repeat (first | refine blk_drewN ?_ _ | refine blk_drew ?_ | refine blk_alloc ?_ _)); refine blk_far ?_ NB153_164.out _; (with_reducible repeat (first | refine blk_drewN ?_ _ | refine blk_drew ?_ | refine blk_alloc ?_ _)); refine blk_far ?_ NB153_164.out _; (with_reducible repeat (first | refine blk_drewN ?_ _ | refine blk_drew ?_ | refine blk_alloc ?_ _)); refine blk_far ?_ NB153_164.out _; (with_reducible repeat (first | refine blk_drewN ?_ _ | refine blk_drew ?_ | refine blk_alloc ?_ _)); refine blk_far ?_ NB153_164.out _; (with_reducible repeat (first | refine blk_drewN ?_ _ | refine blk_drew ?_ | refine blk_alloc ?_ _)); exact BK153.out⟩, ⟨by (with_reducible repeat (first | refine blk_drewN ?_ _ | refine blk_drew ?_ | refine blk_alloc ?_ _)); refine blk_put (cs := #[.bool t159, .bool t160, .bool t161, .bool t162, .bool false]) ?_ 4 _ rfl; (with_reducible repeat (first | refine blk_drewN ?_ _ | refine blk_drew ?_ | refine blk_alloc ?_ _)); refine blk_put (cs := #[.bool t159, .bool t160, .bool t161, .bool false, .bool false]) ?_ 3 _ rfl; (with_reducible repeat (first | refine blk_drewN ?_ _ | refine blk_drew ?_ | refine blk_alloc ?_ _)); refine blk_put (cs := #[.bool t159, .bool t160, .bool false, .bool false, .bool false]) ?_ 2 _ rfl; (with_reducible repeat (first | refine blk_drewN ?_ _ | refine blk_drew ?_ | refine blk_alloc ?_ _)); refine blk_put (cs := #[.bool t159, .bool false, .bool false, .bool false, .bool false]) ?_ 1 _ rfl; (with_reducible repeat (first | refine blk_drewN ?_ _ | refine blk_drew ?_ | refine blk_alloc ?_ _)); refine blk_put (cs := #[.bool false, .bool false, .bool false, .bool false, .bool false]) ?_ 0 _ rfl; (with_reducible repeat (first | refine blk_drewN ?_ _ | refine blk_drew ?_ | refine blk_alloc ?_ _)); exact BK164.out⟩, ⟨by repeat (first | (with_reducible first | exact HB.out | apply below_alloc | apply pw_below_drewN | apply below_drew1 | refine below_set ?_ GE142.out | refine below_set ?_ GE147.out | refine below_set ?_ GE153.out | refine below_set ?_ GE164.out) | exact HB.out)⟩⟩
                        · replace c62 := Bool.eq_false_iff.mpr c62
                          subst c62
                          have H1 : (crossbucklaw20_PhaseExits.j2 k2 l1 t143 x8_2 x9_2 false a0_0 a0_1 a0_2 a0_3 a0_4 a0_5 a0_6 a0_7 a0_8 a0_9 t157 t158 t159 t160 t161 t162 true) = some r := by rw [if_neg (show ¬ (false = true) by decide)] at H; exact H
                          clear H
                          have H := H1
                          clear H1
                          have H' := Aside0.mk H
                          clear H
                          have hnb72 := NB164_142.out
                          have hnc72 := NB142_164.out
                          have hnb73 := NB164_147.out
                          have hnc73 := NB147_164.out
                          have hnb74 := NB164_153.out
                          have hnc74 := NB153_164.out
                          have hcz75_0 : w37.cell? ⟨gb164, 0, none⟩ = some (.bool false) := (blk_cell BK164.out 0).trans rfl
                          have hcz75_1 : w37.cell? ⟨gb164, 1, none⟩ = some (.bool false) := (blk_cell BK164.out 1).trans rfl
                          have hcz75_2 : w37.cell? ⟨gb164, 2, none⟩ = some (.bool false) := (blk_cell BK164.out 2).trans rfl
                          have hcz75_3 : w37.cell? ⟨gb164, 3, none⟩ = some (.bool false) := (blk_cell BK164.out 3).trans rfl
                          have hcz75_4 : w37.cell? ⟨gb164, 4, none⟩ = some (.bool false) := (blk_cell BK164.out 4).trans rfl
                          have hfz75_0 := blk_frozen BK164.out 0
                          have hfz75_1 := blk_frozen BK164.out 1
                          have hfz75_2 := blk_frozen BK164.out 2
                          have hfz75_3 := blk_frozen BK164.out 3
                          have hfz75_4 := blk_frozen BK164.out 4
                          have hnb76 := NB153_142.out
                          have hnc76 := NB142_153.out
                          have hnb77 := NB153_147.out
                          have hnc77 := NB147_153.out
                          have hcz78_0 : w37.cell? ⟨gb153, 0, none⟩ = some (.bool t148) := (blk_cell BK153.out 0).trans rfl
                          have hcz78_1 : w37.cell? ⟨gb153, 1, none⟩ = some (.bool t149) := (blk_cell BK153.out 1).trans rfl
                          have hcz78_2 : w37.cell? ⟨gb153, 2, none⟩ = some (.bool t150) := (blk_cell BK153.out 2).trans rfl
                          have hcz78_3 : w37.cell? ⟨gb153, 3, none⟩ = some (.bool t151) := (blk_cell BK153.out 3).trans rfl
                          have hcz78_4 : w37.cell? ⟨gb153, 4, none⟩ = some (.bool false) := (blk_cell BK153.out 4).trans rfl
                          have hfz78_0 := blk_frozen BK153.out 0
                          have hfz78_1 := blk_frozen BK153.out 1
                          have hfz78_2 := blk_frozen BK153.out 2
                          have hfz78_3 := blk_frozen BK153.out 3
                          have hfz78_4 := blk_frozen BK153.out 4
                          have hnb79 := NB142_147.out
                          have hnc79 := NB147_142.out
                          have hcz80_0 : w37.cell? ⟨gb142, 0, none⟩ = some (.int .i64 a0_0) := (blk_cell BK142.out 0).trans rfl
                          have hcz80_1 : w37.cell? ⟨gb142, 1, none⟩ = some (.int .i64 a0_1) := (blk_cell BK142.out 1).trans rfl
                          have hcz80_2 : w37.cell? ⟨gb142, 2, none⟩ = some (.int .i64 a0_2) := (blk_cell BK142.out 2).trans rfl
                          have hcz80_3 : w37.cell? ⟨gb142, 3, none⟩ = some (.int .i64 a0_3) := (blk_cell BK142.out 3).trans rfl
                          have hcz80_4 : w37.cell? ⟨gb142, 4, none⟩ = some (.int .i64 a0_4) := (blk_cell BK142.out 4).trans rfl
                          have hcz80_5 : w37.cell? ⟨gb142, 5, none⟩ = some (.int .i64 a0_5) := (blk_cell BK142.out 5).trans rfl
                          have hcz80_6 : w37.cell? ⟨gb142, 6, none⟩ = some (.int .i64 a0_6) := (blk_cell BK142.out 6).trans rfl
                          have hcz80_7 : w37.cell? ⟨gb142, 7, none⟩ = some (.int .i64 a0_7) := (blk_cell BK142.out 7).trans rfl
                          have hcz80_8 : w37.cell? ⟨gb142, 8, none⟩ = some (.int .i64 a0_8) := (blk_cell BK142.out 8).trans rfl
                          have hcz80_9 : w37.cell? ⟨gb142, 9, none⟩ = some (.int .i64 a0_9) := (blk_cell BK142.out 9).trans rfl
                          have hfz80_0 := blk_frozen BK142.out 0
                          have hfz80_1 := blk_frozen BK142.out 1
                          have hfz80_2 := blk_frozen BK142.out 2
                          have hfz80_3 := blk_frozen BK142.out 3
                          have hfz80_4 := blk_frozen BK142.out 4
                          have hfz80_5 := blk_frozen BK142.out 5
                          have hfz80_6 := blk_frozen BK142.out 6
                          have hfz80_7 := blk_frozen BK142.out 7
                          have hfz80_8 := blk_frozen BK142.out 8
                          have hfz80_9 := blk_frozen BK142.out 9
                          have p165 : 0 ≤ (x9_2 : Int) := of_decide_eq_true (by first | (with_reducible assumption) | assumption)
                          have q165 : x9_2 < (l1.length : Int) := of_decide_eq_true (by first | (with_reducible assumption) | assumption)
                          obtain ⟨ad165, e165, hx165_0, hx165_1, hx165_2, hx165_3, hx165_4, hx165_5, hx165_6⟩ := at_T36 HR1.out x9_2 p165 q165
                          (try rw [← Nbq61.out] at hx165_0)
                          (try rw [← Nbq61.out] at hx165_1)
                          (try rw [← Nbq61.out] at hx165_2)
                          (try rw [← Nbq61.out] at hx165_3)
                          (try rw [← Nbq61.out] at hx165_4)
                          (try rw [← Nbq61.out] at hx165_5)
                          (try rw [← Nbq61.out] at hx165_6)
                          obtain rfl : ad154 = ad165 := (by injection e165)
                          have hn165_0 : ad154.block ≠ gb164 := Nat.ne_of_lt (Nat.lt_of_lt_of_le (by have := World.block_lt_of_cell? _ _ hx165_0; first | rwa [add_block] at this | exact this) GW164.out)
                          have hn165_1 : ad154.block ≠ gb164 := Nat.ne_of_lt (Nat.lt_of_lt_of_le (by have := World.block_lt_of_cell? _ _ hx165_0; first | rwa [add_block] at this | exact this) GW164.out)
                          have hn165_2 : ad154.block ≠ gb164 := Nat.ne_of_lt (Nat.lt_of_lt_of_le (by have := World.block_lt_of_cell? _ _ hx165_0; first | rwa [add_block] at this | exact this) GW164.out)
                          have hn165_3 : ad154.block ≠ gb164 := Nat.ne_of_lt (Nat.lt_of_lt_of_le (by have := World.block_lt_of_cell? _ _ hx165_0; first | rwa [add_block] at this | exact this) GW164.out)
                          have hn165_4 : ad154.block ≠ gb164 := Nat.ne_of_lt (Nat.lt_of_lt_of_le (by have := World.block_lt_of_cell? _ _ hx165_0; first | rwa [add_block] at this | exact this) GW164.out)
                          replace hx165_0 := (HB.out.cell (World.block_lt_of_cell? w _ hx165_0)).trans hx165_0
                          replace hx165_1 := (HB.out.cell (World.block_lt_of_cell? w _ hx165_1)).trans hx165_1
                          replace hx165_2 := (HB.out.cell (World.block_lt_of_cell? w _ hx165_2)).trans hx165_2
                          replace hx165_3 := (HB.out.cell (World.block_lt_of_cell? w _ hx165_3)).trans hx165_3
                          replace hx165_4 := (HB.out.cell (World.block_lt_of_cell? w _ hx165_4)).trans hx165_4
                          replace hx165_5 := (HB.out.cell (World.block_lt_of_cell? w _ hx165_5)).trans hx165_5
                          replace hx165_6 := (HB.out.cell (World.block_lt_of_cell? w _ hx165_6)).trans hx165_6
                          replace hx165_0 := (cell_far (p := ⟨gb164, 0, none⟩) (by first | (rw [add_block]; exact hn165_0) | (show (Addr.add _ _).block ≠ _; rw [add_block]; exact hn165_0) | exact hn165_0) (.bool t159)).trans hx165_0
                          replace hx165_1 := (cell_far (p := ⟨gb164, 0, none⟩) (by first | (rw [add_block]; exact hn165_0) | (show (Addr.add _ _).block ≠ _; rw [add_block]; exact hn165_0) | exact hn165_0) (.bool t159)).trans hx165_1
                          replace hx165_2 := (cell_far (p := ⟨gb164, 0, none⟩) (by first | (rw [add_block]; exact hn165_0) | (show (Addr.add _ _).block ≠ _; rw [add_block]; exact hn165_0) | exact hn165_0) (.bool t159)).trans hx165_2
                          replace hx165_3 := (cell_far (p := ⟨gb164, 0, none⟩) (by first | (rw [add_block]; exact hn165_0) | (show (Addr.add _ _).block ≠ _; rw [add_block]; exact hn165_0) | exact hn165_0) (.bool t159)).trans hx165_3
                          replace hx165_4 := (cell_far (p := ⟨gb164, 0, none⟩) (by first | (rw [add_block]; exact hn165_0) | (show (Addr.add _ _).block ≠ _; rw [add_block]; exact hn165_0) | exact hn165_0) (.bool t159)).trans hx165_4
                          replace hx165_5 := (cell_far (p := ⟨gb164, 0, none⟩) (by first | (rw [add_block]; exact hn165_0) | (show (Addr.add _ _).block ≠ _; rw [add_block]; exact hn165_0) | exact hn165_0) (.bool t159)).trans hx165_5
                          replace hx165_6 := (cell_far (p := ⟨gb164, 0, none⟩) (by first | (rw [add_block]; exact hn165_0) | (show (Addr.add _ _).block ≠ _; rw [add_block]; exact hn165_0) | exact hn165_0) (.bool t159)).trans hx165_6
                          replace hx165_0 := (cell_far (p := ⟨gb164, 1, none⟩) (by first | (rw [add_block]; exact hn165_1) | (show (Addr.add _ _).block ≠ _; rw [add_block]; exact hn165_1) | exact hn165_1) (.bool t160)).trans hx165_0
                          replace hx165_1 := (cell_far (p := ⟨gb164, 1, none⟩) (by first | (rw [add_block]; exact hn165_1) | (show (Addr.add _ _).block ≠ _; rw [add_block]; exact hn165_1) | exact hn165_1) (.bool t160)).trans hx165_1
                          replace hx165_2 := (cell_far (p := ⟨gb164, 1, none⟩) (by first | (rw [add_block]; exact hn165_1) | (show (Addr.add _ _).block ≠ _; rw [add_block]; exact hn165_1) | exact hn165_1) (.bool t160)).trans hx165_2
                          replace hx165_3 := (cell_far (p := ⟨gb164, 1, none⟩) (by first | (rw [add_block]; exact hn165_1) | (show (Addr.add _ _).block ≠ _; rw [add_block]; exact hn165_1) | exact hn165_1) (.bool t160)).trans hx165_3
                          replace hx165_4 := (cell_far (p := ⟨gb164, 1, none⟩) (by first | (rw [add_block]; exact hn165_1) | (show (Addr.add _ _).block ≠ _; rw [add_block]; exact hn165_1) | exact hn165_1) (.bool t160)).trans hx165_4
                          replace hx165_5 := (cell_far (p := ⟨gb164, 1, none⟩) (by first | (rw [add_block]; exact hn165_1) | (show (Addr.add _ _).block ≠ _; rw [add_block]; exact hn165_1) | exact hn165_1) (.bool t160)).trans hx165_5
                          replace hx165_6 := (cell_far (p := ⟨gb164, 1, none⟩) (by first | (rw [add_block]; exact hn165_1) | (show (Addr.add _ _).block ≠ _; rw [add_block]; exact hn165_1) | exact hn165_1) (.bool t160)).trans hx165_6
                          replace hx165_0 := (cell_far (p := ⟨gb164, 2, none⟩) (by first | (rw [add_block]; exact hn165_2) | (show (Addr.add _ _).block ≠ _; rw [add_block]; exact hn165_2) | exact hn165_2) (.bool t161)).trans hx165_0
                          replace hx165_1 := (cell_far (p := ⟨gb164, 2, none⟩) (by first | (rw [add_block]; exact hn165_2) | (show (Addr.add _ _).block ≠ _; rw [add_block]; exact hn165_2) | exact hn165_2) (.bool t161)).trans hx165_1
                          replace hx165_2 := (cell_far (p := ⟨gb164, 2, none⟩) (by first | (rw [add_block]; exact hn165_2) | (show (Addr.add _ _).block ≠ _; rw [add_block]; exact hn165_2) | exact hn165_2) (.bool t161)).trans hx165_2
                          replace hx165_3 := (cell_far (p := ⟨gb164, 2, none⟩) (by first | (rw [add_block]; exact hn165_2) | (show (Addr.add _ _).block ≠ _; rw [add_block]; exact hn165_2) | exact hn165_2) (.bool t161)).trans hx165_3
                          replace hx165_4 := (cell_far (p := ⟨gb164, 2, none⟩) (by first | (rw [add_block]; exact hn165_2) | (show (Addr.add _ _).block ≠ _; rw [add_block]; exact hn165_2) | exact hn165_2) (.bool t161)).trans hx165_4
                          replace hx165_5 := (cell_far (p := ⟨gb164, 2, none⟩) (by first | (rw [add_block]; exact hn165_2) | (show (Addr.add _ _).block ≠ _; rw [add_block]; exact hn165_2) | exact hn165_2) (.bool t161)).trans hx165_5
                          replace hx165_6 := (cell_far (p := ⟨gb164, 2, none⟩) (by first | (rw [add_block]; exact hn165_2) | (show (Addr.add _ _).block ≠ _; rw [add_block]; exact hn165_2) | exact hn165_2) (.bool t161)).trans hx165_6
                          replace hx165_0 := (cell_far (p := ⟨gb164, 3, none⟩) (by first | (rw [add_block]; exact hn165_3) | (show (Addr.add _ _).block ≠ _; rw [add_block]; exact hn165_3) | exact hn165_3) (.bool t162)).trans hx165_0
                          replace hx165_1 := (cell_far (p := ⟨gb164, 3, none⟩) (by first | (rw [add_block]; exact hn165_3) | (show (Addr.add _ _).block ≠ _; rw [add_block]; exact hn165_3) | exact hn165_3) (.bool t162)).trans hx165_1
                          replace hx165_2 := (cell_far (p := ⟨gb164, 3, none⟩) (by first | (rw [add_block]; exact hn165_3) | (show (Addr.add _ _).block ≠ _; rw [add_block]; exact hn165_3) | exact hn165_3) (.bool t162)).trans hx165_2
                          replace hx165_3 := (cell_far (p := ⟨gb164, 3, none⟩) (by first | (rw [add_block]; exact hn165_3) | (show (Addr.add _ _).block ≠ _; rw [add_block]; exact hn165_3) | exact hn165_3) (.bool t162)).trans hx165_3
                          replace hx165_4 := (cell_far (p := ⟨gb164, 3, none⟩) (by first | (rw [add_block]; exact hn165_3) | (show (Addr.add _ _).block ≠ _; rw [add_block]; exact hn165_3) | exact hn165_3) (.bool t162)).trans hx165_4
                          replace hx165_5 := (cell_far (p := ⟨gb164, 3, none⟩) (by first | (rw [add_block]; exact hn165_3) | (show (Addr.add _ _).block ≠ _; rw [add_block]; exact hn165_3) | exact hn165_3) (.bool t162)).trans hx165_5
                          replace hx165_6 := (cell_far (p := ⟨gb164, 3, none⟩) (by first | (rw [add_block]; exact hn165_3) | (show (Addr.add _ _).block ≠ _; rw [add_block]; exact hn165_3) | exact hn165_3) (.bool t162)).trans hx165_6
                          replace hx165_0 := (cell_far (p := ⟨gb164, 4, none⟩) (by first | (rw [add_block]; exact hn165_4) | (show (Addr.add _ _).block ≠ _; rw [add_block]; exact hn165_4) | exact hn165_4) (.bool true)).trans hx165_0
                          replace hx165_1 := (cell_far (p := ⟨gb164, 4, none⟩) (by first | (rw [add_block]; exact hn165_4) | (show (Addr.add _ _).block ≠ _; rw [add_block]; exact hn165_4) | exact hn165_4) (.bool true)).trans hx165_1
                          replace hx165_2 := (cell_far (p := ⟨gb164, 4, none⟩) (by first | (rw [add_block]; exact hn165_4) | (show (Addr.add _ _).block ≠ _; rw [add_block]; exact hn165_4) | exact hn165_4) (.bool true)).trans hx165_2
                          replace hx165_3 := (cell_far (p := ⟨gb164, 4, none⟩) (by first | (rw [add_block]; exact hn165_4) | (show (Addr.add _ _).block ≠ _; rw [add_block]; exact hn165_4) | exact hn165_4) (.bool true)).trans hx165_3
                          replace hx165_4 := (cell_far (p := ⟨gb164, 4, none⟩) (by first | (rw [add_block]; exact hn165_4) | (show (Addr.add _ _).block ≠ _; rw [add_block]; exact hn165_4) | exact hn165_4) (.bool true)).trans hx165_4
                          replace hx165_5 := (cell_far (p := ⟨gb164, 4, none⟩) (by first | (rw [add_block]; exact hn165_4) | (show (Addr.add _ _).block ≠ _; rw [add_block]; exact hn165_4) | exact hn165_4) (.bool true)).trans hx165_5
                          replace hx165_6 := (cell_far (p := ⟨gb164, 4, none⟩) (by first | (rw [add_block]; exact hn165_4) | (show (Addr.add _ _).block ≠ _; rw [add_block]; exact hn165_4) | exact hn165_4) (.bool true)).trans hx165_6
                          clear hn165_0
                          clear hn165_1
                          clear hn165_2
                          clear hn165_3
                          clear hn165_4
                          replace p165 := eq_true p165
                          replace q165 := eq_true q165
                          go_wp2
                          go_meet
                          case rel => exact ⟨_, (false), (by first | rfl | (simp; done) | (simp [*]; done)), H', ⟨by have := HJ4.out; have := HK2.out; first | omega | exact Nat.le_refl _⟩, ⟨by (with_reducible repeat (first | refine blk_drewN ?_ _ | refine blk_drew ?_ | refine blk_alloc ?_ _)); refine blk_far ?_ NB142_164.out _; (with_reducible repeat (first | refine blk_drewN ?_ _ | refine blk_drew ?_ | refine blk_alloc ?_ _)); refine blk_far ?_ NB142_164.out _; (with_reducible repeat (first | refine blk_drewN ?_ _ | refine blk_drew ?_ | refine blk_alloc ?_ _)); refine blk_far ?_ NB142_164.out _; (with_reducible repeat (first | refine blk_drewN ?_ _ | refine blk_drew ?_ | refine blk_alloc ?_ _)); refine blk_far ?_ NB142_164.out _; (with_reducible repeat (first | refine blk_drewN ?_ _ | refine blk_drew ?_ | refine blk_alloc ?_ _)); refine blk_far ?_ NB142_164.out _; (with_reducible repeat (first | refine blk_drewN ?_ _ | refine blk_drew ?_ | refine blk_alloc ?_ _)); exact BK142.out⟩, ⟨by (with_reducible repeat (first | refine blk_drewN ?_ _ | refine blk_drew ?_ | refine blk_alloc ?_ _)); refine blk_far ?_ NB147_164.out _; (with_reducible repeat (first | refine blk_drewN ?_ _ | refine blk_drew ?_ | refine blk_alloc ?_ _)); refine blk_far ?_ NB147_164.out _; (with_reducible repeat (first | refine blk_drewN ?_ _ | refine blk_drew ?_ | refine blk_alloc ?_ _)); refine blk_far ?_ NB147_164.out _; (with_reducible repeat (first | refine blk_drewN ?_ _ | refine blk_drew ?_ | refine blk_alloc ?_ _)); refine blk_far ?_ NB147_164.out _; (with_reducible repeat (first | refine blk_drewN ?_ _ | refine blk_drew ?_ | refine blk_alloc ?_ _)); refine blk_far ?_ NB147_164.out _; (with_reducible repeat (first | refine blk_drewN ?_ _ | refine blk_drew ?_ | refine blk_alloc ?_ _)); exact BK147.out⟩, ⟨by (with_reducible repeat (first | refine blk_drewN ?_ _ | refine blk_drew ?_ | refine blk_alloc ?_ _)); refine blk_far ?_ NB153_164.out _; (with_reducible repeat (first | refine blk_drewN ?_ _ | refine blk_drew ?_ | refine blk_alloc ?_ _)); refine blk_far ?_ NB153_164.out _; (with_reducible repeat (first | refine blk_drewN ?_ _ | refine blk_drew ?_ | refine blk_alloc ?_ _)); refine blk_far ?_ NB153_164.out _; (with_reducible repeat (first | refine blk_drewN ?_ _ | refine blk_drew ?_ | refine blk_alloc ?_ _)); refine blk_far ?_ NB153_164.out _; (with_reducible repeat (first | refine blk_drewN ?_ _ | refine blk_drew ?_ | refine blk_alloc ?_ _)); refine blk_far ?_ NB153_164.out _; (with_reducible repeat (first | refine blk_drewN ?_ _ | refine blk_drew ?_ | refine blk_alloc ?_ _)); exact BK153.out⟩, ⟨by (with_reducible repeat (first | refine blk_drewN ?_ _ | refine blk_drew ?_ | refine blk_alloc ?_ _)); refine blk_put (cs := #[.bool t159, .bool t160, .bool t161, .bool t162, .bool false]) ?_ 4 _ rfl; (with_reducible repeat (first | refine blk_drewN ?_ _ | refine blk_drew ?_ | refine blk_alloc ?_ _)); refine blk_put (cs := #[.bool t159, .bool t160, .bool t161, .bool false, .bool false]) ?_ 3 _ rfl; (with_reducible repeat (first | refine blk_drewN ?_ _ | refine blk_drew ?_ | refine blk_alloc ?_ _)); refine blk_put (cs := #[.bool t159, .bool t160, .bool false, .bool false, .bool false]) ?_ 2 _ rfl; (with_reducible repeat (first | refine blk_drewN ?_ _ | refine blk_drew ?_ | refine blk_alloc ?_ _)); refine blk_put (cs := #[.bool t159, .bool false, .bool false, .bool false, .bool false]) ?_ 1 _ rfl; (with_reducible repeat (first | refine blk_drewN ?_ _ | refine blk_drew ?_ | refine blk_alloc ?_ _)); refine blk_put (cs := #[.bool false, .bool false, .bool false, .bool false, .bool false]) ?_ 0 _ rfl; (with_reducible repeat (first | refine blk_drewN ?_ _ | refine blk_drew ?_ | refine blk_alloc ?_ _)); exact BK164.out⟩, ⟨by repeat (first | (with_reducible first | exact HB.out | apply below_alloc | apply pw_below_drewN | apply below_drew1 | refine below_set ?_ GE142.out | refine below_set ?_ GE147.out | refine below_set ?_ GE153.out | refine below_set ?_ GE164.out) | exact HB.out)⟩⟩
                  · replace c42 := Bool.eq_false_iff.mpr c42
                    subst c42
                    have H1 : (crossbucklaw20_PhaseExits.j2 k2 l1 t143 x8_2 x9_2 false a0_0 a0_1 a0_2 a0_3 a0_4 a0_5 a0_6 a0_7 a0_8 a0_9 t157 t158 t159 t160 t161 t162 false) = some r := by rw [if_neg (show ¬ (false = true) by decide)] at H; exact H
                    clear H
                    have H := H1
                    clear H1
                    have H' := Aside0.mk H
                    clear H
                    have hnb81 := NB164_142.out
                    have hnc81 := NB142_164.out
                    have hnb82 := NB164_147.out
                    have hnc82 := NB147_164.out
                    have hnb83 := NB164_153.out
                    have hnc83 := NB153_164.out
                    have hcz84_0 : w37.cell? ⟨gb164, 0, none⟩ = some (.bool false) := (blk_cell BK164.out 0).trans rfl
                    have hcz84_1 : w37.cell? ⟨gb164, 1, none⟩ = some (.bool false) := (blk_cell BK164.out 1).trans rfl
                    have hcz84_2 : w37.cell? ⟨gb164, 2, none⟩ = some (.bool false) := (blk_cell BK164.out 2).trans rfl
                    have hcz84_3 : w37.cell? ⟨gb164, 3, none⟩ = some (.bool false) := (blk_cell BK164.out 3).trans rfl
                    have hcz84_4 : w37.cell? ⟨gb164, 4, none⟩ = some (.bool false) := (blk_cell BK164.out 4).trans rfl
                    have hfz84_0 := blk_frozen BK164.out 0
                    have hfz84_1 := blk_frozen BK164.out 1
                    have hfz84_2 := blk_frozen BK164.out 2
                    have hfz84_3 := blk_frozen BK164.out 3
                    have hfz84_4 := blk_frozen BK164.out 4
                    go_wp2
                    go_meet
                    case rel => exact ⟨_, (false), (by first | rfl | (simp; done) | (simp [*]; done)), H', ⟨by have := HJ4.out; have := HK2.out; first | omega | exact Nat.le_refl _⟩, ⟨by (with_reducible repeat (first | refine blk_drewN ?_ _ | refine blk_drew ?_ | refine blk_alloc ?_ _)); refine blk_far ?_ NB142_164.out _; (with_reducible repeat (first | refine blk_drewN ?_ _ | refine blk_drew ?_ | refine blk_alloc ?_ _)); refine blk_far ?_ NB142_164.out _; (with_reducible repeat (first | refine blk_drewN ?_ _ | refine blk_drew ?_ | refine blk_alloc ?_ _)); refine blk_far ?_ NB142_164.out _; (with_reducible repeat (first | refine blk_drewN ?_ _ | refine blk_drew ?_ | refine blk_alloc ?_ _)); refine blk_far ?_ NB142_164.out _; (with_reducible repeat (first | refine blk_drewN ?_ _ | refine blk_drew ?_ | refine blk_alloc ?_ _)); refine blk_far ?_ NB142_164.out _; (with_reducible repeat (first | refine blk_drewN ?_ _ | refine blk_drew ?_ | refine blk_alloc ?_ _)); exact BK142.out⟩, ⟨by (with_reducible repeat (first | refine blk_drewN ?_ _ | refine blk_drew ?_ | refine blk_alloc ?_ _)); refine blk_far ?_ NB147_164.out _; (with_reducible repeat (first | refine blk_drewN ?_ _ | refine blk_drew ?_ | refine blk_alloc ?_ _)); refine blk_far ?_ NB147_164.out _; (with_reducible repeat (first | refine blk_drewN ?_ _ | refine blk_drew ?_ | refine blk_alloc ?_ _)); refine blk_far ?_ NB147_164.out _; (with_reducible repeat (first | refine blk_drewN ?_ _ | refine blk_drew ?_ | refine blk_alloc ?_ _)); refine blk_far ?_ NB147_164.out _; (with_reducible repeat (first | refine blk_drewN ?_ _ | refine blk_drew ?_ | refine blk_alloc ?_ _)); refine blk_far ?_ NB147_164.out _; (with_reducible repeat (first | refine blk_drewN ?_ _ | refine blk_drew ?_ | refine blk_alloc ?_ _)); exact BK147.out⟩, ⟨by (with_reducible repeat (first | refine blk_drewN ?_ _ | refine blk_drew ?_ | refine blk_alloc ?_ _)); refine blk_far ?_ NB153_164.out _; (with_reducible repeat (first | refine blk_drewN ?_ _ | refine blk_drew ?_ | refine blk_alloc ?_ _)); refine blk_far ?_ NB153_164.out _; (with_reducible repeat (first | refine blk_drewN ?_ _ | refine blk_drew ?_ | refine blk_alloc ?_ _)); refine blk_far ?_ NB153_164.out _; (with_reducible repeat (first | refine blk_drewN ?_ _ | refine blk_drew ?_ | refine blk_alloc ?_ _)); refine blk_far ?_ NB153_164.out _; (with_reducible repeat (first | refine blk_drewN ?_ _ | refine blk_drew ?_ | refine blk_alloc ?_ _)); refine blk_far ?_ NB153_164.out _; (with_reducible repeat (first | refine blk_drewN ?_ _ | refine blk_drew ?_ | refine blk_alloc ?_ _)); exact BK153.out⟩, ⟨by (with_reducible repeat (first | refine blk_drewN ?_ _ | refine blk_drew ?_ | refine blk_alloc ?_ _)); refine blk_put (cs := #[.bool t159, .bool t160, .bool t161, .bool t162, .bool false]) ?_ 4 _ rfl; (with_reducible repeat (first | refine blk_drewN ?_ _ | refine blk_drew ?_ | refine blk_alloc ?_ _)); refine blk_put (cs := #[.bool t159, .bool t160, .bool t161, .bool false, .bool false]) ?_ 3 _ rfl; (with_reducible repeat (first | refine blk_drewN ?_ _ | refine blk_drew ?_ | refine blk_alloc ?_ _)); refine blk_put (cs := #[.bool t159, .bool t160, .bool false, .bool false, .bool false]) ?_ 2 _ rfl; (with_reducible repeat (first | refine blk_drewN ?_ _ | refine blk_drew ?_ | refine blk_alloc ?_ _)); refine blk_put (cs := #[.bool t159, .bool false, .bool false, .bool false, .bool false]) ?_ 1 _ rfl; (with_reducible repeat (first | refine blk_drewN ?_ _ | refine blk_drew ?_ | refine blk_alloc ?_ _)); refine blk_put (cs := #[.bool false, .bool false, .bool false, .bool false, .bool false]) ?_ 0 _ rfl; (with_reducible repeat (first | refine blk_drewN ?_ _ | refine blk_drew ?_ | refine blk_alloc ?_ _)); exact BK164.out⟩, ⟨by repeat (first | (with_reducible first | exact HB.out | apply below_alloc | apply pw_below_drewN | apply below_drew1 | refine below_set ?_ GE142.out | refine below_set ?_ GE147.out | refine below_set ?_ GE153.out | refine below_set ?_ GE164.out) | exact HB.out)⟩⟩
                case rest =>
                  clear HC22
                  try clear c1
                  try clear p1
                  try clear q1
                  try clear hx1
                  try clear p2
                  try clear c3
                  try clear c4
                  try clear c5
                  try clear c6
                  try clear p6
                  try clear q6
                  try clear c7
                  try clear c8
                  try clear c12
                  try clear c13
                  try clear p16
                  try clear q16
                  try clear hx16
                  try clear c38
                  try clear c39
                  try clear c40
                  try clear c42
                  try clear c43
                  try clear c44
                  try clear c45
                  try clear c46
                  try clear c48
                  try clear c49
                  try clear c51
                  try clear c51b0
                  try clear c52
                  try clear c53
                  try clear c54
                  try clear c56
                  try clear c57
                  try clear c59
                  try clear q61
                  try clear c62
                  try clear c63
                  try clear c64
                  try clear p64
                  try clear c65
                  try clear c67
                  try clear c68
                  try clear c70
                  try clear c72
                  try clear c73
                  try clear c74
                  try clear c76
                  try clear c77
                  try clear c79
                  try clear c81
                  try clear c82
                  try clear c83
                  try clear hcz35_0
                  try clear hcz35_1
                  try clear hcz41_0
                  try clear hcz41_1
                  try clear hcz41_2
                  try clear hcz41_3
                  try clear hcz41_4
                  try clear hcz47_0
                  try clear hcz47_1
                  try clear hcz47_2
                  try clear hcz47_3
                  try clear hcz47_4
                  try clear hcz50_0
                  try clear hcz50_1
                  try clear hcz50_2
                  try clear hcz50_3
                  try clear hcz50_4
                  try clear hcz55_0
                  try clear hcz55_1
                  try clear hcz55_2
                  try clear hcz55_3
                  try clear hcz55_4
                  try clear hcz58_0
                  try clear hcz58_1
                  try clear hcz58_2
                  try clear hcz58_3
                  try clear hcz58_4
                  try clear hcz60_0
                  try clear hcz60_1
                  try clear hcz60_2
                  try clear hcz60_3
                  try clear hcz60_4
                  try clear hcz60_5
                  try clear hcz60_6
                  try clear hcz60_7
                  try clear hcz60_8
                  try clear hcz60_9
                  try clear hcz66_0
                  try clear hcz66_1
                  try clear hcz66_2
                  try clear hcz66_3
                  try clear hcz66_4
                  try clear hcz69_0
                  try clear hcz69_1
                  try clear hcz69_2
                  try clear hcz69_3
                  try clear hcz69_4
                  try clear hcz71_0
                  try clear hcz71_1
                  try clear hcz71_2
                  try clear hcz71_3
                  try clear hcz71_4
                  try clear hcz71_5
                  try clear hcz71_6
                  try clear hcz71_7
                  try clear hcz71_8
                  try clear hcz71_9
                  try clear hcz75_0
                  try clear hcz75_1
                  try clear hcz75_2
                  try clear hcz75_3
                  try clear hcz75_4
                  try clear hcz78_0
                  try clear hcz78_1
                  try clear hcz78_2
                  try clear hcz78_3
                  try clear hcz78_4
                  try clear hcz80_0
                  try clear hcz80_1
                  try clear hcz80_2
                  try clear hcz80_3
                  try clear hcz80_4
                  try clear hcz80_5
                  try clear hcz80_6
                  try clear hcz80_7
                  try clear hcz80_8
                  try clear hcz80_9
                  try clear hcz84_0
                  try clear hcz84_1
                  try clear hcz84_2
                  try clear hcz84_3
                  try clear hcz84_4
                  try clear hfz35_0
                  try clear hfz35_1
                  try clear hfz41_0
                  try clear hfz41_1
                  try clear hfz41_2
                  try clear hfz41_3
                  try clear hfz41_4
                  try clear hfz47_0
                  try clear hfz47_1
                  try clear hfz47_2
                  try clear hfz47_3
                  try clear hfz47_4
                  try clear hfz50_0
                  try clear hfz50_1
                  try clear hfz50_2
                  try clear hfz50_3
                  try clear hfz50_4
                  try clear hfz55_0
                  try clear hfz55_1
                  try clear hfz55_2
                  try clear hfz55_3
                  try clear hfz55_4
                  try clear hfz58_0
                  try clear hfz58_1
                  try clear hfz58_2
                  try clear hfz58_3
                  try clear hfz58_4
                  try clear hfz60_0
                  try clear hfz60_1
                  try clear hfz60_2
                  try clear hfz60_3
                  try clear hfz60_4
                  try clear hfz60_5
                  try clear hfz60_6
                  try clear hfz60_7
                  try clear hfz60_8
                  try clear hfz60_9
                  try clear hfz66_0
                  try clear hfz66_1
                  try clear hfz66_2
                  try clear hfz66_3
                  try clear hfz66_4
                  try clear hfz69_0
                  try clear hfz69_1
                  try clear hfz69_2
                  try clear hfz69_3
                  try clear hfz69_4
                  try clear hfz71_0
                  try clear hfz71_1
                  try clear hfz71_2
                  try clear hfz71_3
                  try clear hfz71_4
                  try clear hfz71_5
                  try clear hfz71_6
                  try clear hfz71_7
                  try clear hfz71_8
                  try clear hfz71_9
                  try clear hfz75_0
                  try clear hfz75_1
                  try clear hfz75_2
                  try clear hfz75_3
                  try clear hfz75_4
                  try clear hfz78_0
                  try clear hfz78_1
                  try clear hfz78_2
                  try clear hfz78_3
                  try clear hfz78_4
                  try clear hfz80_0
                  try clear hfz80_1
                  try clear hfz80_2
                  try clear hfz80_3
                  try clear hfz80_4
                  try clear hfz80_5
                  try clear hfz80_6
                  try clear hfz80_7
                  try clear hfz80_8
                  try clear hfz80_9
                  try clear hfz84_0
                  try clear hfz84_1
                  try clear hfz84_2
                  try clear hfz84_3
                  try clear hfz84_4
                  try clear hx165_0
                  try clear hx165_1
                  try clear hx165_2
                  try clear hx165_3
                  try clear hx165_4
                  try clear hx165_5
                  try clear hx165_6
                  try clear p165
                  try clear q165
                  obtain ⟨kq, x80_21, rfl, HA, HJ21, BK142, BK147, BK153, BK164, HB⟩ := hcut
                  cases kq with
                  | zero => exact absurd HA.out (by simp [crossbucklaw20_PhaseExits.j2])
                  | succ kj21 =>
                    have H := HA.out
                    clear HA
                    simp only [crossbucklaw20_PhaseExits.j2] at H
                    by_cases c85 : x80_21 = true
                    · subst c85
                      have H1 : (some false) = some r := by rw [if_pos rfl] at H; exact H
                      clear H
                      have H := H1
                      clear H1
                      obtain rfl := Option.some.inj H
                      go_wp2
                      go_ret
                      exact ⟨by first | rfl | (simp [errW_none, errW_some] <;> rfl) | (simp [*, errW_none, errW_some] <;> rfl), by repeat (first | (with_reducible first | exact HB.out | apply below_alloc | apply pw_below_drewN | apply below_drew1 | refine below_set ?_ GE142.out | refine below_set ?_ GE147.out | refine below_set ?_ GE153.out | refine below_set ?_ GE164.out) | exact HB.out)⟩
                    · replace c85 := Bool.eq_false_iff.mpr c85
                      subst c85
                      have H1 : (if t162 = true then (crossbucklaw20_PhaseExits.l0 kj21 l1 t143 (wrap64 (x8_2 + 1)) (wrap64 (x9_2 + 1)) a0_0 a0_1 a0_2 a0_3 a0_4 a0_5 a0_6 a0_7 a0_8 a0_9 t157 t158) else (crossbucklaw20_PhaseExits.l0 kj21 l1 t143 0 (wrap64 (x9_2 + 1)) a0_0 a0_1 a0_2 a0_3 a0_4 a0_5 a0_6 a0_7 a0_8 a0_9 t157 t158)) = some r := by rw [if_neg (show ¬ (false = true) by decide)] at H; exact H
                      clear H
                      have H := H1
                      clear H1
                      by_cases c86 : t162 = true
                      · subst c86
                        have H1 : (crossbucklaw20_PhaseExits.l0 kj21 l1 t143 (wrap64 (x8_2 + 1)) (wrap64 (x9_2 + 1)) a0_0 a0_1 a0_2 a0_3 a0_4 a0_5 a0_6 a0_7 a0_8 a0_9 t157 t158) = some r := by rw [if_pos rfl] at H; exact H
                        clear H
                        have H := H1
                        clear H1
                        have H' := Aside0.mk H
                        clear H
                        have hnb87 := NB164_142.out
                        have hnc87 := NB142_164.out
                        have hnb88 := NB164_147.out
                        have hnc88 := NB147_164.out
                        have hnb89 := NB164_153.out
                        have hnc89 := NB153_164.out
                        have hcz90_0 : wc.cell? ⟨gb164, 0, none⟩ = some (.bool t159) := (blk_cell BK164.out 0).trans rfl
                        have hcz90_1 : wc.cell? ⟨gb164, 1, none⟩ = some (.bool t160) := (blk_cell BK164.out 1).trans rfl
                        have hcz90_2 : wc.cell? ⟨gb164, 2, none⟩ = some (.bool t161) := (blk_cell BK164.out 2).trans rfl
                        have hcz90_3 : wc.cell? ⟨gb164, 3, none⟩ = some (.bool true) := (blk_cell BK164.out 3).trans rfl
                        have hcz90_4 : wc.cell? ⟨gb164, 4, none⟩ = some (.bool t163) := (blk_cell BK164.out 4).trans rfl
                        have hfz90_0 := blk_frozen BK164.out 0
                        have hfz90_1 := blk_frozen BK164.out 1
                        have hfz90_2 := blk_frozen BK164.out 2
                        have hfz90_3 := blk_frozen BK164.out 3
                        have hfz90_4 := blk_frozen BK164.out 4
                        go_wp2
                        go_roundg kj21
                        case measure => have := HJ4.out; have := HK2.out; have := HJ21.out; omega
                        case rel => exact ⟨(wrap64 (x8_2 + 1)), (wrap64 (x9_2 + 1)), (t157), (t158), (by first | rfl | (simp; done) | (simp [*]; done)), (by first | rfl | (simp; done) | (simp [*]; done)), H', ⟨by have := HJ4.out; have := HK2.out; have := HJ21.out; omega⟩, ⟨by (with_reducible repeat (first | refine blk_drewN ?_ _ | refine blk_drew ?_ | refine blk_alloc ?_ _)); exact BK142.out⟩, ⟨by (with_reducible repeat (first | refine blk_drewN ?_ _ | refine blk_drew ?_ | refine blk_alloc ?_ _)); exact BK147.out⟩, ⟨by repeat (first | (with_reducible first | exact HB.out | apply below_alloc | apply pw_below_drewN | apply below_drew1 | refine below_set ?_ GE142.out | refine below_set ?_ GE147.out | refine below_set ?_ GE153.out | refine below_set ?_ GE164.out) | exact HB.out)⟩⟩
                      · replace c86 := Bool.eq_false_iff.mpr c86
                        subst c86
                        have H1 : (crossbucklaw20_PhaseExits.l0 kj21 l1 t143 0 (wrap64 (x9_2 + 1)) a0_0 a0_1 a0_2 a0_3 a0_4 a0_5 a0_6 a0_7 a0_8 a0_9 t157 t158) = some r := by rw [if_neg (show ¬ (false = true) by decide)] at H; exact H
                        clear H
                        have H := H1
                        clear H1
                        have H' := Aside0.mk H
                        clear H
                        have hnb91 := NB164_142.out
                        have hnc91 := NB142_164.out
                        have hnb92 := NB164_147.out
                        have hnc92 := NB147_164.out
                        have hnb93 := NB164_153.out
                        have hnc93 := NB153_164.out
                        have hcz94_0 : wc.cell? ⟨gb164, 0, none⟩ = some (.bool t159) := (blk_cell BK164.out 0).trans rfl
                        have hcz94_1 : wc.cell? ⟨gb164, 1, none⟩ = some (.bool t160) := (blk_cell BK164.out 1).trans rfl
                        have hcz94_2 : wc.cell? ⟨gb164, 2, none⟩ = some (.bool t161) := (blk_cell BK164.out 2).trans rfl
                        have hcz94_3 : wc.cell? ⟨gb164, 3, none⟩ = some (.bool false) := (blk_cell BK164.out 3).trans rfl
                        have hcz94_4 : wc.cell? ⟨gb164, 4, none⟩ = some (.bool t163) := (blk_cell BK164.out 4).trans rfl
                        have hfz94_0 := blk_frozen BK164.out 0
                        have hfz94_1 := blk_frozen BK164.out 1
                        have hfz94_2 := blk_frozen BK164.out 2
                        have hfz94_3 := blk_frozen BK164.out 3
                        have hfz94_4 := blk_frozen BK164.out 4
                        go_wp2
                        go_roundg kj21
                        case measure => have := HJ4.out; have := HK2.out; have := HJ21.out; omega
                        case rel => exact ⟨(0), (wrap64 (x9_2 + 1)), (t157), (t158), (by first | rfl | (simp; done) | (simp [*]; done)), (by first | rfl | (simp; done) | (simp [*]; done)), H', ⟨by have := HJ4.out; have := HK2.out; have := HJ21.out; omega⟩, ⟨by (with_reducible repeat (first | refine blk_drewN ?_ _ | refine blk_drew ?_ | refine blk_alloc ?_ _)); exact BK142.out⟩, ⟨by (with_reducible repeat (first | refine blk_drewN ?_ _ | refine blk_drew ?_ | refine blk_alloc ?_ _)); exact BK147.out⟩, ⟨by repeat (first | (with_reducible first | exact HB.out | apply below_alloc | apply pw_below_drewN | apply below_drew1 | refine below_set ?_ GE142.out | refine below_set ?_ GE147.out | refine below_set ?_ GE153.out | refine below_set ?_ GE164.out) | exact HB.out)⟩⟩
              · rw [if_neg c19] at H
                exact absurd H (by simp)
            · rw [if_neg c17] at H
              have c17b0 : decide (x9_2 < (l1.length : Int)) = false := decide_eq_false c17
              clear c17
              obtain rfl := Option.some.inj H
              go_wp2
              go_ret
              exact ⟨by first | rfl | (simp [errW_none, errW_some] <;> rfl) | (simp [*, errW_none, errW_some] <;> rfl), by repeat (first | (with_reducible first | exact HB.out | apply below_alloc | apply pw_below_drewN | apply below_drew1 | refine below_set ?_ GE142.out | refine below_set ?_ GE147.out) | exact HB.out)⟩

end Go.Proofs.Ytngmjmcamkfopaa.A
