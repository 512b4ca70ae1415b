/- Each function's own law: what the call answers, as a plain Lean function; a text that a program of this session wrote. -/
import Derived.Test.YtngmjmcamkfopaaAx0
import Derived.Test.YtngmjmcamkfopaaAx2
import Derived.Test.YtngmjmcamkfopaaAx3
import Derived.Test.YtngmjmcamkfopaaAx5
import Derived.Test.YtngmjmcamkfopaaHandLights
import Derived.Test.YtngmjmcamkfopaaHandSmall20
namespace Go.Proofs.Ytngmjmcamkfopaa.A
open Go.RowKit Go.Proofs.YtngmjmcamkfopaaW.PrintWords Go.Proofs.YtngmjmcamkfopaaW.PrintLast Go.Proofs.YtngmjmcamkfopaaW.PrintMore
attribute [local go_sem] max2_int min2_int max_two min_two max_three min_three max_four min_four   -- for this text's walks alone
set_option linter.unusedVariables false
set_option linter.unusedSimpArgs false

attribute [local go_sem high] eqA38
/-! ### crossbucklaw20_PhaseRaises: function 6 -/
mutual
def crossbucklaw20_PhaseRaises.j0 : Nat → List (S36) → Int → Bool → Bool → Int → Int → Int → Int → Int → Int → Int → Int → Int → Int → Option (Bool)
  | 0, _, _, _, _, _, _, _, _, _, _, _, _, _, _ => none
  | k + 1, x1, x2, x7, x30, x180000, x180001, x180002, x180003, x180004, x180005, x180006, x180007, x180008, x180009 => if x30 = true then (some x7) else ((phase_Enter.f 0).bind fun bt182 => (crossbucklaw20_PhaseRaises.l0 k x1 x2 x7 0 x180000 x180001 x180002 x180003 x180004 x180005 x180006 x180007 x180008 x180009 bt182.1 bt182.2))
def crossbucklaw20_PhaseRaises.l0 : Nat → List (S36) → Int → Bool → Int → Int → Int → Int → Int → Int → Int → Int → Int → Int → Int → Int → Int → Option (Bool)
  | 0, _, _, _, _, _, _, _, _, _, _, _, _, _, _, _, _ => none
  | k + 1, x1, x2, x7, x10, x180000, x180001, x180002, x180003, x180004, x180005, x180006, x180007, x180008, x180009, x185000, x185001 => if x10 < (x1.length : Int) then (if 0 ≤ x10 then ((phase_Step.f k x180000 x180001 x180002 x180003 x180004 x180005 x180006 x180007 x180008 x180009 x185000 x185001 ((rd_T36 x1 x10).f0.f0) ((rd_T36 x1 x10).f0.f1) ((rd_T36 x1 x10).f1.f0) ((rd_T36 x1 x10).f1.f1) ((rd_T36 x1 x10).f1.f2) ((rd_T36 x1 x10).f1.f3) ((rd_T36 x1 x10).f2)).bind fun bt188 => (crossbucklaw20_PhaseRaises.l0 k x1 x2 x7 (wrap64 (x10 + 1)) x180000 x180001 x180002 x180003 x180004 x180005 x180006 x180007 x180008 x180009 bt188.1 bt188.2)) else (none)) else ((phase_Step.f k x180000 x180001 x180002 x180003 x180004 x180005 x180006 x180007 x180008 x180009 x185000 x185001 false false false false false false true).bind fun bt190 => (if bt190.1 = 0 then (crossbucklaw20_PhaseRaises.j2 k x2 x7 false x180000 x180001 x180002 x180003 x180004 x180005 x180006 x180007 x180008 x180009 bt190.1 bt190.2) else (crossbucklaw20_PhaseRaises.j2 k x2 x7 (bt190.1 != 6) x180000 x180001 x180002 x180003 x180004 x180005 x180006 x180007 x180008 x180009 bt190.1 bt190.2)))
def crossbucklaw20_PhaseRaises.j2 : Nat → Int → Bool → Bool → Int → Int → Int → Int → Int → Int → Int → Int → Int → Int → Int → Int → Option (Bool)
  | 0, _, _, _, _, _, _, _, _, _, _, _, _, _, _, _ => none
  | k + 1, x2, x7, x69, x180000, x180001, x180002, x180003, x180004, x180005, x180006, x180007, x180008, x180009, x185000, x185001 => if x69 = true then (some false) else (crossbucklaw20_PhaseRaises.l1 k x2 x7 x185000 0 x180000 x180001 x180002 x180003 x180004 x180005 x180006 x180007 x180008 x180009 x185000 x185001)
def crossbucklaw20_PhaseRaises.l1 : Nat → Int → Bool → Int → Int → Int → Int → Int → Int → Int → Int → Int → Int → Int → Int → Int → Int → Option (Bool)
  | 0, _, _, _, _, _, _, _, _, _, _, _, _, _, _, _, _ => none
  | k + 1, x2, x7, x11, x12, x180000, x180001, x180002, x180003, x180004, x180005, x180006, x180007, x180008, x180009, x185000, x185001 => if x12 < x2 then ((phase_Step.f k x180000 x180001 x180002 x180003 x180004 x180005 x180006 x180007 x180008 x180009 x185000 x185001 false false false true false false false).bind fun bt192 => (crossbucklaw20_PhaseRaises.l1 k x2 x7 x11 (wrap64 (x12 + 1)) x180000 x180001 x180002 x180003 x180004 x180005 x180006 x180007 x180008 x180009 bt192.1 bt192.2)) else (if x185000 = x11 then ((phase_Step.f k x180000 x180001 x180002 x180003 x180004 x180005 x180006 x180007 x180008 x180009 x185000 x185001 false false false true false true false).bind fun bt194 => (if x7 = true then (if bt194.1 = 0 then ((phase_Lights.f bt194.1 bt194.2).bind fun bt196 => (some (!bt196.1 && (!bt196.2.1 && (!bt196.2.2.1 && (!bt196.2.2.2.1 && (!bt196.2.2.2.2))))))) else (some false)) else (some false))) else (some false))
end
def crossbucklaw20_PhaseRaises.f (k : Nat) (a0_0 : Int) (a0_1 : Int) (a0_2 : Int) (a0_3 : Int) (a0_4 : Int) (a0_5 : Int) (a0_6 : Int) (a0_7 : Int) (a0_8 : Int) (a0_9 : Int) (l1 : List (S36)) (a2 : Int) : Option (Bool) := (crossbucklaw20_small.f).bind fun t180 => ((crossbucklaw20_Few.f k a0_0 a0_1 a0_2 a0_3 a0_4 a0_5 a0_6 a0_7 a0_8 a0_9).bind fun t181 => (if t181 = true then (if (l1.length : Int) > 400 then (crossbucklaw20_PhaseRaises.j0 k l1 a2 t180 true a0_0 a0_1 a0_2 a0_3 a0_4 a0_5 a0_6 a0_7 a0_8 a0_9) else (if a2 < 0 then (crossbucklaw20_PhaseRaises.j0 k l1 a2 t180 true a0_0 a0_1 a0_2 a0_3 a0_4 a0_5 a0_6 a0_7 a0_8 a0_9) else (crossbucklaw20_PhaseRaises.j0 k l1 a2 t180 (decide (a2 > 100)) a0_0 a0_1 a0_2 a0_3 a0_4 a0_5 a0_6 a0_7 a0_8 a0_9))) else (crossbucklaw20_PhaseRaises.j0 k l1 a2 t180 true a0_0 a0_1 a0_2 a0_3 a0_4 a0_5 a0_6 a0_7 a0_8 a0_9)))
theorem crossbucklaw20_PhaseRaises.mono_l : ∀ k, (∀ y0 y1 y2 y3 y4 y5 y6 y7 y8 y9 y10 y11 y12 y13, LeO (crossbucklaw20_PhaseRaises.j0 k y0 y1 y2 y3 y4 y5 y6 y7 y8 y9 y10 y11 y12 y13) (crossbucklaw20_PhaseRaises.j0 (k + 1) y0 y1 y2 y3 y4 y5 y6 y7 y8 y9 y10 y11 y12 y13)) ∧ (∀ y0 y1 y2 y3 y4 y5 y6 y7 y8 y9 y10 y11 y12 y13 y14 y15, LeO (crossbucklaw20_PhaseRaises.l0 k y0 y1 y2 y3 y4 y5 y6 y7 y8 y9 y10 y11 y12 y13 y14 y15) (crossbucklaw20_PhaseRaises.l0 (k + 1) y0 y1 y2 y3 y4 y5 y6 y7 y8 y9 y10 y11 y12 y13 y14 y15)) ∧ (∀ y0 y1 y2 y3 y4 y5 y6 y7 y8 y9 y10 y11 y12 y13 y14, LeO (crossbucklaw20_PhaseRaises.j2 k y0 y1 y2 y3 y4 y5 y6 y7 y8 y9 y10 y11 y12 y13 y14) (crossbucklaw20_PhaseRaises.j2 (k + 1) y0 y1 y2 y3 y4 y5 y6 y7 y8 y9 y10 y11 y12 y13 y14)) ∧ (∀ y0 y1 y2 y3 y4 y5 y6 y7 y8 y9 y10 y11 y12 y13 y14 y15, LeO (crossbucklaw20_PhaseRaises.l1 k y0 y1 y2 y3 y4 y5 y6 y7 y8 y9 y10 y11 y12 y13 y14 y15) (crossbucklaw20_PhaseRaises.l1 (k + 1) y0 y1 y2 y3 y4 y5 y6 y7 y8 y9 y10 y11 y12 y13 y14 y15))
  | 0 => ⟨fun _ _ _ _ _ _ _ _ _ _ _ _ _ _ r h => by simp [crossbucklaw20_PhaseRaises.j0] at h, fun _ _ _ _ _ _ _ _ _ _ _ _ _ _ _ _ r h => by simp [crossbucklaw20_PhaseRaises.l0] at h, fun _ _ _ _ _ _ _ _ _ _ _ _ _ _ _ r h => by simp [crossbucklaw20_PhaseRaises.j2] at h, fun _ _ _ _ _ _ _ _ _ _ _ _ _ _ _ _ r h => by simp [crossbucklaw20_PhaseRaises.l1] at h⟩
  | k + 1 => by
    obtain ⟨ih0, ih1, ih2, ih3⟩ := crossbucklaw20_PhaseRaises.mono_l k
    refine ⟨?_, ?_, ?_, ?_⟩
    · intro y0 y1 y2 y3 y4 y5 y6 y7 y8 y9 y10 y11 y12 y13
      unfold crossbucklaw20_PhaseRaises.j0
      repeat' first
      | (with_reducible exact ih0 _ _ _ _ _ _ _ _ _ _ _ _ _ _)
      | (with_reducible exact ih1 _ _ _ _ _ _ _ _ _ _ _ _ _ _ _ _)
      | (with_reducible exact ih2 _ _ _ _ _ _ _ _ _ _ _ _ _ _ _)
      | (with_reducible exact ih3 _ _ _ _ _ _ _ _ _ _ _ _ _ _ _ _)
      | (with_reducible exact crossbucklaw20_Few.mono _ _ _ _ _ _ _ _ _ _ _)
      | (with_reducible exact phase_Step.mono _ _ _ _ _ _ _ _ _ _ _ _ _ _ _ _ _ _ _ _)
      | (with_reducible exact LeO.refl _)
      | (with_reducible exact LeO.none _)
      | (with_reducible refine LeO.ite ?_ ?_)
      | (with_reducible refine LeO.bind ?_ (fun _ => ?_))
      | exact ih0 _ _ _ _ _ _ _ _ _ _ _ _ _ _
      | exact ih1 _ _ _ _ _ _ _ _ _ _ _ _ _ _ _ _
      | exact ih2 _ _ _ _ _ _ _ _ _ _ _ _ _ _ _
      | exact ih3 _ _ _ _ _ _ _ _ _ _ _ _ _ _ _ _
      | exact crossbucklaw20_Few.mono _ _ _ _ _ _ _ _ _ _ _
      | exact phase_Step.mono _ _ _ _ _ _ _ _ _ _ _ _ _ _ _ _ _ _ _ _
      | exact LeO.none _
      | refine LeO.ite ?_ ?_
      | refine LeO.bind ?_ (fun _ => ?_)
    · intro y0 y1 y2 y3 y4 y5 y6 y7 y8 y9 y10 y11 y12 y13 y14 y15
      unfold crossbucklaw20_PhaseRaises.l0
      repeat' first
      | (with_reducible exact ih0 _ _ _ _ _ _ _ _ _ _ _ _ _ _)
      | (with_reducible exact ih1 _ _ _ _ _ _ _ _ _ _ _ _ _ _ _ _)
      | (with_reducible exact ih2 _ _ _ _ _ _ _ _ _ _ _ _ _ _ _)
      | (with_reducible exact ih3 _ _ _ _ _ _ _ _ _ _ _ _ _ _ _ _)
      | (with_reducible exact crossbucklaw20_Few.mono _ _ _ _ _ _ _ _ _ _ _)
      | (with_reducible exact phase_Step.mono _ _ _ _ _ _ _ _ _ _ _ _ _ _ _ _ _ _ _ _)
      | (with_reducible exact LeO.refl _)
      | (with_reducible exact LeO.none _)
      | (with_reducible refine LeO.ite ?_ ?_)
      | (with_reducible refine LeO.bind ?_ (fun _ => ?_))
      | exact ih0 _ _ _ _ _ _ _ _ _ _ _ _ _ _
      | exact ih1 _ _ _ _ _ _ _ _ _ _ _ _ _ _ _ _
      | exact ih2 _ _ _ _ _ _ _ _ _ _ _ _ _ _ _
      | exact ih3 _ _ _ _ _ _ _ _ _ _ _ _ _ _ _ _
      | exact crossbucklaw20_Few.mono _ _ _ _ _ _ _ _ _ _ _
      | exact phase_Step.mono _ _ _ _ _ _ _ _ _ _ _ _ _ _ _ _ _ _ _ _
      | exact LeO.none _
      | refine LeO.ite ?_ ?_
      | refine LeO.bind ?_ (fun _ => ?_)
    · intro y0 y1 y2 y3 y4 y5 y6 y7 y8 y9 y10 y11 y12 y13 y14
      unfold crossbucklaw20_PhaseRaises.j2
      repeat' first
      | (with_reducible exact ih0 _ _ _ _ _ _ _ _ _ _ _ _ _ _)
      | (with_reducible exact ih1 _ _ _ _ _ _ _ _ _ _ _ _ _ _ _ _)
      | (with_reducible exact ih2 _ _ _ _ _ _ _ _ _ _ _ _ _ _ _)
      | (with_reducible exact ih3 _ _ _ _ _ _ _ _ _ _ _ _ _ _ _ _)
      | (with_reducible exact crossbucklaw20_Few.mono _ _ _ _ _ _ _ _ _ _ _)
      | (with_reducible exact phase_Step.mono _ _ _ _ _ _ _ _ _ _ _ _ _ _ _ _ _ _ _ _)
      | (with_reducible exact LeO.refl _)
      | (with_reducible exact LeO.none _)
      | (with_reducible refine LeO.ite ?_ ?_)
      | (with_reducible refine LeO.bind ?_ (fun _ => ?_))
      | exact ih0 _ _ _ _ _ _ _ _ _ _ _ _ _ _
      | exact ih1 _ _ _ _ _ _ _ _ _ _ _ _ _ _ _ _
      | exact ih2 _ _ _ _ _ _ _ _ _ _ _ _ _ _ _
      | exact ih3 _ _ _ _ _ _ _ _ _ _ _ _ _ _ _ _
      | exact crossbucklaw20_Few.mono _ _ _ _ _ _ _ _ _ _ _
      | exact phase_Step.mono _ _ _ _ _ _ _ _ _ _ _ _ _ _ _ _ _ _ _ _
      | exact LeO.none _
      | refine LeO.ite ?_ ?_
      | refine LeO.bind ?_ (fun _ => ?_)
    · intro y0 y1 y2 y3 y4 y5 y6 y7 y8 y9 y10 y11 y12 y13 y14 y15
      unfold crossbucklaw20_PhaseRaises.l1
      repeat' first
      | (with_reducible exact ih0 _ _ _ _ _ _ _ _ _ _ _ _ _ _)
      | (with_reducible exact ih1 _ _ _ _ _ _ _ _ _ _ _ _ _ _ _ _)
      | (with_reducible exact ih2 _ _ _ _ _ _ _ _ _ _ _ _ _ _ _)
      | (with_reducible exact ih3 _ _ _ _ _ _ _ _ _ _ _ _ _ _ _ _)
      | (with_reducible exact crossbucklaw20_Few.mono _ _ _ _ _ _ _ _ _ _ _)
      | (with_reducible exact phase_Step.mono _ _ _ _ _ _ _ _ _ _ _ _ _ _ _ _ _ _ _ _)
      | (with_reducible exact LeO.refl _)
      | (with_reducible exact LeO.none _)
      | (with_reducible refine LeO.ite ?_ ?_)
      | (with_reducible refine LeO.bind ?_ (fun _ => ?_))
      | exact ih0 _ _ _ _ _ _ _ _ _ _ _ _ _ _
      | exact ih1 _ _ _ _ _ _ _ _ _ _ _ _ _ _ _ _
      | exact ih2 _ _ _ _ _ _ _ _ _ _ _ _ _ _ _
      | exact ih3 _ _ _ _ _ _ _ _ _ _ _ _ _ _ _ _
      | exact crossbucklaw20_Few.mono _ _ _ _ _ _ _ _ _ _ _
      | exact phase_Step.mono _ _ _ _ _ _ _ _ _ _ _ _ _ _ _ _ _ _ _ _
      | exact LeO.none _
      | refine LeO.ite ?_ ?_
      | refine LeO.bind ?_ (fun _ => ?_)
theorem crossbucklaw20_PhaseRaises.mono : ∀ a0 a1 a2 a3 a4 a5 a6 a7 a8 a9 a10 a11 k, LeO (crossbucklaw20_PhaseRaises.f k a0 a1 a2 a3 a4 a5 a6 a7 a8 a9 a10 a11) (crossbucklaw20_PhaseRaises.f (k + 1) a0 a1 a2 a3 a4 a5 a6 a7 a8 a9 a10 a11) := by
  intro a0 a1 a2 a3 a4 a5 a6 a7 a8 a9 a10 a11 k
  obtain ⟨ih0, ih1, ih2, ih3⟩ := crossbucklaw20_PhaseRaises.mono_l k
  unfold crossbucklaw20_PhaseRaises.f
  repeat' first
      | (with_reducible exact ih0 _ _ _ _ _ _ _ _ _ _ _ _ _ _)
      | (with_reducible exact ih1 _ _ _ _ _ _ _ _ _ _ _ _ _ _ _ _)
      | (with_reducible exact ih2 _ _ _ _ _ _ _ _ _ _ _ _ _ _ _)
      | (with_reducible exact ih3 _ _ _ _ _ _ _ _ _ _ _ _ _ _ _ _)
      | (with_reducible exact crossbucklaw20_Few.mono _ _ _ _ _ _ _ _ _ _ _)
      | (with_reducible exact phase_Step.mono _ _ _ _ _ _ _ _ _ _ _ _ _ _ _ _ _ _ _ _)
      | (with_reducible exact LeO.refl _)
      | (with_reducible exact LeO.none _)
      | (with_reducible refine LeO.ite ?_ ?_)
      | (with_reducible refine LeO.bind ?_ (fun _ => ?_))
      | exact ih0 _ _ _ _ _ _ _ _ _ _ _ _ _ _
      | exact ih1 _ _ _ _ _ _ _ _ _ _ _ _ _ _ _ _
      | exact ih2 _ _ _ _ _ _ _ _ _ _ _ _ _ _ _
      | exact ih3 _ _ _ _ _ _ _ _ _ _ _ _ _ _ _ _
      | exact crossbucklaw20_Few.mono _ _ _ _ _ _ _ _ _ _ _
      | exact phase_Step.mono _ _ _ _ _ _ _ _ _ _ _ _ _ _ _ _ _ _ _ _
      | exact LeO.none _
      | refine LeO.ite ?_ ?_
      | refine LeO.bind ?_ (fun _ => ?_)
def crossbucklaw20_PhaseRaises.T9 : Bool × List (List Nat × List Nat) := (true, [([], []), ([], []), ([], []), ([], []), ([2, 3], [2, 3]), ([4], [4]), ([5], [5]), ([], []), ([], []), ([7, 8], [7, 8]), ([9], [9]), ([10], [10]), ([], []), ([], []), ([12, 13], [12, 13]), ([14], [14]), ([15], [15]), ([0, 1, 6, 11, 16], [0, 1, 6, 11, 16]), ([17, 17, 0, 1, 2, 3, 4, 5, 6, 7, 8, 9, 10, 11, 12, 13, 14, 15, 16, 17], [17])])
def crossbucklaw20_PhaseRaises.B9 : List Nat := [0, 0, 0, 0, 12, 28, 60, 0, 0, 384, 896, 1920, 0, 0, 12288, 28672, 61440, 131071, 262143]
theorem crossbucklaw20_PhaseRaises.tab9 : rtab .any (opsOf Try.f6 9) = crossbucklaw20_PhaseRaises.T9 := by kernel_rfl
theorem crossbucklaw20_PhaseRaises.bits9 : waitsOk crossbucklaw20_PhaseRaises.T9.2 crossbucklaw20_PhaseRaises.B9 = true := by kernel_rfl
set_option maxHeartbeats 8000000 in
set_option maxRecDepth 100000 in
theorem crossbucklaw20_PhaseRaises.calls (k : Nat) (a0_0 : Int) (a0_1 : Int) (a0_2 : Int) (a0_3 : Int) (a0_4 : Int) (a0_5 : Int) (a0_6 : Int) (a0_7 : Int) (a0_8 : Int) (a0_9 : Int) (A1 : Option Addr) (c1 : Nat) (l1 : List (S36)) (a2 : Int) (r : Bool) (w : World) (hr1 : Kd.C k36 w A1 l1.length l1) (hc1 : l1.length ≤ c1) (h : crossbucklaw20_PhaseRaises.f k a0_0 a0_1 a0_2 a0_3 a0_4 a0_5 a0_6 a0_7 a0_8 a0_9 l1 a2 = some r) :
    Calls Try.prog 6 #[.agg #[.int .i64 a0_0, .int .i64 a0_1, .int .i64 a0_2, .int .i64 a0_3, .int .i64 a0_4, .int .i64 a0_5, .int .i64 a0_6, .int .i64 a0_7, .int .i64 a0_8, .int .i64 a0_9], .slice A1 l1.length c1, .int .i64 a2] w fun e w' => e = .returned (.bool r) ∧ Below w.heap.size w w' := by
  have hu23 := Try.underlying23
  have hu28 := Try.underlying28
  have hu32 := Try.underlying32
  have hu34 := Try.underlying34
  have hu38 := Try.underlying38
  have HR1 := Aside0.mk hr1
  have HC1 := Aside0.mk hc1
  clear hr1 hc1
  have HB := Aside0.mk (Below.refl w.heap.size w)
  have H : ((crossbucklaw20_small.f).bind fun t180 => ((crossbucklaw20_Few.f k a0_0 a0_1 a0_2 a0_3 a0_4 a0_5 a0_6 a0_7 a0_8 a0_9).bind fun t181 => (if t181 = true then (if (l1.length : Int) > 400 then (crossbucklaw20_PhaseRaises.j0 k l1 a2 t180 true a0_0 a0_1 a0_2 a0_3 a0_4 a0_5 a0_6 a0_7 a0_8 a0_9) else (if a2 < 0 then (crossbucklaw20_PhaseRaises.j0 k l1 a2 t180 true a0_0 a0_1 a0_2 a0_3 a0_4 a0_5 a0_6 a0_7 a0_8 a0_9) else (crossbucklaw20_PhaseRaises.j0 k l1 a2 t180 (decide (a2 > 100)) a0_0 a0_1 a0_2 a0_3 a0_4 a0_5 a0_6 a0_7 a0_8 a0_9))) else (crossbucklaw20_PhaseRaises.j0 k l1 a2 t180 true a0_0 a0_1 a0_2 a0_3 a0_4 a0_5 a0_6 a0_7 a0_8 a0_9)))) = some r := h
  clear h
  replace H := Option.bind_eq_some_iff.mp H
  obtain ⟨t180, A40, H⟩ := H
  replace H : ((crossbucklaw20_Few.f k a0_0 a0_1 a0_2 a0_3 a0_4 a0_5 a0_6 a0_7 a0_8 a0_9).bind fun t181 => (if t181 = true then (if (l1.length : Int) > 400 then (crossbucklaw20_PhaseRaises.j0 k l1 a2 t180 true a0_0 a0_1 a0_2 a0_3 a0_4 a0_5 a0_6 a0_7 a0_8 a0_9) else (if a2 < 0 then (crossbucklaw20_PhaseRaises.j0 k l1 a2 t180 true a0_0 a0_1 a0_2 a0_3 a0_4 a0_5 a0_6 a0_7 a0_8 a0_9) else (crossbucklaw20_PhaseRaises.j0 k l1 a2 t180 (decide (a2 > 100)) a0_0 a0_1 a0_2 a0_3 a0_4 a0_5 a0_6 a0_7 a0_8 a0_9))) else (crossbucklaw20_PhaseRaises.j0 k l1 a2 t180 true a0_0 a0_1 a0_2 a0_3 a0_4 a0_5 a0_6 a0_7 a0_8 a0_9))) = some r := H
  have A4 := Aside0.mk A40
  clear A40
  replace H := Option.bind_eq_some_iff.mp H
  obtain ⟨t181, A50, H⟩ := H
  replace H : (if t181 = true then (if (l1.length : Int) > 400 then (crossbucklaw20_PhaseRaises.j0 k l1 a2 t180 true a0_0 a0_1 a0_2 a0_3 a0_4 a0_5 a0_6 a0_7 a0_8 a0_9) else (if a2 < 0 then (crossbucklaw20_PhaseRaises.j0 k l1 a2 t180 true a0_0 a0_1 a0_2 a0_3 a0_4 a0_5 a0_6 a0_7 a0_8 a0_9) else (crossbucklaw20_PhaseRaises.j0 k l1 a2 t180 (decide (a2 > 100)) a0_0 a0_1 a0_2 a0_3 a0_4 a0_5 a0_6 a0_7 a0_8 a0_9))) else (crossbucklaw20_PhaseRaises.j0 k l1 a2 t180 true a0_0 a0_1 a0_2 a0_3 a0_4 a0_5 a0_6 a0_7 a0_8 a0_9)) = some r := H
  have A5 := Aside0.mk A50
  clear A50
  have HC6 := Aside0.mk H
  clear H
  go_enter Try.func6, Try.ntmps6
  go_upto_region 3 with (first | ((with_reducible refine gate_dst (N := 3) rfl ?_); (try (refine gate_guard (by rfl) ?_; dsimp only)); refine box_event ?hg (N := 3) ?hd (cs := #[.int .i64 a0_0, .int .i64 a0_1, .int .i64 a0_2, .int .i64 a0_3, .int .i64 a0_4, .int .i64 a0_5, .int .i64 a0_6, .int .i64 a0_7, .int .i64 a0_8, .int .i64 a0_9]) (t := 23) ?hr ?_; (case hd => rfl); (case hg => rfl); (case hr => first | (go_simp; done) | (go_simp; rfl)); intro gb179 hg w7 hbox hb; have n0_ := Aside0.mk (below_step (by repeat (first | (with_reducible first | exact HB.out | apply below_alloc | apply pw_below_drewN | apply below_drew1) | exact HB.out)) hb); have n1_ := Aside0.mk (hbox); have n2_ := Aside0.mk ((by rw [hg]; exact (below_size (by repeat (first | (with_reducible first | exact HB.out | apply below_alloc | apply pw_below_drewN | apply below_drew1) | exact HB.out))) : w.heap.size ≤ gb179)); have n3_ := Aside0.mk ((by rw [hg]; exact (below_size (by repeat (first | (with_reducible first | exact HB.out | apply below_alloc | apply pw_below_drewN | apply below_drew1) | exact HB.out))) : w.heap.size ≤ gb179)); clear HB; have HB := n0_; have BK179 := n1_; have GW179 := n2_; have GE179 := n3_; clear n0_ n1_ n2_ n3_; clear hb hbox hg) | ((with_reducible refine gate_callee (f := 9) rfl ?_); refine goesL_ (some 13) rfl rfl Try.func9 (by kernel_rfl) rfl #[] rfl (by (try simp only [List.map_toArray, List.map_cons, List.map_nil]); first | done | rfl | (simp only [List.length_drop, List.length_take]; rfl)) ?_; (with_reducible refine (crossbucklaw20_small.calls  t180 _ A4.out).mono ?_); rintro e w8 ⟨rfl, hb⟩; refine ⟨_, rfl, ?_⟩; have n0_ := Aside0.mk (blk_below (g := gb179) (o := .cells #[.int .i64 a0_0, .int .i64 a0_1, .int .i64 a0_2, .int .i64 a0_3, .int .i64 a0_4, .int .i64 a0_5, .int .i64 a0_6, .int .i64 a0_7, .int .i64 a0_8, .int .i64 a0_9] 23 (0, 0)) (by (with_reducible repeat (first | refine blk_drewN ?_ _ | refine blk_drew ?_ | refine blk_alloc ?_ _)); exact BK179.out) hb); have n1_ := Aside0.mk (below_step (by repeat (first | (with_reducible first | exact HB.out | apply below_alloc | apply pw_below_drewN | apply below_drew1 | refine below_set ?_ GE179.out) | exact HB.out)) hb); clear BK179; clear HB; have BK179 := n0_; have HB := n1_; clear n0_ n1_; (try clear hb); (try clear hb2); (try clear hk); (try clear hi); have hcz9_0 : w8.cell? ⟨gb179, 0, none⟩ = some (.int .i64 a0_0) := (blk_cell BK179.out 0).trans rfl; have hcz9_1 : w8.cell? ⟨gb179, 1, none⟩ = some (.int .i64 a0_1) := (blk_cell BK179.out 1).trans rfl; have hcz9_2 : w8.cell? ⟨gb179, 2, none⟩ = some (.int .i64 a0_2) := (blk_cell BK179.out 2).trans rfl; have hcz9_3 : w8.cell? ⟨gb179, 3, none⟩ = some (.int .i64 a0_3) := (blk_cell BK179.out 3).trans rfl; have hcz9_4 : w8.cell? ⟨gb179, 4, none⟩ = some (.int .i64 a0_4) := (blk_cell BK179.out 4).trans rfl; have hcz9_5 : w8.cell? ⟨gb179, 5, none⟩ = some (.int .i64 a0_5) := (blk_cell BK179.out 5).trans rfl; have hcz9_6 : w8.cell? ⟨gb179, 6, none⟩ = some (.int .i64 a0_6) := (blk_cell BK179.out 6).trans rfl; have hcz9_7 : w8.cell? ⟨gb179, 7, none⟩ = some (.int .i64 a0_7) := (blk_cell BK179.out 7).trans rfl; have hcz9_8 : w8.cell? ⟨gb179, 8, none⟩ = some (.int .i64 a0_8) := (blk_cell BK179.out 8).trans rfl; have hcz9_9 : w8.cell? ⟨gb179, 9, none⟩ = some (.int .i64 a0_9) := (blk_cell BK179.out 9).trans rfl; have hfz9_0 := blk_frozen BK179.out 0; have hfz9_1 := blk_frozen BK179.out 1; have hfz9_2 := blk_frozen BK179.out 2; have hfz9_3 := blk_frozen BK179.out 3; have hfz9_4 := blk_frozen BK179.out 4; have hfz9_5 := blk_frozen BK179.out 5; have hfz9_6 := blk_frozen BK179.out 6; have hfz9_7 := blk_frozen BK179.out 7; have hfz9_8 := blk_frozen BK179.out 8; have hfz9_9 := blk_frozen BK179.out 9) | ((with_reducible refine gate_callee (f := 10) rfl ?_); refine goesL_ (some 15) rfl rfl Try.func10 (by kernel_rfl) rfl #[.agg #[.int .i64 a0_0, .int .i64 a0_1, .int .i64 a0_2, .int .i64 a0_3, .int .i64 a0_4, .int .i64 a0_5, .int .i64 a0_6, .int .i64 a0_7, .int .i64 a0_8, .int .i64 a0_9]] rfl (by (try simp only [List.map_toArray, List.map_cons, List.map_nil]); first | done | rfl | (simp only [List.length_drop, List.length_take]; rfl)) ?_; (with_reducible refine (crossbucklaw20_Few.calls k a0_0 a0_1 a0_2 a0_3 a0_4 a0_5 a0_6 a0_7 a0_8 a0_9 t181 _ A5.out).mono ?_); rintro e w10 ⟨rfl, hb⟩; refine ⟨_, rfl, ?_⟩; have n0_ := Aside0.mk (blk_below (g := gb179) (o := .cells #[.int .i64 a0_0, .int .i64 a0_1, .int .i64 a0_2, .int .i64 a0_3, .int .i64 a0_4, .int .i64 a0_5, .int .i64 a0_6, .int .i64 a0_7, .int .i64 a0_8, .int .i64 a0_9] 23 (0, 0)) (by (with_reducible repeat (first | refine blk_drewN ?_ _ | refine blk_drew ?_ | refine blk_alloc ?_ _)); exact BK179.out) hb); have n1_ := Aside0.mk (below_step (by repeat (first | (with_reducible first | exact HB.out | apply below_alloc | apply pw_below_drewN | apply below_drew1 | refine below_set ?_ GE179.out) | exact HB.out)) hb); clear BK179; clear HB; have BK179 := n0_; have HB := n1_; clear n0_ n1_; (try clear hb); (try clear hb2); (try clear hk); (try clear hi)))
  (try simp only [Act.put, List.setIfInBounds_toArray, List.set_cons_zero, List.set_cons_succ])
  go_cut [30] (fun v30 wc => ∃ (kq : Nat) (x30_5 : Bool), v30 = .bool x30_5 ∧ Aside0 (crossbucklaw20_PhaseRaises.j0 kq l1 a2 t180 x30_5 a0_0 a0_1 a0_2 a0_3 a0_4 a0_5 a0_6 a0_7 a0_8 a0_9 = some r) ∧ Aside0 (kq ≤ k) ∧ Aside0 (wc.heap[gb179]? = some (.cells #[.int .i64 a0_0, .int .i64 a0_1, .int .i64 a0_2, .int .i64 a0_3, .int .i64 a0_4, .int .i64 a0_5, .int .i64 a0_6, .int .i64 a0_7, .int .i64 a0_8, .int .i64 a0_9] 23 (0, 0))) ∧ Aside0 (Below w.heap.size w wc))
  case first =>
    have H := HC6.out
    clear HC6
    by_cases c11 : t181 = true
    · subst c11
      have H1 : (if (l1.length : Int) > 400 then (crossbucklaw20_PhaseRaises.j0 k l1 a2 t180 true a0_0 a0_1 a0_2 a0_3 a0_4 a0_5 a0_6 a0_7 a0_8 a0_9) else (if a2 < 0 then (crossbucklaw20_PhaseRaises.j0 k l1 a2 t180 true a0_0 a0_1 a0_2 a0_3 a0_4 a0_5 a0_6 a0_7 a0_8 a0_9) else (crossbucklaw20_PhaseRaises.j0 k l1 a2 t180 (decide (a2 > 100)) a0_0 a0_1 a0_2 a0_3 a0_4 a0_5 a0_6 a0_7 a0_8 a0_9))) = some r := by rw [if_pos rfl] at H; exact H
      clear H
      have H := H1
      clear H1
      by_cases c12 : (l1.length : Int) > 400
      · rw [if_pos c12] at H
        have c12b0 : decide (400 < (l1.length : Int)) = true := decide_eq_true c12
        have c12b1 : decide (400 < l1.length) = true := decide_eq_true (by omega)
        clear c12
        (first | rw [c12b0] | (simp only [i64_w, i32_w]; rw [c12b0]) | skip)
        have H' := Aside0.mk H
        clear H
        go_wp2
        go_meet
        case rel => exact ⟨_, (true), (by first | rfl | (simp; done) | (simp [*]; done)), H', ⟨by first | omega | exact Nat.le_refl _⟩, ⟨by (with_reducible repeat (first | refine blk_drewN ?_ _ | refine blk_drew ?_ | refine blk_alloc ?_ _)); exact BK179.out⟩, ⟨by repeat (first | (with_reducible first | exact HB.out | apply below_alloc | apply pw_below_drewN | apply below_drew1 | refine below_set ?_ GE179.out) | exact HB.out)⟩⟩
      · rw [if_neg c12] at H
        have c12b0 : decide (400 < (l1.length : Int)) = false := decide_eq_false c12
        have c12b1 : decide (400 < l1.length) = false := decide_eq_false (by omega)
        clear c12
        (first | rw [c12b0] | (simp only [i64_w, i32_w]; rw [c12b0]) | skip)
        by_cases c13 : a2 < 0
        · rw [if_pos c13] at H
          have c13b0 : decide (a2 < 0) = true := decide_eq_true c13
          clear c13
          have H' := Aside0.mk H
          clear H
          go_wp2
          go_meet
          case rel => exact ⟨_, (true), (by first | rfl | (simp; done) | (simp [*]; done)), H', ⟨by first | omega | exact Nat.le_refl _⟩, ⟨by (with_reducible repeat (first | refine blk_drewN ?_ _ | refine blk_drew ?_ | refine blk_alloc ?_ _)); exact BK179.out⟩, ⟨by repeat (first | (with_reducible first | exact HB.out | apply below_alloc | apply pw_below_drewN | apply below_drew1 | refine below_set ?_ GE179.out) | exact HB.out)⟩⟩
        · rw [if_neg c13] at H
          have c13b0 : decide (a2 < 0) = false := decide_eq_false c13
          clear c13
          have H' := Aside0.mk H
          clear H
          go_wp2
          go_meet
          case rel => exact ⟨_, (decide (a2 > 100)), (by first | rfl | (simp; done) | (simp [*]; done)), H', ⟨by first | omega | exact Nat.le_refl _⟩, ⟨by (with_reducible repeat (first | refine blk_drewN ?_ _ | refine blk_drew ?_ | refine blk_alloc ?_ _)); exact BK179.out⟩, ⟨by repeat (first | (with_reducible first | exact HB.out | apply below_alloc | apply pw_below_drewN | apply below_drew1 | refine below_set ?_ GE179.out) | exact HB.out)⟩⟩
    · replace c11 := Bool.eq_false_iff.mpr c11
      subst c11
      have H1 : (crossbucklaw20_PhaseRaises.j0 k l1 a2 t180 true a0_0 a0_1 a0_2 a0_3 a0_4 a0_5 a0_6 a0_7 a0_8 a0_9) = some r := by rw [if_neg (show ¬ (false = true) by decide)] at H; exact H
      clear H
      have H := H1
      clear H1
      have H' := Aside0.mk H
      clear H
      go_wp2
      go_meet
      case rel => exact ⟨_, (true), (by first | rfl | (simp; done) | (simp [*]; done)), H', ⟨by first | omega | exact Nat.le_refl _⟩, ⟨by (with_reducible repeat (first | refine blk_drewN ?_ _ | refine blk_drew ?_ | refine blk_alloc ?_ _)); exact BK179.out⟩, ⟨by repeat (first | (with_reducible first | exact HB.out | apply below_alloc | apply pw_below_drewN | apply below_drew1 | refine below_set ?_ GE179.out) | exact HB.out)⟩⟩
  case rest =>
    clear HC6
    try clear c1
    try clear p2
    try clear c6
    try clear c9
    try clear c10
    try clear c11
    try clear c12
    try clear c12b0
    try clear c12b1
    try clear c13
    try clear c13b0
    try clear hcz9_0
    try clear hcz9_1
    try clear hcz9_2
    try clear hcz9_3
    try clear hcz9_4
    try clear hcz9_5
    try clear hcz9_6
    try clear hcz9_7
    try clear hcz9_8
    try clear hcz9_9
    try clear hfz9_0
    try clear hfz9_1
    try clear hfz9_2
    try clear hfz9_3
    try clear hfz9_4
    try clear hfz9_5
    try clear hfz9_6
    try clear hfz9_7
    try clear hfz9_8
    try clear hfz9_9
    obtain ⟨kq, x30_5, rfl, HA, HJ5, BK179, HB⟩ := hcut
    cases kq with
    | zero => exact absurd HA.out (by simp [crossbucklaw20_PhaseRaises.j0])
    | succ kj5 =>
      have H := HA.out
      clear HA
      simp only [crossbucklaw20_PhaseRaises.j0] at H
      by_cases c14 : x30_5 = true
      · subst c14
        have H1 : (some t180) = some r := by rw [if_pos rfl] at H; exact H
        clear H
        have H := H1
        clear H1
        obtain rfl := Option.some.inj H
        go_wp2
        go_ret
        exact ⟨by first | rfl | (simp [errW_none, errW_some] <;> rfl) | (simp [*, errW_none, errW_some] <;> rfl), by repeat (first | (with_reducible first | exact HB.out | apply below_alloc | apply pw_below_drewN | apply below_drew1 | refine below_set ?_ GE179.out) | exact HB.out)⟩
      · replace c14 := Bool.eq_false_iff.mpr c14
        subst c14
        have H1 : ((phase_Enter.f 0).bind fun bt182 => (crossbucklaw20_PhaseRaises.l0 kj5 l1 a2 t180 0 a0_0 a0_1 a0_2 a0_3 a0_4 a0_5 a0_6 a0_7 a0_8 a0_9 bt182.1 bt182.2)) = some r := by rw [if_neg (show ¬ (false = true) by decide)] at H; exact H
        clear H
        have H := H1
        clear H1
        replace H := Option.bind_eq_some_iff.mp H
        obtain ⟨⟨t182, t183⟩, A150, H⟩ := H
        replace H : (crossbucklaw20_PhaseRaises.l0 kj5 l1 a2 t180 0 a0_0 a0_1 a0_2 a0_3 a0_4 a0_5 a0_6 a0_7 a0_8 a0_9 t182 t183) = some r := H
        have A15 := Aside0.mk A150
        clear A150
        have H' := Aside0.mk H
        clear H
        go_wp2_with (first | ((with_reducible refine gate_callee (f := 11) rfl ?_); refine goesL_ (some 32) rfl rfl Try.func11 (by kernel_rfl) rfl #[.int .i64 0] rfl (by (try simp only [List.map_toArray, List.map_cons, List.map_nil]); first | done | rfl | (simp only [List.length_drop, List.length_take]; rfl)) ?_; (with_reducible refine (phase_Enter.calls 0 t182 t183 _ A15.out).mono ?_); rintro e w16 ⟨rfl, hb⟩; refine ⟨_, rfl, ?_⟩; have n0_ := Aside0.mk (blk_below (g := gb179) (o := .cells #[.int .i64 a0_0, .int .i64 a0_1, .int .i64 a0_2, .int .i64 a0_3, .int .i64 a0_4, .int .i64 a0_5, .int .i64 a0_6, .int .i64 a0_7, .int .i64 a0_8, .int .i64 a0_9] 23 (0, 0)) (by (with_reducible repeat (first | refine blk_drewN ?_ _ | refine blk_drew ?_ | refine blk_alloc ?_ _)); exact BK179.out) hb); have n1_ := Aside0.mk (below_step (by repeat (first | (with_reducible first | exact HB.out | apply below_alloc | apply pw_below_drewN | apply below_drew1 | refine below_set ?_ GE179.out) | exact HB.out)) hb); clear BK179; clear HB; have BK179 := n0_; have HB := n1_; clear n0_ n1_; (try clear hb); (try clear hb2); (try clear hk); (try clear hi)) | ((with_reducible refine gate_dst (N := 9) rfl ?_); (try (refine gate_guard (by rfl) ?_; dsimp only)); refine box_event ?hg (N := 9) ?hd (cs := #[.int .i64 0, .int .i64 0]) (t := 28) ?hr ?_; (case hd => rfl); (case hg => rfl); (case hr => first | (go_simp; done) | (go_simp; rfl)); intro gb184 hg w17 hbox hb; have n0_ := Aside0.mk (blk_below (g := gb179) (o := .cells #[.int .i64 a0_0, .int .i64 a0_1, .int .i64 a0_2, .int .i64 a0_3, .int .i64 a0_4, .int .i64 a0_5, .int .i64 a0_6, .int .i64 a0_7, .int .i64 a0_8, .int .i64 a0_9] 23 (0, 0)) (by (with_reducible repeat (first | refine blk_drewN ?_ _ | refine blk_drew ?_ | refine blk_alloc ?_ _)); exact BK179.out) hb); have n1_ := Aside0.mk (below_step (by repeat (first | (with_reducible first | exact HB.out | apply below_alloc | apply pw_below_drewN | apply below_drew1 | refine below_set ?_ GE179.out) | exact HB.out)) hb); have n2_ := Aside0.mk (hbox); have n3_ := Aside0.mk ((by rw [hg]; exact (below_size (by repeat (first | (with_reducible first | exact HB.out | apply below_alloc | apply pw_below_drewN | apply below_drew1 | refine below_set ?_ GE179.out) | exact HB.out))) : w.heap.size ≤ gb184)); have n4_ := Aside0.mk ((by rw [hg]; exact (below_size (by repeat (first | (with_reducible first | exact HB.out | apply below_alloc | apply pw_below_drewN | apply below_drew1 | refine below_set ?_ GE179.out) | exact HB.out))) : w.heap.size ≤ gb184)); have n5_ := Aside0.mk ((by rw [hg]; exact Nat.ne_of_lt (blk_lt (g := gb179) (o := .cells #[.int .i64 a0_0, .int .i64 a0_1, .int .i64 a0_2, .int .i64 a0_3, .int .i64 a0_4, .int .i64 a0_5, .int .i64 a0_6, .int .i64 a0_7, .int .i64 a0_8, .int .i64 a0_9] 23 (0, 0)) (by (with_reducible repeat (first | refine blk_drewN ?_ _ | refine blk_drew ?_ | refine blk_alloc ?_ _)); exact BK179.out)) : gb179 ≠ gb184)); have n6_ := Aside0.mk ((by rw [hg]; exact Nat.ne_of_gt (blk_lt (g := gb179) (o := .cells #[.int .i64 a0_0, .int .i64 a0_1, .int .i64 a0_2, .int .i64 a0_3, .int .i64 a0_4, .int .i64 a0_5, .int .i64 a0_6, .int .i64 a0_7, .int .i64 a0_8, .int .i64 a0_9] 23 (0, 0)) (by (with_reducible repeat (first | refine blk_drewN ?_ _ | refine blk_drew ?_ | refine blk_alloc ?_ _)); exact BK179.out)) : gb184 ≠ gb179)); clear BK179; clear HB; have BK179 := n0_; have HB := n1_; have BK184 := n2_; have GW184 := n3_; have GE184 := n4_; have NB179_184 := n5_; have NB184_179 := n6_; clear n0_ n1_ n2_ n3_ n4_ n5_ n6_; clear hb hbox hg; have hnb18 := NB184_179.out; have hnc18 := NB179_184.out; have hcz19_0 : w17.cell? ⟨gb184, 0, none⟩ = some (.int .i64 0) := (blk_cell BK184.out 0).trans rfl; have hcz19_1 : w17.cell? ⟨gb184, 1, none⟩ = some (.int .i64 0) := (blk_cell BK184.out 1).trans rfl; have hfz19_0 := blk_frozen BK184.out 0; have hfz19_1 := blk_frozen BK184.out 1))
        go_loopg [10] kj5 (fun kq v10 w' => ∃ (x10_2 : Int) (x185000_2 : Int) (x185001_2 : Int), v10 = .int .i64 x10_2 ∧ Aside0 (crossbucklaw20_PhaseRaises.l0 kq l1 a2 t180 x10_2 a0_0 a0_1 a0_2 a0_3 a0_4 a0_5 a0_6 a0_7 a0_8 a0_9 x185000_2 x185001_2 = some r) ∧ Aside0 (kq ≤ kj5) ∧ Aside0 (w'.heap[gb179]? = some (.cells #[.int .i64 a0_0, .int .i64 a0_1, .int .i64 a0_2, .int .i64 a0_3, .int .i64 a0_4, .int .i64 a0_5, .int .i64 a0_6, .int .i64 a0_7, .int .i64 a0_8, .int .i64 a0_9] 23 (0, 0))) ∧ Aside0 (w'.heap[gb184]? = some (.cells #[.int .i64 x185000_2, .int .i64 x185001_2] 28 (0, 0))) ∧ Aside0 (Below w.heap.size w w'))
        case atStart => exact ⟨(0), (t182), (t183), (by first | rfl | (simp; done) | (simp [*]; done)), H', ⟨Nat.le_refl _⟩, ⟨by (with_reducible repeat (first | refine blk_drewN ?_ _ | refine blk_drew ?_ | refine blk_alloc ?_ _)); refine blk_far ?_ NB179_184.out _; (with_reducible repeat (first | refine blk_drewN ?_ _ | refine blk_drew ?_ | refine blk_alloc ?_ _)); refine blk_far ?_ NB179_184.out _; (with_reducible repeat (first | refine blk_drewN ?_ _ | refine blk_drew ?_ | refine blk_alloc ?_ _)); exact BK179.out⟩, ⟨by (with_reducible repeat (first | refine blk_drewN ?_ _ | refine blk_drew ?_ | refine blk_alloc ?_ _)); refine blk_put (cs := #[.int .i64 t182, .int .i64 0]) ?_ 1 _ rfl; (with_reducible repeat (first | refine blk_drewN ?_ _ | refine blk_drew ?_ | refine blk_alloc ?_ _)); refine blk_put (cs := #[.int .i64 0, .int .i64 0]) ?_ 0 _ rfl; (with_reducible repeat (first | refine blk_drewN ?_ _ | refine blk_drew ?_ | refine blk_alloc ?_ _)); exact BK184.out⟩, ⟨by repeat (first | (with_reducible first | exact HB.out | apply below_alloc | apply pw_below_drewN | apply below_drew1 | refine below_set ?_ GE179.out | refine below_set ?_ GE184.out) | exact HB.out)⟩⟩
        case round =>
          clear H'
          try clear c1
          try clear p2
          try clear c6
          try clear c9
          try clear c10
          try clear c11
          try clear c12
          try clear c12b0
          try clear c12b1
          try clear c13
          try clear c13b0
          try clear c14
          try clear c18
          try clear hcz19_0
          try clear hcz19_1
          try clear hcz9_0
          try clear hcz9_1
          try clear hcz9_2
          try clear hcz9_3
          try clear hcz9_4
          try clear hcz9_5
          try clear hcz9_6
          try clear hcz9_7
          try clear hcz9_8
          try clear hcz9_9
          try clear hfz19_0
          try clear hfz19_1
          try clear hfz9_0
          try clear hfz9_1
          try clear hfz9_2
          try clear hfz9_3
          try clear hfz9_4
          try clear hfz9_5
          try clear hfz9_6
          try clear hfz9_7
          try clear hfz9_8
          try clear hfz9_9
          try clear p2
          obtain ⟨x10_2, x185000_2, x185001_2, rfl, HA, HK2, BK179, BK184, HB⟩ := hrel
          cases gk with
          | zero => exact absurd HA.out (by simp [crossbucklaw20_PhaseRaises.l0])
          | succ k2 =>
            have H := HA.out
            clear HA
            simp only [crossbucklaw20_PhaseRaises.l0] at H
            by_cases c20 : x10_2 < (l1.length : Int)
            · rw [if_pos c20] at H
              have c20b0 : decide (x10_2 < (l1.length : Int)) = true := decide_eq_true c20
              clear c20
              by_cases c21 : 0 ≤ x10_2
              · rw [if_pos c21] at H
                have c21b0 : decide (0 ≤ x10_2) = true := decide_eq_true c21
                clear c21
                replace H := Option.bind_eq_some_iff.mp H
                obtain ⟨⟨t188, t189⟩, A220, H⟩ := H
                replace H : (crossbucklaw20_PhaseRaises.l0 k2 l1 a2 t180 (wrap64 (x10_2 + 1)) a0_0 a0_1 a0_2 a0_3 a0_4 a0_5 a0_6 a0_7 a0_8 a0_9 t188 t189) = some r := H
                have A22 := Aside0.mk A220
                clear A220
                have H' := Aside0.mk H
                clear H
                try go_wp2
                have n0_ := Aside0.mk (blk_drew BK179.out)
                have n1_ := Aside0.mk (blk_drew BK184.out)
                have n2_ := Aside0.mk (below_drew1 HB.out)
                clear BK179
                clear BK184
                clear HB
                have BK179 := n0_
                have BK184 := n1_
                have HB := n2_
                clear n0_ n1_ n2_
                have p185 : 0 ≤ (x10_2 : Int) := of_decide_eq_true (by first | (with_reducible assumption) | assumption)
                have q185 : x10_2 < (l1.length : Int) := of_decide_eq_true (by first | (with_reducible assumption) | assumption)
                obtain ⟨ad185, e185, hx185_0, hx185_1, hx185_2, hx185_3, hx185_4, hx185_5, hx185_6⟩ := at_T36 HR1.out x10_2 p185 q185
                have hw185_6 := hx185_6
                have hw185_5 := hx185_5
                have hw185_4 := hx185_4
                have hw185_3 := hx185_3
                have hw185_2 := hx185_2
                have hw185_1 := hx185_1
                have hw185_0 := hx185_0
                cases e185
                replace hx185_0 := (HB.out.cell (World.block_lt_of_cell? w _ hx185_0)).trans hx185_0
                replace hx185_1 := (HB.out.cell (World.block_lt_of_cell? w _ hx185_1)).trans hx185_1
                replace hx185_2 := (HB.out.cell (World.block_lt_of_cell? w _ hx185_2)).trans hx185_2
                replace hx185_3 := (HB.out.cell (World.block_lt_of_cell? w _ hx185_3)).trans hx185_3
                replace hx185_4 := (HB.out.cell (World.block_lt_of_cell? w _ hx185_4)).trans hx185_4
                replace hx185_5 := (HB.out.cell (World.block_lt_of_cell? w _ hx185_5)).trans hx185_5
                replace hx185_6 := (HB.out.cell (World.block_lt_of_cell? w _ hx185_6)).trans hx185_6
                replace p185 := eq_true p185
                replace q185 := eq_true q185
                have p186 : 0 ≤ (x10_2 : Int) := of_decide_eq_true (by first | (with_reducible assumption) | assumption)
                have q186 : x10_2 < (l1.length : Int) := of_decide_eq_true (by first | (with_reducible assumption) | assumption)
                obtain ⟨ad186, e186, hx186_0, hx186_1, hx186_2, hx186_3, hx186_4, hx186_5, hx186_6⟩ := at_T36 HR1.out x10_2 p186 q186
                have hw186_6 := hx186_6
                have hw186_5 := hx186_5
                have hw186_4 := hx186_4
                have hw186_3 := hx186_3
                have hw186_2 := hx186_2
                have hw186_1 := hx186_1
                have hw186_0 := hx186_0
                obtain rfl : ad185 = ad186 := (by injection e186)
                replace hx186_0 := (HB.out.cell (World.block_lt_of_cell? w _ hx186_0)).trans hx186_0
                replace hx186_1 := (HB.out.cell (World.block_lt_of_cell? w _ hx186_1)).trans hx186_1
                replace hx186_2 := (HB.out.cell (World.block_lt_of_cell? w _ hx186_2)).trans hx186_2
                replace hx186_3 := (HB.out.cell (World.block_lt_of_cell? w _ hx186_3)).trans hx186_3
                replace hx186_4 := (HB.out.cell (World.block_lt_of_cell? w _ hx186_4)).trans hx186_4
                replace hx186_5 := (HB.out.cell (World.block_lt_of_cell? w _ hx186_5)).trans hx186_5
                replace hx186_6 := (HB.out.cell (World.block_lt_of_cell? w _ hx186_6)).trans hx186_6
                replace p186 := eq_true p186
                replace q186 := eq_true q186
                have p187 : 0 ≤ (x10_2 : Int) := of_decide_eq_true (by first | (with_reducible assumption) | assumption)
                have q187 : x10_2 < (l1.length : Int) := of_decide_eq_true (by first | (with_reducible assumption) | assumption)
                obtain ⟨ad187, e187, hx187_0, hx187_1, hx187_2, hx187_3, hx187_4, hx187_5, hx187_6⟩ := at_T36 HR1.out x10_2 p187 q187
                have hw187_6 := hx187_6
                have hw187_5 := hx187_5
                have hw187_4 := hx187_4
                have hw187_3 := hx187_3
                have hw187_2 := hx187_2
                have hw187_1 := hx187_1
                have hw187_0 := hx187_0
                obtain rfl : ad185 = ad187 := (by injection e187)
                replace hx187_0 := (HB.out.cell (World.block_lt_of_cell? w _ hx187_0)).trans hx187_0
                replace hx187_1 := (HB.out.cell (World.block_lt_of_cell? w _ hx187_1)).trans hx187_1
                replace hx187_2 := (HB.out.cell (World.block_lt_of_cell? w _ hx187_2)).trans hx187_2
                replace hx187_3 := (HB.out.cell (World.block_lt_of_cell? w _ hx187_3)).trans hx187_3
                replace hx187_4 := (HB.out.cell (World.block_lt_of_cell? w _ hx187_4)).trans hx187_4
                replace hx187_5 := (HB.out.cell (World.block_lt_of_cell? w _ hx187_5)).trans hx187_5
                replace hx187_6 := (HB.out.cell (World.block_lt_of_cell? w _ hx187_6)).trans hx187_6
                replace p187 := eq_true p187
                replace q187 := eq_true q187
                refine start_ (n := 19) (S := fun w' => w'.cell? ⟨gb179, 0, none⟩ = some (.int .i64 a0_0) ∧ w'.cell? ⟨gb179, 1, none⟩ = some (.int .i64 a0_1) ∧ w'.cell? ⟨gb179, 2, none⟩ = some (.int .i64 a0_2) ∧ w'.cell? ⟨gb179, 3, none⟩ = some (.int .i64 a0_3) ∧ w'.cell? ⟨gb179, 4, none⟩ = some (.int .i64 a0_4) ∧ w'.cell? ⟨gb179, 5, none⟩ = some (.int .i64 a0_5) ∧ w'.cell? ⟨gb179, 6, none⟩ = some (.int .i64 a0_6) ∧ w'.cell? ⟨gb179, 7, none⟩ = some (.int .i64 a0_7) ∧ w'.cell? ⟨gb179, 8, none⟩ = some (.int .i64 a0_8) ∧ w'.cell? ⟨gb179, 9, none⟩ = some (.int .i64 a0_9) ∧ w'.cell? ⟨gb184, 0, none⟩ = some (.int .i64 x185000_2) ∧ w'.cell? ⟨gb184, 1, none⟩ = some (.int .i64 x185001_2) ∧ w'.cell? (ad185.add ((x10_2).toNat * 7)) = some (.bool ((rd_T36 l1 x10_2).f0.f0)) ∧ w'.cell? ⟨(ad185.add ((x10_2).toNat * 7)).block, (ad185.add ((x10_2).toNat * 7)).off + 1, none⟩ = some (.bool ((rd_T36 l1 x10_2).f0.f1)) ∧ w'.cell? ⟨(ad185.add ((x10_2).toNat * 7)).block, (ad185.add ((x10_2).toNat * 7)).off + 2, none⟩ = some (.bool ((rd_T36 l1 x10_2).f1.f0)) ∧ w'.cell? ⟨(ad185.add ((x10_2).toNat * 7)).block, (ad185.add ((x10_2).toNat * 7)).off + 3, none⟩ = some (.bool ((rd_T36 l1 x10_2).f1.f1)) ∧ w'.cell? ⟨(ad185.add ((x10_2).toNat * 7)).block, (ad185.add ((x10_2).toNat * 7)).off + 4, none⟩ = some (.bool ((rd_T36 l1 x10_2).f1.f2)) ∧ w'.cell? ⟨(ad185.add ((x10_2).toNat * 7)).block, (ad185.add ((x10_2).toNat * 7)).off + 5, none⟩ = some (.bool ((rd_T36 l1 x10_2).f1.f3)) ∧ w'.cell? ⟨(ad185.add ((x10_2).toNat * 7)).block, (ad185.add ((x10_2).toNat * 7)).off + 6, none⟩ = some (.bool ((rd_T36 l1 x10_2).f2)) ∧ w'.cell? (ad185.add ((x10_2).toNat * 7)) = some (.bool ((rd_T36 l1 x10_2).f0.f0)) ∧ w'.cell? ⟨(ad185.add ((x10_2).toNat * 7)).block, (ad185.add ((x10_2).toNat * 7)).off + 1, none⟩ = some (.bool ((rd_T36 l1 x10_2).f0.f1)) ∧ w'.cell? ⟨(ad185.add ((x10_2).toNat * 7)).block, (ad185.add ((x10_2).toNat * 7)).off + 2, none⟩ = some (.bool ((rd_T36 l1 x10_2).f1.f0)) ∧ w'.cell? ⟨(ad185.add ((x10_2).toNat * 7)).block, (ad185.add ((x10_2).toNat * 7)).off + 3, none⟩ = some (.bool ((rd_T36 l1 x10_2).f1.f1)) ∧ w'.cell? ⟨(ad185.add ((x10_2).toNat * 7)).block, (ad185.add ((x10_2).toNat * 7)).off + 4, none⟩ = some (.bool ((rd_T36 l1 x10_2).f1.f2)) ∧ w'.cell? ⟨(ad185.add ((x10_2).toNat * 7)).block, (ad185.add ((x10_2).toNat * 7)).off + 5, none⟩ = some (.bool ((rd_T36 l1 x10_2).f1.f3)) ∧ w'.cell? ⟨(ad185.add ((x10_2).toNat * 7)).block, (ad185.add ((x10_2).toNat * 7)).off + 6, none⟩ = some (.bool ((rd_T36 l1 x10_2).f2)) ∧ w'.cell? (ad185.add ((x10_2).toNat * 7)) = some (.bool ((rd_T36 l1 x10_2).f0.f0)) ∧ w'.cell? ⟨(ad185.add ((x10_2).toNat * 7)).block, (ad185.add ((x10_2).toNat * 7)).off + 1, none⟩ = some (.bool ((rd_T36 l1 x10_2).f0.f1)) ∧ w'.cell? ⟨(ad185.add ((x10_2).toNat * 7)).block, (ad185.add ((x10_2).toNat * 7)).off + 2, none⟩ = some (.bool ((rd_T36 l1 x10_2).f1.f0)) ∧ w'.cell? ⟨(ad185.add ((x10_2).toNat * 7)).block, (ad185.add ((x10_2).toNat * 7)).off + 3, none⟩ = some (.bool ((rd_T36 l1 x10_2).f1.f1)) ∧ w'.cell? ⟨(ad185.add ((x10_2).toNat * 7)).block, (ad185.add ((x10_2).toNat * 7)).off + 4, none⟩ = some (.bool ((rd_T36 l1 x10_2).f1.f2)) ∧ w'.cell? ⟨(ad185.add ((x10_2).toNat * 7)).block, (ad185.add ((x10_2).toNat * 7)).off + 5, none⟩ = some (.bool ((rd_T36 l1 x10_2).f1.f3)) ∧ w'.cell? ⟨(ad185.add ((x10_2).toNat * 7)).block, (ad185.add ((x10_2).toNat * 7)).off + 6, none⟩ = some (.bool ((rd_T36 l1 x10_2).f2))) (ds := [18]) #[false, false, false, false, false, false, false, false, false, false, false, false, false, false, false, false, false, false, false] (by kernel_rfl) rfl rfl ⟨(blk_cell BK179.out 0).trans rfl, (blk_cell BK179.out 1).trans rfl, (blk_cell BK179.out 2).trans rfl, (blk_cell BK179.out 3).trans rfl, (blk_cell BK179.out 4).trans rfl, (blk_cell BK179.out 5).trans rfl, (blk_cell BK179.out 6).trans rfl, (blk_cell BK179.out 7).trans rfl, (blk_cell BK179.out 8).trans rfl, (blk_cell BK179.out 9).trans rfl, (blk_cell BK184.out 0).trans rfl, (blk_cell BK184.out 1).trans rfl, ((HB.out.cell (World.block_lt_of_cell? w _ hw185_0)).trans hw185_0), ((HB.out.cell (World.block_lt_of_cell? w _ hw185_1)).trans hw185_1), ((HB.out.cell (World.block_lt_of_cell? w _ hw185_2)).trans hw185_2), ((HB.out.cell (World.block_lt_of_cell? w _ hw185_3)).trans hw185_3), ((HB.out.cell (World.block_lt_of_cell? w _ hw185_4)).trans hw185_4), ((HB.out.cell (World.block_lt_of_cell? w _ hw185_5)).trans hw185_5), ((HB.out.cell (World.block_lt_of_cell? w _ hw185_6)).trans hw185_6), ((HB.out.cell (World.block_lt_of_cell? w _ hw186_0)).trans hw186_0), ((HB.out.cell (World.block_lt_of_cell? w _ hw186_1)).trans hw186_1), ((HB.out.cell (World.block_lt_of_cell? w _ hw186_2)).trans hw186_2), ((HB.out.cell (World.block_lt_of_cell? w _ hw186_3)).trans hw186_3), ((HB.out.cell (World.block_lt_of_cell? w _ hw186_4)).trans hw186_4), ((HB.out.cell (World.block_lt_of_cell? w _ hw186_5)).trans hw186_5), ((HB.out.cell (World.block_lt_of_cell? w _ hw186_6)).trans hw186_6), ((HB.out.cell (World.block_lt_of_cell? w _ hw187_0)).trans hw187_0), ((HB.out.cell (World.block_lt_of_cell? w _ hw187_1)).trans hw187_1), ((HB.out.cell (World.block_lt_of_cell? w _ hw187_2)).trans hw187_2), ((HB.out.cell (World.block_lt_of_cell? w _ hw187_3)).trans hw187_3), ((HB.out.cell (World.block_lt_of_cell? w _ hw187_4)).trans hw187_4), ((HB.out.cell (World.block_lt_of_cell? w _ hw187_5)).trans hw187_5), ((HB.out.cell (World.block_lt_of_cell? w _ hw187_6)).trans hw187_6)⟩ (fun hHeld => ?_); refine with_tabW crossbucklaw20_PhaseRaises.tab9 crossbucklaw20_PhaseRaises.bits9 (fun HT_ HW_ => ?_)
                generalize wr.drew = w23 at BK179 BK184 HB hx185_0 hx185_1 hx185_2 hx185_3 hx185_4 hx185_5 hx185_6 hx186_0 hx186_1 hx186_2 hx186_3 hx186_4 hx186_5 hx186_6 hx187_0 hx187_1 hx187_2 hx187_3 hx187_4 hx187_5 hx187_6 hHeld ⊢
                refine pure_ (i := 2) (N := some 41) (v := ?_) (a' := ?_) #[false, false, true, false, false, false, false, false, false, false, false, false, false, false, false, false, false, false, false] rfl rfl (any_of HT_.out (by kernel_rfl)) (fun _ _ _ h => h) (Or.inl ⟨by rfl, ?_⟩) ?_ ?_
                rotate_left
                · intro w'
                  go_simp
                  with_reducible rfl
                rotate_left
                · simp only [Act.put, List.setIfInBounds_toArray, List.set_cons_zero, List.set_cons_succ, i64_w, i32_w]
                  rfl
                refine pure_ (i := 3) (N := some 42) (v := ?_) (a' := ?_) #[false, false, true, true, false, false, false, false, false, false, false, false, false, false, false, false, false, false, false] rfl rfl (any_of HT_.out (by kernel_rfl)) (fun _ _ _ h => h) (Or.inl ⟨by rfl, ?_⟩) ?_ ?_
                rotate_left
                · intro w'
                  go_simp
                  with_reducible rfl
                rotate_left
                · simp only [Act.put, List.setIfInBounds_toArray, List.set_cons_zero, List.set_cons_succ, i64_w, i32_w]
                  rfl
                refine pure_ (i := 4) (N := some 43) (v := ?_) (a' := ?_) #[false, false, true, true, true, false, false, false, false, false, false, false, false, false, false, false, false, false, false] rfl rfl (any_of HT_.out (by kernel_rfl)) (fun _ _ _ h => h) (Or.inl ⟨by rfl, ?_⟩) ?_ ?_
                rotate_left
                · intro w'
                  go_simp
                  with_reducible rfl
                rotate_left
                · simp only [Act.put, List.setIfInBounds_toArray, List.set_cons_zero, List.set_cons_succ, i64_w, i32_w]
                  rfl
                refine pure_ (i := 5) (N := some 44) (v := ?_) (a' := ?_) #[false, false, true, true, true, true, false, false, false, false, false, false, false, false, false, false, false, false, false] rfl rfl (any_of HT_.out (by kernel_rfl)) (fun _ _ _ h => h) (Or.inl ⟨by rfl, ?_⟩) ?_ ?_
                rotate_left
                · intro w'
                  go_simp
                  with_reducible rfl
                rotate_left
                · simp only [Act.put, List.setIfInBounds_toArray, List.set_cons_zero, List.set_cons_succ, i64_w, i32_w]
                  rfl
                refine pure_ (i := 7) (N := some 46) (v := ?_) (a' := ?_) #[false, false, true, true, true, true, false, true, false, false, false, false, false, false, false, false, false, false, false] rfl rfl (any_of HT_.out (by kernel_rfl)) (fun _ _ _ h => h) (Or.inl ⟨by rfl, ?_⟩) ?_ ?_
                rotate_left
                · intro w'
                  go_simp
                  with_reducible rfl
                rotate_left
                · simp only [Act.put, List.setIfInBounds_toArray, List.set_cons_zero, List.set_cons_succ, i64_w, i32_w]
                  rfl
                refine pure_ (i := 8) (N := some 47) (v := ?_) (a' := ?_) #[false, false, true, true, true, true, false, true, true, false, false, false, false, false, false, false, false, false, false] rfl rfl (any_of HT_.out (by kernel_rfl)) (fun _ _ _ h => h) (Or.inl ⟨by rfl, ?_⟩) ?_ ?_
                rotate_left
                · intro w'
                  go_simp
                  with_reducible rfl
                rotate_left
                · simp only [Act.put, List.setIfInBounds_toArray, List.set_cons_zero, List.set_cons_succ, i64_w, i32_w]
                  rfl
                refine pure_ (i := 9) (N := some 48) (v := ?_) (a' := ?_) #[false, false, true, true, true, true, false, true, true, true, false, false, false, false, false, false, false, false, false] rfl rfl (any_of HT_.out (by kernel_rfl)) (fun _ _ _ h => h) (Or.inl ⟨by rfl, ?_⟩) ?_ ?_
                rotate_left
                · intro w'
                  go_simp
                  with_reducible rfl
                rotate_left
                · simp only [Act.put, List.setIfInBounds_toArray, List.set_cons_zero, List.set_cons_succ, i64_w, i32_w]
                  rfl
                refine pure_ (i := 10) (N := some 49) (v := ?_) (a' := ?_) #[false, false, true, true, true, true, false, true, true, true, true, false, false, false, false, false, false, false, false] rfl rfl (any_of HT_.out (by kernel_rfl)) (fun _ _ _ h => h) (Or.inl ⟨by rfl, ?_⟩) ?_ ?_
                rotate_left
                · intro w'
                  go_simp
                  with_reducible rfl
                rotate_left
                · simp only [Act.put, List.setIfInBounds_toArray, List.set_cons_zero, List.set_cons_succ, i64_w, i32_w]
                  rfl
                refine pure_ (i := 12) (N := some 51) (v := ?_) (a' := ?_) #[false, false, true, true, true, true, false, true, true, true, true, false, true, false, false, false, false, false, false] rfl rfl (any_of HT_.out (by kernel_rfl)) (fun _ _ _ h => h) (Or.inl ⟨by rfl, ?_⟩) ?_ ?_
                rotate_left
                · intro w'
                  go_simp
                  with_reducible rfl
                rotate_left
                · simp only [Act.put, List.setIfInBounds_toArray, List.set_cons_zero, List.set_cons_succ, i64_w, i32_w]
                  rfl
                refine pure_ (i := 13) (N := some 52) (v := ?_) (a' := ?_) #[false, false, true, true, true, true, false, true, true, true, true, false, true, true, false, false, false, false, false] rfl rfl (any_of HT_.out (by kernel_rfl)) (fun _ _ _ h => h) (Or.inl ⟨by rfl, ?_⟩) ?_ ?_
                rotate_left
                · intro w'
                  go_simp
                  with_reducible rfl
                rotate_left
                · simp only [Act.put, List.setIfInBounds_toArray, List.set_cons_zero, List.set_cons_succ, i64_w, i32_w]
                  rfl
                refine pure_ (i := 14) (N := some 53) (v := ?_) (a' := ?_) #[false, false, true, true, true, true, false, true, true, true, true, false, true, true, true, false, false, false, false] rfl rfl (any_of HT_.out (by kernel_rfl)) (fun _ _ _ h => h) (Or.inl ⟨by rfl, ?_⟩) ?_ ?_
                rotate_left
                · intro w'
                  go_simp
                  with_reducible rfl
                rotate_left
                · simp only [Act.put, List.setIfInBounds_toArray, List.set_cons_zero, List.set_cons_succ, i64_w, i32_w]
                  rfl
                refine pure_ (i := 15) (N := some 54) (v := ?_) (a' := ?_) #[false, false, true, true, true, true, false, true, true, true, true, false, true, true, true, true, false, false, false] rfl rfl (any_of HT_.out (by kernel_rfl)) (fun _ _ _ h => h) (Or.inl ⟨by rfl, ?_⟩) ?_ ?_
                rotate_left
                · intro w'
                  go_simp
                  with_reducible rfl
                rotate_left
                · simp only [Act.put, List.setIfInBounds_toArray, List.set_cons_zero, List.set_cons_succ, i64_w, i32_w]
                  rfl
                refine take_ (i := 0) (N := some 39) (v := ?_) (a' := ?_) #[true, false, true, true, true, true, false, true, true, true, true, false, true, true, true, true, false, false, false] rfl rfl (take_ofW HT_.out HW_.out (by kernel_rfl)) (fun _ _ _ h => h) (Or.inl ⟨by rfl, ?_⟩) hHeld ?_ ?_
                rotate_left
                · rintro w' ⟨s0, s1, s2, s3, s4, s5, s6, s7, s8, s9, s10, s11, s12, s13, s14, s15, s16, s17, s18, s19, s20, s21, s22, s23, s24, s25, s26, s27, s28, s29, s30, s31, s32⟩
                  go_simp
                  with_reducible rfl
                rotate_left
                · simp only [Act.put, List.setIfInBounds_toArray, List.set_cons_zero, List.set_cons_succ, i64_w, i32_w]
                  rfl
                refine take_ (i := 1) (N := some 40) (v := ?_) (a' := ?_) #[true, true, true, true, true, true, false, true, true, true, true, false, true, true, true, true, false, false, false] rfl rfl (take_ofW HT_.out HW_.out (by kernel_rfl)) (fun _ _ _ h => h) (Or.inl ⟨by rfl, ?_⟩) hHeld ?_ ?_
                rotate_left
                · rintro w' ⟨s0, s1, s2, s3, s4, s5, s6, s7, s8, s9, s10, s11, s12, s13, s14, s15, s16, s17, s18, s19, s20, s21, s22, s23, s24, s25, s26, s27, s28, s29, s30, s31, s32⟩
                  go_simp
                  with_reducible rfl
                rotate_left
                · simp only [Act.put, List.setIfInBounds_toArray, List.set_cons_zero, List.set_cons_succ, i64_w, i32_w]
                  rfl
                refine take_ (i := 6) (N := some 45) (v := ?_) (a' := ?_) #[true, true, true, true, true, true, true, true, true, true, true, false, true, true, true, true, false, false, false] rfl rfl (take_ofW HT_.out HW_.out (by kernel_rfl)) (fun _ _ _ h => h) (Or.inl ⟨by rfl, ?_⟩) hHeld ?_ ?_
                rotate_left
                · rintro w' ⟨s0, s1, s2, s3, s4, s5, s6, s7, s8, s9, s10, s11, s12, s13, s14, s15, s16, s17, s18, s19, s20, s21, s22, s23, s24, s25, s26, s27, s28, s29, s30, s31, s32⟩
                  go_simp
                  with_reducible rfl
                rotate_left
                · simp only [Act.put, List.setIfInBounds_toArray, List.set_cons_zero, List.set_cons_succ, i64_w, i32_w]
                  rfl
                refine take_ (i := 11) (N := some 50) (v := ?_) (a' := ?_) #[true, true, true, true, true, true, true, true, true, true, true, true, true, true, true, true, false, false, false] rfl rfl (take_ofW HT_.out HW_.out (by kernel_rfl)) (fun _ _ _ h => h) (Or.inl ⟨by rfl, ?_⟩) hHeld ?_ ?_
                rotate_left
                · rintro w' ⟨s0, s1, s2, s3, s4, s5, s6, s7, s8, s9, s10, s11, s12, s13, s14, s15, s16, s17, s18, s19, s20, s21, s22, s23, s24, s25, s26, s27, s28, s29, s30, s31, s32⟩
                  go_simp
                  with_reducible rfl
                rotate_left
                · simp only [Act.put, List.setIfInBounds_toArray, List.set_cons_zero, List.set_cons_succ, i64_w, i32_w]
                  rfl
                refine take_ (i := 16) (N := some 55) (v := ?_) (a' := ?_) #[true, true, true, true, true, true, true, true, true, true, true, true, true, true, true, true, true, false, false] rfl rfl (take_ofW HT_.out HW_.out (by kernel_rfl)) (fun _ _ _ h => h) (Or.inl ⟨by rfl, ?_⟩) hHeld ?_ ?_
                rotate_left
                · rintro w' ⟨s0, s1, s2, s3, s4, s5, s6, s7, s8, s9, s10, s11, s12, s13, s14, s15, s16, s17, s18, s19, s20, s21, s22, s23, s24, s25, s26, s27, s28, s29, s30, s31, s32⟩
                  go_simp
                  with_reducible rfl
                rotate_left
                · simp only [Act.put, List.setIfInBounds_toArray, List.set_cons_zero, List.set_cons_succ, i64_w, i32_w]
                  rfl
                refine one_ (i := 17) (N := some 56) #[true, true, true, true, true, true, true, true, true, true, true, true, true, true, true, true, true, true, false] rfl rfl (one_of HT_.out (by kernel_rfl)) (by decide) (fun K hK => ?_)
                refine goes_ Try.func12 (by kernel_rfl) rfl #[.agg #[.int .i64 a0_0, .int .i64 a0_1, .int .i64 a0_2, .int .i64 a0_3, .int .i64 a0_4, .int .i64 a0_5, .int .i64 a0_6, .int .i64 a0_7, .int .i64 a0_8, .int .i64 a0_9], .agg #[.int .i64 x185000_2, .int .i64 x185001_2], .agg #[.bool ((rd_T36 l1 x10_2).f0.f0), .bool ((rd_T36 l1 x10_2).f0.f1)], .agg #[.bool ((rd_T36 l1 x10_2).f1.f0), .bool ((rd_T36 l1 x10_2).f1.f1), .bool ((rd_T36 l1 x10_2).f1.f2), .bool ((rd_T36 l1 x10_2).f1.f3)], .bool ((rd_T36 l1 x10_2).f2)] (by rfl) rfl rfl (by (try simp only [List.map_toArray, List.map_cons, List.map_nil]); first | done | rfl | (simp only [List.length_drop, List.length_take]; rfl)) ?_
                with_reducible refine (phase_Step.calls k2 a0_0 a0_1 a0_2 a0_3 a0_4 a0_5 a0_6 a0_7 a0_8 a0_9 x185000_2 x185001_2 ((rd_T36 l1 x10_2).f0.f0) ((rd_T36 l1 x10_2).f0.f1) ((rd_T36 l1 x10_2).f1.f0) ((rd_T36 l1 x10_2).f1.f1) ((rd_T36 l1 x10_2).f1.f2) ((rd_T36 l1 x10_2).f1.f3) ((rd_T36 l1 x10_2).f2) t188 t189 _ A22.out).mono ?_
                rintro e w24 ⟨rfl, hb⟩
                refine ⟨_, rfl, ?_⟩
                have n0_ := Aside0.mk (blk_below (g := gb179) (o := .cells #[.int .i64 a0_0, .int .i64 a0_1, .int .i64 a0_2, .int .i64 a0_3, .int .i64 a0_4, .int .i64 a0_5, .int .i64 a0_6, .int .i64 a0_7, .int .i64 a0_8, .int .i64 a0_9] 23 (0, 0)) (by (with_reducible repeat (first | refine blk_drewN ?_ _ | refine blk_drew ?_ | refine blk_alloc ?_ _)); exact BK179.out) hb)
                have n1_ := Aside0.mk (blk_below (g := gb184) (o := .cells #[.int .i64 x185000_2, .int .i64 x185001_2] 28 (0, 0)) (by (with_reducible repeat (first | refine blk_drewN ?_ _ | refine blk_drew ?_ | refine blk_alloc ?_ _)); exact BK184.out) hb)
                have n2_ := Aside0.mk (below_step (by repeat (first | (with_reducible first | exact HB.out | apply below_alloc | apply pw_below_drewN | apply below_drew1 | refine below_set ?_ GE179.out | refine below_set ?_ GE184.out) | exact HB.out)) hb)
                clear BK179
                clear BK184
                clear HB
                have BK179 := n0_
                have BK184 := n1_
                have HB := n2_
                clear n0_ n1_ n2_
                (try clear hb)
                (try clear hb2)
                (try clear hk)
                (try clear hi)
                refine hK.out _ _ ⟨(blk_cell BK179.out 0).trans rfl, (blk_cell BK179.out 1).trans rfl, (blk_cell BK179.out 2).trans rfl, (blk_cell BK179.out 3).trans rfl, (blk_cell BK179.out 4).trans rfl, (blk_cell BK179.out 5).trans rfl, (blk_cell BK179.out 6).trans rfl, (blk_cell BK179.out 7).trans rfl, (blk_cell BK179.out 8).trans rfl, (blk_cell BK179.out 9).trans rfl, (blk_cell BK184.out 0).trans rfl, (blk_cell BK184.out 1).trans rfl, ((HB.out.cell (World.block_lt_of_cell? w _ hw185_0)).trans hw185_0), ((HB.out.cell (World.block_lt_of_cell? w _ hw185_1)).trans hw185_1), ((HB.out.cell (World.block_lt_of_cell? w _ hw185_2)).trans hw185_2), ((HB.out.cell (World.block_lt_of_cell? w _ hw185_3)).trans hw185_3), ((HB.out.cell (World.block_lt_of_cell? w _ hw185_4)).trans hw185_4), ((HB.out.cell (World.block_lt_of_cell? w _ hw185_5)).trans hw185_5), ((HB.out.cell (World.block_lt_of_cell? w _ hw185_6)).trans hw185_6), ((HB.out.cell (World.block_lt_of_cell? w _ hw186_0)).trans hw186_0), ((HB.out.cell (World.block_lt_of_cell? w _ hw186_1)).trans hw186_1), ((HB.out.cell (World.block_lt_of_cell? w _ hw186_2)).trans hw186_2), ((HB.out.cell (World.block_lt_of_cell? w _ hw186_3)).trans hw186_3), ((HB.out.cell (World.block_lt_of_cell? w _ hw186_4)).trans hw186_4), ((HB.out.cell (World.block_lt_of_cell? w _ hw186_5)).trans hw186_5), ((HB.out.cell (World.block_lt_of_cell? w _ hw186_6)).trans hw186_6), ((HB.out.cell (World.block_lt_of_cell? w _ hw187_0)).trans hw187_0), ((HB.out.cell (World.block_lt_of_cell? w _ hw187_1)).trans hw187_1), ((HB.out.cell (World.block_lt_of_cell? w _ hw187_2)).trans hw187_2), ((HB.out.cell (World.block_lt_of_cell? w _ hw187_3)).trans hw187_3), ((HB.out.cell (World.block_lt_of_cell? w _ hw187_4)).trans hw187_4), ((HB.out.cell (World.block_lt_of_cell? w _ hw187_5)).trans hw187_5), ((HB.out.cell (World.block_lt_of_cell? w _ hw187_6)).trans hw187_6)⟩ (fun hHeld => ?_)
                clear hK K
                refine norm_ (a' := ?_) ?_ ?_
                rotate_left
                · show Act.put _ (some 56) _ = _
                  simp only [Act.put, List.setIfInBounds_toArray, List.set_cons_zero, List.set_cons_succ, i64_w, i32_w]
                  rfl
                refine last_ (i := 18) (N := none) #[true, true, true, true, true, true, true, true, true, true, true, true, true, true, true, true, true, true, true] rfl rfl (one_of HT_.out (by kernel_rfl)) (by decide) (fun K hK => ?_)
                have hs25 : w24.cell? ⟨gb184, 0, none⟩ = some (.int .i64 x185000_2) := (blk_cell BK184.out 0).trans rfl
                have hfs25 := blk_frozen BK184.out 0
                have hns25_0 := NB179_184.out
                have hms25_0 := NB184_179.out
                have hs26 : w24.cell? ⟨gb184, 1, none⟩ = some (.int .i64 x185001_2) := (blk_cell BK184.out 1).trans rfl
                have hfs26 := blk_frozen BK184.out 1
                have hns26_0 := NB179_184.out
                have hms26_0 := NB184_179.out
                refine skip_ (w1 := ?_) (by rfl) rfl ?_ ?_
                rotate_left
                · go_simp
                  rfl
                refine hK.out _ _ ?_
                clear hK K
                refine done_ (done_of HT_.out (by kernel_rfl)) ?_
                try go_wp2
                go_roundg k2
                case measure => have := HJ5.out; have := HK2.out; omega
                case rel => exact ⟨(wrap64 (x10_2 + 1)), (t188), (t189), (by first | rfl | (simp; done) | (simp [*]; done)), H', ⟨by have := HJ5.out; have := HK2.out; omega⟩, ⟨by (with_reducible repeat (first | refine blk_drewN ?_ _ | refine blk_drew ?_ | refine blk_alloc ?_ _)); refine blk_far ?_ NB179_184.out _; (with_reducible repeat (first | refine blk_drewN ?_ _ | refine blk_drew ?_ | refine blk_alloc ?_ _)); refine blk_far ?_ NB179_184.out _; (with_reducible repeat (first | refine blk_drewN ?_ _ | refine blk_drew ?_ | refine blk_alloc ?_ _)); exact BK179.out⟩, ⟨by (with_reducible repeat (first | refine blk_drewN ?_ _ | refine blk_drew ?_ | refine blk_alloc ?_ _)); refine blk_put (cs := #[.int .i64 t188, .int .i64 x185001_2]) ?_ 1 _ rfl; (with_reducible repeat (first | refine blk_drewN ?_ _ | refine blk_drew ?_ | refine blk_alloc ?_ _)); refine blk_put (cs := #[.int .i64 x185000_2, .int .i64 x185001_2]) ?_ 0 _ rfl; (with_reducible repeat (first | refine blk_drewN ?_ _ | refine blk_drew ?_ | refine blk_alloc ?_ _)); exact BK184.out⟩, ⟨by repeat (first | (with_reducible first | exact HB.out | apply below_alloc | apply pw_below_drewN | apply below_drew1 | refine below_set ?_ GE179.out | refine below_set ?_ GE184.out) | exact HB.out)⟩⟩
              · rw [if_neg c21] at H
                exact absurd H (by simp)
            · rw [if_neg c20] at H
              have c20b0 : decide (x10_2 < (l1.length : Int)) = false := decide_eq_false c20
              clear c20
              replace H := Option.bind_eq_some_iff.mp H
              obtain ⟨⟨t190, t191⟩, A270, H⟩ := H
              replace H : (if t190 = 0 then (crossbucklaw20_PhaseRaises.j2 k2 a2 t180 false a0_0 a0_1 a0_2 a0_3 a0_4 a0_5 a0_6 a0_7 a0_8 a0_9 t190 t191) else (crossbucklaw20_PhaseRaises.j2 k2 a2 t180 (t190 != 6) a0_0 a0_1 a0_2 a0_3 a0_4 a0_5 a0_6 a0_7 a0_8 a0_9 t190 t191)) = some r := H
              have A27 := Aside0.mk A270
              clear A270
              have HC28 := Aside0.mk H
              clear H
              have hnb29 := NB179_184.out
              have hnc29 := NB184_179.out
              have hcz30_0 : wr.cell? ⟨gb179, 0, none⟩ = some (.int .i64 a0_0) := (blk_cell BK179.out 0).trans rfl
              have hcz30_1 : wr.cell? ⟨gb179, 1, none⟩ = some (.int .i64 a0_1) := (blk_cell BK179.out 1).trans rfl
              have hcz30_2 : wr.cell? ⟨gb179, 2, none⟩ = some (.int .i64 a0_2) := (blk_cell BK179.out 2).trans rfl
              have hcz30_3 : wr.cell? ⟨gb179, 3, none⟩ = some (.int .i64 a0_3) := (blk_cell BK179.out 3).trans rfl
              have hcz30_4 : wr.cell? ⟨gb179, 4, none⟩ = some (.int .i64 a0_4) := (blk_cell BK179.out 4).trans rfl
              have hcz30_5 : wr.cell? ⟨gb179, 5, none⟩ = some (.int .i64 a0_5) := (blk_cell BK179.out 5).trans rfl
              have hcz30_6 : wr.cell? ⟨gb179, 6, none⟩ = some (.int .i64 a0_6) := (blk_cell BK179.out 6).trans rfl
              have hcz30_7 : wr.cell? ⟨gb179, 7, none⟩ = some (.int .i64 a0_7) := (blk_cell BK179.out 7).trans rfl
              have hcz30_8 : wr.cell? ⟨gb179, 8, none⟩ = some (.int .i64 a0_8) := (blk_cell BK179.out 8).trans rfl
              have hcz30_9 : wr.cell? ⟨gb179, 9, none⟩ = some (.int .i64 a0_9) := (blk_cell BK179.out 9).trans rfl
              have hfz30_0 := blk_frozen BK179.out 0
              have hfz30_1 := blk_frozen BK179.out 1
              have hfz30_2 := blk_frozen BK179.out 2
              have hfz30_3 := blk_frozen BK179.out 3
              have hfz30_4 := blk_frozen BK179.out 4
              have hfz30_5 := blk_frozen BK179.out 5
              have hfz30_6 := blk_frozen BK179.out 6
              have hfz30_7 := blk_frozen BK179.out 7
              have hfz30_8 := blk_frozen BK179.out 8
              have hfz30_9 := blk_frozen BK179.out 9
              have hcz31_0 : wr.cell? ⟨gb184, 0, none⟩ = some (.int .i64 x185000_2) := (blk_cell BK184.out 0).trans rfl
              have hcz31_1 : wr.cell? ⟨gb184, 1, none⟩ = some (.int .i64 x185001_2) := (blk_cell BK184.out 1).trans rfl
              have hfz31_0 := blk_frozen BK184.out 0
              have hfz31_1 := blk_frozen BK184.out 1
              go_upto_region 11 with (first | ((with_reducible refine gate_callee (f := 12) rfl ?_); refine goesL_ (some 61) rfl rfl Try.func12 (by kernel_rfl) rfl #[.agg #[.int .i64 a0_0, .int .i64 a0_1, .int .i64 a0_2, .int .i64 a0_3, .int .i64 a0_4, .int .i64 a0_5, .int .i64 a0_6, .int .i64 a0_7, .int .i64 a0_8, .int .i64 a0_9], .agg #[.int .i64 x185000_2, .int .i64 x185001_2], .agg #[.bool false, .bool false], .agg #[.bool false, .bool false, .bool false, .bool false], .bool true] rfl (by (try simp only [List.map_toArray, List.map_cons, List.map_nil]); first | done | rfl | (simp only [List.length_drop, List.length_take]; rfl)) ?_; (with_reducible refine (phase_Step.calls k2 a0_0 a0_1 a0_2 a0_3 a0_4 a0_5 a0_6 a0_7 a0_8 a0_9 x185000_2 x185001_2 false false false false false false true t190 t191 _ A27.out).mono ?_); rintro e w32 ⟨rfl, hb⟩; refine ⟨_, rfl, ?_⟩; have n0_ := Aside0.mk (blk_below (g := gb179) (o := .cells #[.int .i64 a0_0, .int .i64 a0_1, .int .i64 a0_2, .int .i64 a0_3, .int .i64 a0_4, .int .i64 a0_5, .int .i64 a0_6, .int .i64 a0_7, .int .i64 a0_8, .int .i64 a0_9] 23 (0, 0)) (by (with_reducible repeat (first | refine blk_drewN ?_ _ | refine blk_drew ?_ | refine blk_alloc ?_ _)); exact BK179.out) hb); have n1_ := Aside0.mk (blk_below (g := gb184) (o := .cells #[.int .i64 x185000_2, .int .i64 x185001_2] 28 (0, 0)) (by (with_reducible repeat (first | refine blk_drewN ?_ _ | refine blk_drew ?_ | refine blk_alloc ?_ _)); exact BK184.out) hb); have n2_ := Aside0.mk (below_step (by repeat (first | (with_reducible first | exact HB.out | apply below_alloc | apply pw_below_drewN | apply below_drew1 | refine below_set ?_ GE179.out | refine below_set ?_ GE184.out) | exact HB.out)) hb); clear BK179; clear BK184; clear HB; have BK179 := n0_; have BK184 := n1_; have HB := n2_; clear n0_ n1_ n2_; (try clear hb); (try clear hb2); (try clear hk); (try clear hi); have hcz33_0 : w32.cell? ⟨gb184, 0, none⟩ = some (.int .i64 x185000_2) := (blk_cell BK184.out 0).trans rfl; have hcz33_1 : w32.cell? ⟨gb184, 1, none⟩ = some (.int .i64 x185001_2) := (blk_cell BK184.out 1).trans rfl; have hfz33_0 := blk_frozen BK184.out 0; have hfz33_1 := blk_frozen BK184.out 1))
              (try simp only [Act.put, List.setIfInBounds_toArray, List.set_cons_zero, List.set_cons_succ])
              go_cut [69] (fun v69 wc => ∃ (kq : Nat) (x69_27 : Bool), v69 = .bool x69_27 ∧ Aside0 (crossbucklaw20_PhaseRaises.j2 kq a2 t180 x69_27 a0_0 a0_1 a0_2 a0_3 a0_4 a0_5 a0_6 a0_7 a0_8 a0_9 t190 t191 = some r) ∧ Aside0 (kq ≤ k2) ∧ Aside0 (wc.heap[gb179]? = some (.cells #[.int .i64 a0_0, .int .i64 a0_1, .int .i64 a0_2, .int .i64 a0_3, .int .i64 a0_4, .int .i64 a0_5, .int .i64 a0_6, .int .i64 a0_7, .int .i64 a0_8, .int .i64 a0_9] 23 (0, 0))) ∧ Aside0 (wc.heap[gb184]? = some (.cells #[.int .i64 t190, .int .i64 t191] 28 (0, 0))) ∧ Aside0 (Below w.heap.size w wc))
              case first =>
                have H := HC28.out
                clear HC28
                by_cases c34 : t190 = 0
                · rw [if_pos c34] at H
                  have c34b0 : (t190 == 0) = true := beq_iff_eq.mpr c34
                  have c34b1 : (t190 != 0) = false := bne_eq_false_iff_eq.mpr c34
                  clear c34
                  (first | rw [c34b0] | (simp only [i64_w, i32_w]; rw [c34b0]) | skip)
                  have H' := Aside0.mk H
                  clear H
                  have hnb35 := NB184_179.out
                  have hnc35 := NB179_184.out
                  have hcz36_0 : w32.cell? ⟨gb184, 0, none⟩ = some (.int .i64 x185000_2) := (blk_cell BK184.out 0).trans rfl
                  have hcz36_1 : w32.cell? ⟨gb184, 1, none⟩ = some (.int .i64 x185001_2) := (blk_cell BK184.out 1).trans rfl
                  have hfz36_0 := blk_frozen BK184.out 0
                  have hfz36_1 := blk_frozen BK184.out 1
                  go_wp2
                  go_meet
                  case rel => exact ⟨_, (false), (by first | rfl | (simp; done) | (simp [*]; done)), H', ⟨by have := HJ5.out; have := HK2.out; first | omega | exact Nat.le_refl _⟩, ⟨by (with_reducible repeat (first | refine blk_drewN ?_ _ | refine blk_drew ?_ | refine blk_alloc ?_ _)); refine blk_far ?_ NB179_184.out _; (with_reducible repeat (first | refine blk_drewN ?_ _ | refine blk_drew ?_ | refine blk_alloc ?_ _)); refine blk_far ?_ NB179_184.out _; (with_reducible repeat (first | refine blk_drewN ?_ _ | refine blk_drew ?_ | refine blk_alloc ?_ _)); exact BK179.out⟩, ⟨by (with_reducible repeat (first | refine blk_drewN ?_ _ | refine blk_drew ?_ | refine blk_alloc ?_ _)); refine blk_put (cs := #[.int .i64 t190, .int .i64 x185001_2]) ?_ 1 _ rfl; (with_reducible repeat (first | refine blk_drewN ?_ _ | refine blk_drew ?_ | refine blk_alloc ?_ _)); refine blk_put (cs := #[.int .i64 x185000_2, .int .i64 x185001_2]) ?_ 0 _ rfl; (with_reducible repeat (first | refine blk_drewN ?_ _ | refine blk_drew ?_ | refine blk_alloc ?_ _)); exact BK184.out⟩, ⟨by repeat (first | (with_reducible first | exact HB.out | apply below_alloc | apply pw_below_drewN | apply below_drew1 | refine below_set ?_ GE179.out | refine below_set ?_ GE184.out) | exact HB.out)⟩⟩
                · rw [if_neg c34] at H
                  have c34b0 : (t190 == 0) = false := beq_eq_false_iff_ne.mpr c34
                  have c34b1 : (t190 != 0) = true := bne_iff_ne.mpr c34
                  (first | rw [c34b0] | (simp only [i64_w, i32_w]; rw [c34b0]) | skip)
                  have H' := Aside0.mk H
                  clear H
                  have hnb37 := NB184_179.out
                  have hnc37 := NB179_184.out
                  have hcz38_0 : w32.cell? ⟨gb184, 0, none⟩ = some (.int .i64 x185000_2) := (blk_cell BK184.out 0).trans rfl
                  have hcz38_1 : w32.cell? ⟨gb184, 1, none⟩ = some (.int .i64 x185001_2) := (blk_cell BK184.out 1).trans rfl
                  have hfz38_0 := blk_frozen BK184.out 0
                  have hfz38_1 := blk_frozen BK184.out 1
                  go_wp2
                  go_meet
                  case rel => exact ⟨_, ((t190 != 6)), (by first | rfl | (simp; done) | (simp [*]; done)), H', ⟨by have := HJ5.out; have := HK2.out; first | omega | exact Nat.le_refl _⟩, ⟨by (with_reducible repeat (first | refine blk_drewN ?_ _ | refine blk_drew ?_ | refine blk_alloc ?_ _)); refine blk_far ?_ NB179_184.out _; (with_reducible repeat (first | refine blk_drewN ?_ _ | refine blk_drew ?_ | refine blk_alloc ?_ _)); refine blk_far ?_ NB179_184.out _; (with_reducible repeat (first | refine blk_drewN ?_ _ | refine blk_drew ?_ | refine blk_alloc ?_ _)); exact BK179.out⟩, ⟨by (with_reducible repeat (first | refine blk_drewN ?_ _ | refine blk_drew ?_ | refine blk_alloc ?_ _)); refine blk_put (cs := #[.int .i64 t190, .int .i64 x185001_2]) ?_ 1 _ rfl; (with_reducible repeat (first | refine blk_drewN ?_ _ | refine blk_drew ?_ | refine blk_alloc ?_ _)); refine blk_put (cs := #[.int .i64 x185000_2, .int .i64 x185001_2]) ?_ 0 _ rfl; (with_reducible repeat (first | refine blk_drewN ?_ _ | refine blk_drew ?_ | refine blk_alloc ?_ _)); exact BK184.out⟩, ⟨by repeat (first | (with_reducible first | exact HB.out | apply below_alloc | apply pw_below_drewN | apply below_drew1 | refine below_set ?_ GE179.out | refine below_set ?_ GE184.out) | exact HB.out)⟩⟩
              case rest =>
                clear HC28
                try clear c1
                try clear p1
                try clear q1
                try clear hx1
                try clear c2
                try clear p2
                try clear c3
                try clear c6
                try clear p6
                try clear c9
                try clear c10
                try clear c11
                try clear c12
                try clear c12b0
                try clear c12b1
                try clear c13
                try clear c13b0
                try clear c14
                try clear c18
                try clear p18
                try clear q18
                try clear hx18
                try clear c20
                try clear c20b0
                try clear c21
                try clear c21b0
                try clear c29
                try clear c34
                try clear c34b0
                try clear c34b1
                try clear c35
                try clear c37
                try clear hcz19_0
                try clear hcz19_1
                try clear hcz30_0
                try clear hcz30_1
                try clear hcz30_2
                try clear hcz30_3
                try clear hcz30_4
                try clear hcz30_5
                try clear hcz30_6
                try clear hcz30_7
                try clear hcz30_8
                try clear hcz30_9
                try clear hcz31_0
                try clear hcz31_1
                try clear hcz33_0
                try clear hcz33_1
                try clear hcz36_0
                try clear hcz36_1
                try clear hcz38_0
                try clear hcz38_1
                try clear hcz9_0
                try clear hcz9_1
                try clear hcz9_2
                try clear hcz9_3
                try clear hcz9_4
                try clear hcz9_5
                try clear hcz9_6
                try clear hcz9_7
                try clear hcz9_8
                try clear hcz9_9
                try clear hfz19_0
                try clear hfz19_1
                try clear hfz30_0
                try clear hfz30_1
                try clear hfz30_2
                try clear hfz30_3
                try clear hfz30_4
                try clear hfz30_5
                try clear hfz30_6
                try clear hfz30_7
                try clear hfz30_8
                try clear hfz30_9
                try clear hfz31_0
                try clear hfz31_1
                try clear hfz33_0
                try clear hfz33_1
                try clear hfz36_0
                try clear hfz36_1
                try clear hfz38_0
                try clear hfz38_1
                try clear hfz9_0
                try clear hfz9_1
                try clear hfz9_2
                try clear hfz9_3
                try clear hfz9_4
                try clear hfz9_5
                try clear hfz9_6
                try clear hfz9_7
                try clear hfz9_8
                try clear hfz9_9
                try clear hx185_0
                try clear hx185_1
                try clear hx185_2
                try clear hx185_3
                try clear hx185_4
                try clear hx185_5
                try clear hx185_6
                try clear hx186_0
                try clear hx186_1
                try clear hx186_2
                try clear hx186_3
                try clear hx186_4
                try clear hx186_5
                try clear hx186_6
                try clear hx187_0
                try clear hx187_1
                try clear hx187_2
                try clear hx187_3
                try clear hx187_4
                try clear hx187_5
                try clear hx187_6
                try clear p185
                try clear p186
                try clear p187
                try clear p2
                try clear q185
                try clear q186
                try clear q187
                obtain ⟨kq, x69_27, rfl, HA, HJ27, BK179, BK184, HB⟩ := hcut
                cases kq with
                | zero => exact absurd HA.out (by simp [crossbucklaw20_PhaseRaises.j2])
                | succ kj27 =>
                  have H := HA.out
                  clear HA
                  simp only [crossbucklaw20_PhaseRaises.j2] at H
                  by_cases c39 : x69_27 = true
                  · subst c39
                    have H1 : (some false) = some r := by rw [if_pos rfl] at H; exact H
                    clear H
                    have H := H1
                    clear H1
                    obtain rfl := Option.some.inj H
                    go_wp2
                    go_ret
                    exact ⟨by first | rfl | (simp [errW_none, errW_some] <;> rfl) | (simp [*, errW_none, errW_some] <;> rfl), by repeat (first | (with_reducible first | exact HB.out | apply below_alloc | apply pw_below_drewN | apply below_drew1 | refine below_set ?_ GE179.out | refine below_set ?_ GE184.out) | exact HB.out)⟩
                  · replace c39 := Bool.eq_false_iff.mpr c39
                    subst c39
                    have H1 : (crossbucklaw20_PhaseRaises.l1 kj27 a2 t180 t190 0 a0_0 a0_1 a0_2 a0_3 a0_4 a0_5 a0_6 a0_7 a0_8 a0_9 t190 t191) = some r := by rw [if_neg (show ¬ (false = true) by decide)] at H; exact H
                    clear H
                    have H := H1
                    clear H1
                    have H' := Aside0.mk H
                    clear H
                    have hnb40 := NB184_179.out
                    have hnc40 := NB179_184.out
                    have hcz41_0 : wc.cell? ⟨gb184, 0, none⟩ = some (.int .i64 t190) := (blk_cell BK184.out 0).trans rfl
                    have hcz41_1 : wc.cell? ⟨gb184, 1, none⟩ = some (.int .i64 t191) := (blk_cell BK184.out 1).trans rfl
                    have hfz41_0 := blk_frozen BK184.out 0
                    have hfz41_1 := blk_frozen BK184.out 1
                    go_wp2
                    go_loopg [12] kj27 (fun kq v12 w' => ∃ (x12_4 : Int) (x185000_4 : Int) (x185001_4 : Int), v12 = .int .i64 x12_4 ∧ Aside0 (crossbucklaw20_PhaseRaises.l1 kq a2 t180 t190 x12_4 a0_0 a0_1 a0_2 a0_3 a0_4 a0_5 a0_6 a0_7 a0_8 a0_9 x185000_4 x185001_4 = some r) ∧ Aside0 (kq ≤ kj27) ∧ Aside0 (w'.heap[gb179]? = some (.cells #[.int .i64 a0_0, .int .i64 a0_1, .int .i64 a0_2, .int .i64 a0_3, .int .i64 a0_4, .int .i64 a0_5, .int .i64 a0_6, .int .i64 a0_7, .int .i64 a0_8, .int .i64 a0_9] 23 (0, 0))) ∧ Aside0 (w'.heap[gb184]? = some (.cells #[.int .i64 x185000_4, .int .i64 x185001_4] 28 (0, 0))) ∧ Aside0 (Below w.heap.size w w'))
                    case atStart => exact ⟨(0), (t190), (t191), (by first | rfl | (simp; done) | (simp [*]; done)), H', ⟨Nat.le_refl _⟩, ⟨by (with_reducible repeat (first | refine blk_drewN ?_ _ | refine blk_drew ?_ | refine blk_alloc ?_ _)); exact BK179.out⟩, ⟨by (with_reducible repeat (first | refine blk_drewN ?_ _ | refine blk_drew ?_ | refine blk_alloc ?_ _)); exact BK184.out⟩, ⟨by repeat (first | (with_reducible first | exact HB.out | apply below_alloc | apply pw_below_drewN | apply below_drew1 | refine below_set ?_ GE179.out | refine below_set ?_ GE184.out) | exact HB.out)⟩⟩
                    case round =>
                      clear H'
                      try clear c1
                      try clear p1
                      try clear q1
                      try clear hx1
                      try clear c2
                      try clear p2
                      try clear c3
                      try clear c4
                      try clear c6
                      try clear p6
                      try clear c9
                      try clear c10
                      try clear c11
                      try clear c12
                      try clear c12b0
                      try clear c12b1
                      try clear c13
                      try clear c13b0
                      try clear c14
                      try clear c18
                      try clear p18
                      try clear q18
                      try clear hx18
                      try clear c20
                      try clear c20b0
                      try clear c21
                      try clear c21b0
                      try clear c29
                      try clear c34
                      try clear c34b0
                      try clear c34b1
                      try clear c35
                      try clear c37
                      try clear c39
                      try clear c40
                      try clear hcz19_0
                      try clear hcz19_1
                      try clear hcz30_0
                      try clear hcz30_1
                      try clear hcz30_2
                      try clear hcz30_3
                      try clear hcz30_4
                      try clear hcz30_5
                      try clear hcz30_6
                      try clear hcz30_7
                      try clear hcz30_8
                      try clear hcz30_9
                      try clear hcz31_0
                      try clear hcz31_1
                      try clear hcz33_0
                      try clear hcz33_1
                      try clear hcz36_0
                      try clear hcz36_1
                      try clear hcz38_0
                      try clear hcz38_1
                      try clear hcz41_0
                      try clear hcz41_1
                      try clear hcz9_0
                      try clear hcz9_1
                      try clear hcz9_2
                      try clear hcz9_3
                      try clear hcz9_4
                      try clear hcz9_5
                      try clear hcz9_6
                      try clear hcz9_7
                      try clear hcz9_8
                      try clear hcz9_9
                      try clear hfz19_0
                      try clear hfz19_1
                      try clear hfz30_0
                      try clear hfz30_1
                      try clear hfz30_2
                      try clear hfz30_3
                      try clear hfz30_4
                      try clear hfz30_5
                      try clear hfz30_6
                      try clear hfz30_7
                      try clear hfz30_8
                      try clear hfz30_9
                      try clear hfz31_0
                      try clear hfz31_1
                      try clear hfz33_0
                      try clear hfz33_1
                      try clear hfz36_0
                      try clear hfz36_1
                      try clear hfz38_0
                      try clear hfz38_1
                      try clear hfz41_0
                      try clear hfz41_1
                      try clear hfz9_0
                      try clear hfz9_1
                      try clear hfz9_2
                      try clear hfz9_3
                      try clear hfz9_4
                      try clear hfz9_5
                      try clear hfz9_6
                      try clear hfz9_7
                      try clear hfz9_8
                      try clear hfz9_9
                      try clear hx185_0
                      try clear hx185_1
                      try clear hx185_2
                      try clear hx185_3
                      try clear hx185_4
                      try clear hx185_5
                      try clear hx185_6
                      try clear hx186_0
                      try clear hx186_1
                      try clear hx186_2
                      try clear hx186_3
                      try clear hx186_4
                      try clear hx186_5
                      try clear hx186_6
                      try clear hx187_0
                      try clear hx187_1
                      try clear hx187_2
                      try clear hx187_3
                      try clear hx187_4
                      try clear hx187_5
                      try clear hx187_6
                      try clear p1
                      try clear p18
                      try clear p185
                      try clear p186
                      try clear p187
                      try clear p2
                      try clear p6
                      try clear q1
                      try clear q18
                      try clear q185
                      try clear q186
                      try clear q187
                      obtain ⟨x12_4, x185000_4, x185001_4, rfl, HA, HK4, BK179, BK184, HB⟩ := hrel
                      cases gk with
                      | zero => exact absurd HA.out (by simp [crossbucklaw20_PhaseRaises.l1])
                      | succ k4 =>
                        have H := HA.out
                        clear HA
                        simp only [crossbucklaw20_PhaseRaises.l1] at H
                        by_cases c42 : x12_4 < a2
                        · rw [if_pos c42] at H
                          have c42b0 : decide (x12_4 < a2) = true := decide_eq_true c42
                          clear c42
                          replace H := Option.bind_eq_some_iff.mp H
                          obtain ⟨⟨t192, t193⟩, A430, H⟩ := H
                          replace H : (crossbucklaw20_PhaseRaises.l1 k4 a2 t180 t190 (wrap64 (x12_4 + 1)) a0_0 a0_1 a0_2 a0_3 a0_4 a0_5 a0_6 a0_7 a0_8 a0_9 t192 t193) = some r := H
                          have A43 := Aside0.mk A430
                          clear A430
                          have H' := Aside0.mk H
                          clear H
                          have hnb44 := NB179_184.out
                          have hnc44 := NB184_179.out
                          have hcz45_0 : wr.cell? ⟨gb179, 0, none⟩ = some (.int .i64 a0_0) := (blk_cell BK179.out 0).trans rfl
                          have hcz45_1 : wr.cell? ⟨gb179, 1, none⟩ = some (.int .i64 a0_1) := (blk_cell BK179.out 1).trans rfl
                          have hcz45_2 : wr.cell? ⟨gb179, 2, none⟩ = some (.int .i64 a0_2) := (blk_cell BK179.out 2).trans rfl
                          have hcz45_3 : wr.cell? ⟨gb179, 3, none⟩ = some (.int .i64 a0_3) := (blk_cell BK179.out 3).trans rfl
                          have hcz45_4 : wr.cell? ⟨gb179, 4, none⟩ = some (.int .i64 a0_4) := (blk_cell BK179.out 4).trans rfl
                          have hcz45_5 : wr.cell? ⟨gb179, 5, none⟩ = some (.int .i64 a0_5) := (blk_cell BK179.out 5).trans rfl
                          have hcz45_6 : wr.cell? ⟨gb179, 6, none⟩ = some (.int .i64 a0_6) := (blk_cell BK179.out 6).trans rfl
                          have hcz45_7 : wr.cell? ⟨gb179, 7, none⟩ = some (.int .i64 a0_7) := (blk_cell BK179.out 7).trans rfl
                          have hcz45_8 : wr.cell? ⟨gb179, 8, none⟩ = some (.int .i64 a0_8) := (blk_cell BK179.out 8).trans rfl
                          have hcz45_9 : wr.cell? ⟨gb179, 9, none⟩ = some (.int .i64 a0_9) := (blk_cell BK179.out 9).trans rfl
                          have hfz45_0 := blk_frozen BK179.out 0
                          have hfz45_1 := blk_frozen BK179.out 1
                          have hfz45_2 := blk_frozen BK179.out 2
                          have hfz45_3 := blk_frozen BK179.out 3
                          have hfz45_4 := blk_frozen BK179.out 4
                          have hfz45_5 := blk_frozen BK179.out 5
                          have hfz45_6 := blk_frozen BK179.out 6
                          have hfz45_7 := blk_frozen BK179.out 7
                          have hfz45_8 := blk_frozen BK179.out 8
                          have hfz45_9 := blk_frozen BK179.out 9
                          have hcz46_0 : wr.cell? ⟨gb184, 0, none⟩ = some (.int .i64 x185000_4) := (blk_cell BK184.out 0).trans rfl
                          have hcz46_1 : wr.cell? ⟨gb184, 1, none⟩ = some (.int .i64 x185001_4) := (blk_cell BK184.out 1).trans rfl
                          have hfz46_0 := blk_frozen BK184.out 0
                          have hfz46_1 := blk_frozen BK184.out 1
                          go_wp2_with (first | ((with_reducible refine gate_callee (f := 12) rfl ?_); refine goesL_ (some 81) rfl rfl Try.func12 (by kernel_rfl) rfl #[.agg #[.int .i64 a0_0, .int .i64 a0_1, .int .i64 a0_2, .int .i64 a0_3, .int .i64 a0_4, .int .i64 a0_5, .int .i64 a0_6, .int .i64 a0_7, .int .i64 a0_8, .int .i64 a0_9], .agg #[.int .i64 x185000_4, .int .i64 x185001_4], .agg #[.bool false, .bool false], .agg #[.bool false, .bool true, .bool false, .bool false], .bool false] rfl (by (try simp only [List.map_toArray, List.map_cons, List.map_nil]); first | done | rfl | (simp only [List.length_drop, List.length_take]; rfl)) ?_; (with_reducible refine (phase_Step.calls k4 a0_0 a0_1 a0_2 a0_3 a0_4 a0_5 a0_6 a0_7 a0_8 a0_9 x185000_4 x185001_4 false false false true false false false t192 t193 _ A43.out).mono ?_); rintro e w47 ⟨rfl, hb⟩; refine ⟨_, rfl, ?_⟩; have n0_ := Aside0.mk (blk_below (g := gb179) (o := .cells #[.int .i64 a0_0, .int .i64 a0_1, .int .i64 a0_2, .int .i64 a0_3, .int .i64 a0_4, .int .i64 a0_5, .int .i64 a0_6, .int .i64 a0_7, .int .i64 a0_8, .int .i64 a0_9] 23 (0, 0)) (by (with_reducible repeat (first | refine blk_drewN ?_ _ | refine blk_drew ?_ | refine blk_alloc ?_ _)); exact BK179.out) hb); have n1_ := Aside0.mk (blk_below (g := gb184) (o := .cells #[.int .i64 x185000_4, .int .i64 x185001_4] 28 (0, 0)) (by (with_reducible repeat (first | refine blk_drewN ?_ _ | refine blk_drew ?_ | refine blk_alloc ?_ _)); exact BK184.out) hb); have n2_ := Aside0.mk (below_step (by repeat (first | (with_reducible first | exact HB.out | apply below_alloc | apply pw_below_drewN | apply below_drew1 | refine below_set ?_ GE179.out | refine below_set ?_ GE184.out) | exact HB.out)) hb); clear BK179; clear BK184; clear HB; have BK179 := n0_; have BK184 := n1_; have HB := n2_; clear n0_ n1_ n2_; (try clear hb); (try clear hb2); (try clear hk); (try clear hi); have hcz48_0 : w47.cell? ⟨gb184, 0, none⟩ = some (.int .i64 x185000_4) := (blk_cell BK184.out 0).trans rfl; have hcz48_1 : w47.cell? ⟨gb184, 1, none⟩ = some (.int .i64 x185001_4) := (blk_cell BK184.out 1).trans rfl; have hfz48_0 := blk_frozen BK184.out 0; have hfz48_1 := blk_frozen BK184.out 1))
                          go_roundg k4
                          case measure => have := HJ5.out; have := HK2.out; have := HJ27.out; have := HK4.out; omega
                          case rel => exact ⟨(wrap64 (x12_4 + 1)), (t192), (t193), (by first | rfl | (simp; done) | (simp [*]; done)), H', ⟨by have := HJ5.out; have := HK2.out; have := HJ27.out; have := HK4.out; omega⟩, ⟨by (with_reducible repeat (first | refine blk_drewN ?_ _ | refine blk_drew ?_ | refine blk_alloc ?_ _)); refine blk_far ?_ NB179_184.out _; (with_reducible repeat (first | refine blk_drewN ?_ _ | refine blk_drew ?_ | refine blk_alloc ?_ _)); refine blk_far ?_ NB179_184.out _; (with_reducible repeat (first | refine blk_drewN ?_ _ | refine blk_drew ?_ | refine blk_alloc ?_ _)); exact BK179.out⟩, ⟨by (with_reducible repeat (first | refine blk_drewN ?_ _ | refine blk_drew ?_ | refine blk_alloc ?_ _)); refine blk_put (cs := #[.int .i64 t192, .int .i64 x185001_4]) ?_ 1 _ rfl; (with_reducible repeat (first | refine blk_drewN ?_ _ | refine blk_drew ?_ | refine blk_alloc ?_ _)); refine blk_put (cs := #[.int .i64 x185000_4, .int .i64 x185001_4]) ?_ 0 _ rfl; (with_reducible repeat (first | refine blk_drewN ?_ _ | refine blk_drew ?_ | refine blk_alloc ?_ _)); exact BK184.out⟩, ⟨by repeat (first | (with_reducible first | exact HB.out | apply below_alloc | apply pw_below_drewN | apply below_drew1 | refine below_set ?_ GE179.out | refine below_set ?_ GE184.out) | exact HB.out)⟩⟩
                        · rw [if_neg c42] at H
                          have c42b0 : decide (x12_4 < a2) = false := decide_eq_false c42
                          clear c42
                          by_cases c49 : x185000_4 = t190
                          · rw [if_pos c49] at H
                            have c49b0 : (x185000_4 == t190) = true := beq_iff_eq.mpr c49
                            have c49b1 : (x185000_4 != t190) = false := bne_eq_false_iff_eq.mpr c49
                            clear c49
                            replace H := Option.bind_eq_some_iff.mp H
                            obtain ⟨⟨t194, t195⟩, A500, H⟩ := H
                            replace H : (if t180 = true then (if t194 = 0 then ((phase_Lights.f t194 t195).bind fun bt196 => (some (!bt196.1 && (!bt196.2.1 && (!bt196.2.2.1 && (!bt196.2.2.2.1 && (!bt196.2.2.2.2))))))) else (some false)) else (some false)) = some r := H
                            have A50 := Aside0.mk A500
                            clear A500
                            by_cases c51 : t180 = true
                            · subst c51
                              have H1 : (if t194 = 0 then ((phase_Lights.f t194 t195).bind fun bt196 => (some (!bt196.1 && (!bt196.2.1 && (!bt196.2.2.1 && (!bt196.2.2.2.1 && (!bt196.2.2.2.2))))))) else (some false)) = some r := by rw [if_pos rfl] at H; exact H
                              clear H
                              have H := H1
                              clear H1
                              by_cases c52 : t194 = 0
                              · rw [if_pos c52] at H
                                have c52b0 : (t194 == 0) = true := beq_iff_eq.mpr c52
                                have c52b1 : (t194 != 0) = false := bne_eq_false_iff_eq.mpr c52
                                clear c52
                                replace H := Option.bind_eq_some_iff.mp H
                                obtain ⟨⟨t196, t197, t198, t199, t200⟩, A530, H⟩ := H
                                replace H : (some (!t196 && (!t197 && (!t198 && (!t199 && (!t200)))))) = some r := H
                                have A53 := Aside0.mk A530
                                clear A530
                                obtain rfl := Option.some.inj H
                                have hnb54 := NB184_179.out
                                have hnc54 := NB179_184.out
                                have hcz55_0 : wr.cell? ⟨gb184, 0, none⟩ = some (.int .i64 x185000_4) := (blk_cell BK184.out 0).trans rfl
                                have hcz55_1 : wr.cell? ⟨gb184, 1, none⟩ = some (.int .i64 x185001_4) := (blk_cell BK184.out 1).trans rfl
                                have hfz55_0 := blk_frozen BK184.out 0
                                have hfz55_1 := blk_frozen BK184.out 1
                                have hcz56_0 : wr.cell? ⟨gb179, 0, none⟩ = some (.int .i64 a0_0) := (blk_cell BK179.out 0).trans rfl
                                have hcz56_1 : wr.cell? ⟨gb179, 1, none⟩ = some (.int .i64 a0_1) := (blk_cell BK179.out 1).trans rfl
                                have hcz56_2 : wr.cell? ⟨gb179, 2, none⟩ = some (.int .i64 a0_2) := (blk_cell BK179.out 2).trans rfl
                                have hcz56_3 : wr.cell? ⟨gb179, 3, none⟩ = some (.int .i64 a0_3) := (blk_cell BK179.out 3).trans rfl
                                have hcz56_4 : wr.cell? ⟨gb179, 4, none⟩ = some (.int .i64 a0_4) := (blk_cell BK179.out 4).trans rfl
                                have hcz56_5 : wr.cell? ⟨gb179, 5, none⟩ = some (.int .i64 a0_5) := (blk_cell BK179.out 5).trans rfl
                                have hcz56_6 : wr.cell? ⟨gb179, 6, none⟩ = some (.int .i64 a0_6) := (blk_cell BK179.out 6).trans rfl
                                have hcz56_7 : wr.cell? ⟨gb179, 7, none⟩ = some (.int .i64 a0_7) := (blk_cell BK179.out 7).trans rfl
                                have hcz56_8 : wr.cell? ⟨gb179, 8, none⟩ = some (.int .i64 a0_8) := (blk_cell BK179.out 8).trans rfl
                                have hcz56_9 : wr.cell? ⟨gb179, 9, none⟩ = some (.int .i64 a0_9) := (blk_cell BK179.out 9).trans rfl
                                have hfz56_0 := blk_frozen BK179.out 0
                                have hfz56_1 := blk_frozen BK179.out 1
                                have hfz56_2 := blk_frozen BK179.out 2
                                have hfz56_3 := blk_frozen BK179.out 3
                                have hfz56_4 := blk_frozen BK179.out 4
                                have hfz56_5 := blk_frozen BK179.out 5
                                have hfz56_6 := blk_frozen BK179.out 6
                                have hfz56_7 := blk_frozen BK179.out 7
                                have hfz56_8 := blk_frozen BK179.out 8
                                have hfz56_9 := blk_frozen BK179.out 9
                                go_wp2_with (first | ((with_reducible refine gate_callee (f := 12) rfl ?_); refine goesL_ (some 90) rfl rfl Try.func12 (by kernel_rfl) rfl #[.agg #[.int .i64 a0_0, .int .i64 a0_1, .int .i64 a0_2, .int .i64 a0_3, .int .i64 a0_4, .int .i64 a0_5, .int .i64 a0_6, .int .i64 a0_7, .int .i64 a0_8, .int .i64 a0_9], .agg #[.int .i64 x185000_4, .int .i64 x185001_4], .agg #[.bool false, .bool false], .agg #[.bool false, .bool true, .bool false, .bool true], .bool false] rfl (by (try simp only [List.map_toArray, List.map_cons, List.map_nil]); first | done | rfl | (simp only [List.length_drop, List.length_take]; rfl)) ?_; (with_reducible refine (phase_Step.calls k4 a0_0 a0_1 a0_2 a0_3 a0_4 a0_5 a0_6 a0_7 a0_8 a0_9 x185000_4 x185001_4 false false false true false true false t194 t195 _ A50.out).mono ?_); rintro e w57 ⟨rfl, hb⟩; refine ⟨_, rfl, ?_⟩; have n0_ := Aside0.mk (blk_below (g := gb179) (o := .cells #[.int .i64 a0_0, .int .i64 a0_1, .int .i64 a0_2, .int .i64 a0_3, .int .i64 a0_4, .int .i64 a0_5, .int .i64 a0_6, .int .i64 a0_7, .int .i64 a0_8, .int .i64 a0_9] 23 (0, 0)) (by (with_reducible repeat (first | refine blk_drewN ?_ _ | refine blk_drew ?_ | refine blk_alloc ?_ _)); exact BK179.out) hb); have n1_ := Aside0.mk (blk_below (g := gb184) (o := .cells #[.int .i64 x185000_4, .int .i64 x185001_4] 28 (0, 0)) (by (with_reducible repeat (first | refine blk_drewN ?_ _ | refine blk_drew ?_ | refine blk_alloc ?_ _)); exact BK184.out) hb); have n2_ := Aside0.mk (below_step (by repeat (first | (with_reducible first | exact HB.out | apply below_alloc | apply pw_below_drewN | apply below_drew1 | refine below_set ?_ GE179.out | refine below_set ?_ GE184.out) | exact HB.out)) hb); clear BK179; clear BK184; clear HB; have BK179 := n0_; have BK184 := n1_; have HB := n2_; clear n0_ n1_ n2_; (try clear hb); (try clear hb2); (try clear hk); (try clear hi); have hcz58_0 : w57.cell? ⟨gb184, 0, none⟩ = some (.int .i64 x185000_4) := (blk_cell BK184.out 0).trans rfl; have hcz58_1 : w57.cell? ⟨gb184, 1, none⟩ = some (.int .i64 x185001_4) := (blk_cell BK184.out 1).trans rfl; have hfz58_0 := blk_frozen BK184.out 0; have hfz58_1 := blk_frozen BK184.out 1) | (go_at_call 13; (with_reducible refine (phase_Lights.calls t194 t195 t196 t197 t198 t199 t200 _ A53.out).mono ?_); rintro e w59 ⟨rfl, hb⟩; have n0_ := Aside0.mk (blk_below (g := gb179) (o := .cells #[.int .i64 a0_0, .int .i64 a0_1, .int .i64 a0_2, .int .i64 a0_3, .int .i64 a0_4, .int .i64 a0_5, .int .i64 a0_6, .int .i64 a0_7, .int .i64 a0_8, .int .i64 a0_9] 23 (0, 0)) (by (with_reducible repeat (first | refine blk_drewN ?_ _ | refine blk_drew ?_ | refine blk_alloc ?_ _)); refine blk_far ?_ NB179_184.out _; (with_reducible repeat (first | refine blk_drewN ?_ _ | refine blk_drew ?_ | refine blk_alloc ?_ _)); refine blk_far ?_ NB179_184.out _; (with_reducible repeat (first | refine blk_drewN ?_ _ | refine blk_drew ?_ | refine blk_alloc ?_ _)); exact BK179.out) hb); have n1_ := Aside0.mk (blk_below (g := gb184) (o := .cells #[.int .i64 t194, .int .i64 t195] 28 (0, 0)) (by (with_reducible repeat (first | refine blk_drewN ?_ _ | refine blk_drew ?_ | refine blk_alloc ?_ _)); refine blk_put (cs := #[.int .i64 t194, .int .i64 x185001_4]) ?_ 1 _ rfl; (with_reducible repeat (first | refine blk_drewN ?_ _ | refine blk_drew ?_ | refine blk_alloc ?_ _)); refine blk_put (cs := #[.int .i64 x185000_4, .int .i64 x185001_4]) ?_ 0 _ rfl; (with_reducible repeat (first | refine blk_drewN ?_ _ | refine blk_drew ?_ | refine blk_alloc ?_ _)); exact BK184.out) hb); have n2_ := Aside0.mk (below_step (by repeat (first | (with_reducible first | exact HB.out | apply below_alloc | apply pw_below_drewN | apply below_drew1 | refine below_set ?_ GE179.out | refine below_set ?_ GE184.out) | exact HB.out)) hb); clear BK179; clear BK184; clear HB; have BK179 := n0_; have BK184 := n1_; have HB := n2_; clear n0_ n1_ n2_; (try clear hb); (try clear hb2); (try clear hk); (try clear hi)))
                                go_ret
                                exact ⟨by first | rfl | (simp [errW_none, errW_some] <;> rfl) | (simp [*, errW_none, errW_some] <;> rfl), by repeat (first | (with_reducible first | exact HB.out | apply below_alloc | apply pw_below_drewN | apply below_drew1 | refine below_set ?_ GE179.out | refine below_set ?_ GE184.out) | exact HB.out)⟩
                              · rw [if_neg c52] at H
                                have c52b0 : (t194 == 0) = false := beq_eq_false_iff_ne.mpr c52
                                have c52b1 : (t194 != 0) = true := bne_iff_ne.mpr c52
                                obtain rfl := Option.some.inj H
                                have hnb60 := NB184_179.out
                                have hnc60 := NB179_184.out
                                have hcz61_0 : wr.cell? ⟨gb184, 0, none⟩ = some (.int .i64 x185000_4) := (blk_cell BK184.out 0).trans rfl
                                have hcz61_1 : wr.cell? ⟨gb184, 1, none⟩ = some (.int .i64 x185001_4) := (blk_cell BK184.out 1).trans rfl
                                have hfz61_0 := blk_frozen BK184.out 0
                                have hfz61_1 := blk_frozen BK184.out 1
                                have hcz62_0 : wr.cell? ⟨gb179, 0, none⟩ = some (.int .i64 a0_0) := (blk_cell BK179.out 0).trans rfl
                                have hcz62_1 : wr.cell? ⟨gb179, 1, none⟩ = some (.int .i64 a0_1) := (blk_cell BK179.out 1).trans rfl
                                have hcz62_2 : wr.cell? ⟨gb179, 2, none⟩ = some (.int .i64 a0_2) := (blk_cell BK179.out 2).trans rfl
                                have hcz62_3 : wr.cell? ⟨gb179, 3, none⟩ = some (.int .i64 a0_3) := (blk_cell BK179.out 3).trans rfl
                                have hcz62_4 : wr.cell? ⟨gb179, 4, none⟩ = some (.int .i64 a0_4) := (blk_cell BK179.out 4).trans rfl
                                have hcz62_5 : wr.cell? ⟨gb179, 5, none⟩ = some (.int .i64 a0_5) := (blk_cell BK179.out 5).trans rfl
                                have hcz62_6 : wr.cell? ⟨gb179, 6, none⟩ = some (.int .i64 a0_6) := (blk_cell BK179.out 6).trans rfl
                                have hcz62_7 : wr.cell? ⟨gb179, 7, none⟩ = some (.int .i64 a0_7) := (blk_cell BK179.out 7).trans rfl
                                have hcz62_8 : wr.cell? ⟨gb179, 8, none⟩ = some (.int .i64 a0_8) := (blk_cell BK179.out 8).trans rfl
                                have hcz62_9 : wr.cell? ⟨gb179, 9, none⟩ = some (.int .i64 a0_9) := (blk_cell BK179.out 9).trans rfl
                                have hfz62_0 := blk_frozen BK179.out 0
                                have hfz62_1 := blk_frozen BK179.out 1
                                have hfz62_2 := blk_frozen BK179.out 2
                                have hfz62_3 := blk_frozen BK179.out 3
                                have hfz62_4 := blk_frozen BK179.out 4
                                have hfz62_5 := blk_frozen BK179.out 5
                                have hfz62_6 := blk_frozen BK179.out 6
                                have hfz62_7 := blk_frozen BK179.out 7
                                have hfz62_8 := blk_frozen BK179.out 8
                                have hfz62_9 := blk_frozen BK179.out 9
                                go_wp2_with (first | ((with_reducible refine gate_callee (f := 12) rfl ?_); refine goesL_ (some 90) rfl rfl Try.func12 (by kernel_rfl) rfl #[.agg #[.int .i64 a0_0, .int .i64 a0_1, .int .i64 a0_2, .int .i64 a0_3, .int .i64 a0_4, .int .i64 a0_5, .int .i64 a0_6, .int .i64 a0_7, .int .i64 a0_8, .int .i64 a0_9], .agg #[.int .i64 x185000_4, .int .i64 x185001_4], .agg #[.bool false, .bool false], .agg #[.bool false, .bool true, .bool false, .bool true], .bool false] rfl (by (try simp only [List.map_toArray, List.map_cons, List.map_nil]); first | done | rfl | (simp only [List.length_drop, List.length_take]; rfl)) ?_; (with_reducible refine (phase_Step.calls k4 a0_0 a0_1 a0_2 a0_3 a0_4 a0_5 a0_6 a0_7 a0_8 a0_9 x185000_4 x185001_4 false false false true false true false t194 t195 _ A50.out).mono ?_); rintro e w63 ⟨rfl, hb⟩; refine ⟨_, rfl, ?_⟩; have n0_ := Aside0.mk (blk_below (g := gb179) (o := .cells #[.int .i64 a0_0, .int .i64 a0_1, .int .i64 a0_2, .int .i64 a0_3, .int .i64 a0_4, .int .i64 a0_5, .int .i64 a0_6, .int .i64 a0_7, .int .i64 a0_8, .int .i64 a0_9] 23 (0, 0)) (by (with_reducible repeat (first | refine blk_drewN ?_ _ | refine blk_drew ?_ | refine blk_alloc ?_ _)); exact BK179.out) hb); have n1_ := Aside0.mk (blk_below (g := gb184) (o := .cells #[.int .i64 x185000_4, .int .i64 x185001_4] 28 (0, 0)) (by (with_reducible repeat (first | refine blk_drewN ?_ _ | refine blk_drew ?_ | refine blk_alloc ?_ _)); exact BK184.out) hb); have n2_ := Aside0.mk (below_step (by repeat (first | (with_reducible first | exact HB.out | apply below_alloc | apply pw_below_drewN | apply below_drew1 | refine below_set ?_ GE179.out | refine below_set ?_ GE184.out) | exact HB.out)) hb); clear BK179; clear BK184; clear HB; have BK179 := n0_; have BK184 := n1_; have HB := n2_; clear n0_ n1_ n2_; (try clear hb); (try clear hb2); (try clear hk); (try clear hi); have hcz64_0 : w63.cell? ⟨gb184, 0, none⟩ = some (.int .i64 x185000_4) := (blk_cell BK184.out 0).trans rfl; have hcz64_1 : w63.cell? ⟨gb184, 1, none⟩ = some (.int .i64 x185001_4) := (blk_cell BK184.out 1).trans rfl; have hfz64_0 := blk_frozen BK184.out 0; have hfz64_1 := blk_frozen BK184.out 1))
                                go_ret
                                exact ⟨by first | rfl | (simp [errW_none, errW_some] <;> rfl) | (simp [*, errW_none, errW_some] <;> rfl), by repeat (first | (with_reducible first | exact HB.out | apply below_alloc | apply pw_below_drewN | apply below_drew1 | refine below_set ?_ GE179.out | refine below_set ?_ GE184.out) | exact HB.out)⟩
                            · replace c51 := Bool.eq_false_iff.mpr c51
                              subst c51
                              have H1 : (some false) = some r := by rw [if_neg (show ¬ (false = true) by decide)] at H; exact H
                              clear H
                              have H := H1
                              clear H1
                              obtain rfl := Option.some.inj H
                              have hnb65 := NB184_179.out
                              have hnc65 := NB179_184.out
                              have hcz66_0 : wr.cell? ⟨gb184, 0, none⟩ = some (.int .i64 x185000_4) := (blk_cell BK184.out 0).trans rfl
                              have hcz66_1 : wr.cell? ⟨gb184, 1, none⟩ = some (.int .i64 x185001_4) := (blk_cell BK184.out 1).trans rfl
                              have hfz66_0 := blk_frozen BK184.out 0
                              have hfz66_1 := blk_frozen BK184.out 1
                              have hcz67_0 : wr.cell? ⟨gb179, 0, none⟩ = some (.int .i64 a0_0) := (blk_cell BK179.out 0).trans rfl
                              have hcz67_1 : wr.cell? ⟨gb179, 1, none⟩ = some (.int .i64 a0_1) := (blk_cell BK179.out 1).trans rfl
                              have hcz67_2 : wr.cell? ⟨gb179, 2, none⟩ = some (.int .i64 a0_2) := (blk_cell BK179.out 2).trans rfl
                              have hcz67_3 : wr.cell? ⟨gb179, 3, none⟩ = some (.int .i64 a0_3) := (blk_cell BK179.out 3).trans rfl
                              have hcz67_4 : wr.cell? ⟨gb179, 4, none⟩ = some (.int .i64 a0_4) := (blk_cell BK179.out 4).trans rfl
                              have hcz67_5 : wr.cell? ⟨gb179, 5, none⟩ = some (.int .i64 a0_5) := (blk_cell BK179.out 5).trans rfl
                              have hcz67_6 : wr.cell? ⟨gb179, 6, none⟩ = some (.int .i64 a0_6) := (blk_cell BK179.out 6).trans rfl
                              have hcz67_7 : wr.cell? ⟨gb179, 7, none⟩ = some (.int .i64 a0_7) := (blk_cell BK179.out 7).trans rfl
                              have hcz67_8 : wr.cell? ⟨gb179, 8, none⟩ = some (.int .i64 a0_8) := (blk_cell BK179.out 8).trans rfl
                              have hcz67_9 : wr.cell? ⟨gb179, 9, none⟩ = some (.int .i64 a0_9) := (blk_cell BK179.out 9).trans rfl
                              have hfz67_0 := blk_frozen BK179.out 0
                              have hfz67_1 := blk_frozen BK179.out 1
                              have hfz67_2 := blk_frozen BK179.out 2
                              have hfz67_3 := blk_frozen BK179.out 3
                              have hfz67_4 := blk_frozen BK179.out 4
                              have hfz67_5 := blk_frozen BK179.out 5
                              have hfz67_6 := blk_frozen BK179.out 6
                              have hfz67_7 := blk_frozen BK179.out 7
                              have hfz67_8 := blk_frozen BK179.out 8
                              have hfz67_9 := blk_frozen BK179.out 9
                              go_wp2_with (first | ((with_reducible refine gate_callee (f := 12) rfl ?_); refine goesL_ (some 90) rfl rfl Try.func12 (by kernel_rfl) rfl #[.agg #[.int .i64 a0_0, .int .i64 a0_1, .int .i64 a0_2, .int .i64 a0_3, .int .i64 a0_4, .int .i64 a0_5, .int .i64 a0_6, .int .i64 a0_7, .int .i64 a0_8, .int .i64 a0_9], .agg #[.int .i64 x185000_4, .int .i64 x185001_4], .agg #[.bool false, .bool false], .agg #[.bool false, .bool true, .bool false, .bool true], .bool false] rfl (by (try simp only [List.map_toArray, List.map_cons, List.map_nil]); first | done | rfl | (simp only [List.length_drop, List.length_take]; rfl)) ?_; (with_reducible refine (phase_Step.calls k4 a0_0 a0_1 a0_2 a0_3 a0_4 a0_5 a0_6 a0_7 a0_8 a0_9 x185000_4 x185001_4 false false false true false true false t194 t195 _ A50.out).mono ?_); rintro e w68 ⟨rfl, hb⟩; refine ⟨_, rfl, ?_⟩; have n0_ := Aside0.mk (blk_below (g := gb179) (o := .cells #[.int .i64 a0_0, .int .i64 a0_1, .int .i64 a0_2, .int .i64 a0_3, .int .i64 a0_4, .int .i64 a0_5, .int .i64 a0_6, .int .i64 a0_7, .int .i64 a0_8, .int .i64 a0_9] 23 (0, 0)) (by (with_reducible repeat (first | refine blk_drewN ?_ _ | refine blk_drew ?_ | refine blk_alloc ?_ _)); exact BK179.out) hb); have n1_ := Aside0.mk (blk_below (g := gb184) (o := .cells #[.int .i64 x185000_4, .int .i64 x185001_4] 28 (0, 0)) (by (with_reducible repeat (first | refine blk_drewN ?_ _ | refine blk_drew ?_ | refine blk_alloc ?_ _)); exact BK184.out) hb); have n2_ := Aside0.mk (below_step (by repeat (first | (with_reducible first | exact HB.out | apply below_alloc | apply pw_below_drewN | apply below_drew1 | refine below_set ?_ GE179.out | refine below_set ?_ GE184.out) | exact HB.out)) hb); clear BK179; clear BK184; clear HB; have BK179 := n0_; have BK184 := n1_; have HB := n2_; clear n0_ n1_ n2_; (try clear hb); (try clear hb2); (try clear hk); (try clear hi); have hcz69_0 : w68.cell? ⟨gb184, 0, none⟩ = some (.int .i64 x185000_4) := (blk_cell BK184.out 0).trans rfl; have hcz69_1 : w68.cell? ⟨gb184, 1, none⟩ = some (.int .i64 x185001_4) := (blk_cell BK184.out 1).trans rfl; have hfz69_0 := blk_frozen BK184.out 0; have hfz69_1 := blk_frozen BK184.out 1))
                              go_ret
                              exact ⟨by first | rfl | (simp [errW_none, errW_some] <;> rfl) | (simp [*, errW_none, errW_some] <;> rfl), by repeat (first | (with_reducible first | exact HB.out | apply below_alloc | apply pw_below_drewN | apply below_drew1 | refine below_set ?_ GE179.out | refine below_set ?_ GE184.out) | exact HB.out)⟩
                          · rw [if_neg c49] at H
                            have c49b0 : (x185000_4 == t190) = false := beq_eq_false_iff_ne.mpr c49
                            have c49b1 : (x185000_4 != t190) = true := bne_iff_ne.mpr c49
                            obtain rfl := Option.some.inj H
                            have hnb70 := NB184_179.out
                            have hnc70 := NB179_184.out
                            have hcz71_0 : wr.cell? ⟨gb184, 0, none⟩ = some (.int .i64 x185000_4) := (blk_cell BK184.out 0).trans rfl
                            have hcz71_1 : wr.cell? ⟨gb184, 1, none⟩ = some (.int .i64 x185001_4) := (blk_cell BK184.out 1).trans rfl
                            have hfz71_0 := blk_frozen BK184.out 0
                            have hfz71_1 := blk_frozen BK184.out 1
                            go_wp2
                            go_ret
                            exact ⟨by first | rfl | (simp [errW_none, errW_some] <;> rfl) | (simp [*, errW_none, errW_some] <;> rfl), by repeat (first | (with_reducible first | exact HB.out | apply below_alloc | apply pw_below_drewN | apply below_drew1 | refine below_set ?_ GE179.out | refine below_set ?_ GE184.out) | exact HB.out)⟩

end Go.Proofs.Ytngmjmcamkfopaa.A
