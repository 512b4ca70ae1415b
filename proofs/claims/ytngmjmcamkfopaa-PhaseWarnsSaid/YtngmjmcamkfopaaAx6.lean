/- Each function's own law: what the call answers, as a plain Lean function; a text that a program of this session wrote. -/
import Derived.Test.YtngmjmcamkfopaaAx0
import Derived.Test.YtngmjmcamkfopaaAx3
import Derived.Test.YtngmjmcamkfopaaAx5
import Derived.Test.YtngmjmcamkfopaaHandLights
import Derived.Test.YtngmjmcamkfopaaHandSmall20
namespace Go.Proofs.Ytngmjmcamkfopaa.A
open Go.RowKit Go.Proofs.YtngmjmcamkfopaaW.PrintWords Go.Proofs.YtngmjmcamkfopaaW.PrintLast Go.Proofs.YtngmjmcamkfopaaW.PrintMore
attribute [local go_sem] max2_int min2_int max_two min_two max_three min_three max_four min_four   -- for this text's walks alone
set_option linter.unusedVariables false
set_option linter.unusedSimpArgs false

/-! ### crossbucklaw20_PhaseWarns: function 3 -/
mutual
def crossbucklaw20_PhaseWarns.j0 : Nat → List (S36) → Bool → Bool → Int → Int → Int → Int → Int → Int → Int → Int → Int → Int → Option (Bool)
  | 0, _, _, _, _, _, _, _, _, _, _, _, _, _ => none
  | k + 1, x1, x5, x22, x126000, x126001, x126002, x126003, x126004, x126005, x126006, x126007, x126008, x126009 => if x22 = true then (some x5) else ((phase_Enter.f 0).bind fun bt128 => (crossbucklaw20_PhaseWarns.l0 k x1 x5 0 0 false 0 x126000 x126001 x126002 x126003 x126004 x126005 x126006 x126007 x126008 x126009 bt128.1 bt128.2))
def crossbucklaw20_PhaseWarns.l0 : Nat → List (S36) → Bool → Int → Int → Bool → Int → Int → Int → Int → Int → Int → Int → Int → Int → Int → Int → Int → Int → Option (Bool)
  | 0, _, _, _, _, _, _, _, _, _, _, _, _, _, _, _, _, _, _ => none
  | k + 1, x1, x5, x8, x9, x10, x11, x126000, x126001, x126002, x126003, x126004, x126005, x126006, x126007, x126008, x126009, x131000, x131001 => if x11 < (x1.length : Int) then (if 0 ≤ x11 then ((phase_Step.f k x126000 x126001 x126002 x126003 x126004 x126005 x126006 x126007 x126008 x126009 x131000 x131001 ((rd_T36 x1 x11).f0.f0) ((rd_T36 x1 x11).f0.f1) ((rd_T36 x1 x11).f1.f0) ((rd_T36 x1 x11).f1.f1) ((rd_T36 x1 x11).f1.f2) ((rd_T36 x1 x11).f1.f3) ((rd_T36 x1 x11).f2)).bind fun bt134 => ((phase_Lights.f bt134.1 bt134.2).bind fun bt136 => (if bt136.2.2.2.1 = true then (if x10 = true then (if bt136.2.2.2.2 = true then (crossbucklaw20_PhaseWarns.j2 k x1 x5 x8 x9 x11 (!bt136.2.2.2.1) x126000 x126001 x126002 x126003 x126004 x126005 x126006 x126007 x126008 x126009 bt134.1 bt134.2 bt136.1 bt136.2.1 bt136.2.2.1 bt136.2.2.2.1 bt136.2.2.2.2) else (crossbucklaw20_PhaseWarns.j2 k x1 x5 x8 x9 x11 false x126000 x126001 x126002 x126003 x126004 x126005 x126006 x126007 x126008 x126009 bt134.1 bt134.2 bt136.1 bt136.2.1 bt136.2.2.1 bt136.2.2.2.1 bt136.2.2.2.2)) else (if x8 < x126000 then (crossbucklaw20_PhaseWarns.j2 k x1 x5 x8 x9 x11 true x126000 x126001 x126002 x126003 x126004 x126005 x126006 x126007 x126008 x126009 bt134.1 bt134.2 bt136.1 bt136.2.1 bt136.2.2.1 bt136.2.2.2.1 bt136.2.2.2.2) else (if x9 < x126001 then (crossbucklaw20_PhaseWarns.j2 k x1 x5 x8 x9 x11 true x126000 x126001 x126002 x126003 x126004 x126005 x126006 x126007 x126008 x126009 bt134.1 bt134.2 bt136.1 bt136.2.1 bt136.2.2.1 bt136.2.2.2.1 bt136.2.2.2.2) else (if bt136.2.2.2.2 = true then (crossbucklaw20_PhaseWarns.j2 k x1 x5 x8 x9 x11 (!bt136.2.2.2.1) x126000 x126001 x126002 x126003 x126004 x126005 x126006 x126007 x126008 x126009 bt134.1 bt134.2 bt136.1 bt136.2.1 bt136.2.2.1 bt136.2.2.2.1 bt136.2.2.2.2) else (crossbucklaw20_PhaseWarns.j2 k x1 x5 x8 x9 x11 false x126000 x126001 x126002 x126003 x126004 x126005 x126006 x126007 x126008 x126009 bt134.1 bt134.2 bt136.1 bt136.2.1 bt136.2.2.1 bt136.2.2.2.1 bt136.2.2.2.2))))) else (if bt136.2.2.2.2 = true then (crossbucklaw20_PhaseWarns.j2 k x1 x5 x8 x9 x11 (!bt136.2.2.2.1) x126000 x126001 x126002 x126003 x126004 x126005 x126006 x126007 x126008 x126009 bt134.1 bt134.2 bt136.1 bt136.2.1 bt136.2.2.1 bt136.2.2.2.1 bt136.2.2.2.2) else (crossbucklaw20_PhaseWarns.j2 k x1 x5 x8 x9 x11 false x126000 x126001 x126002 x126003 x126004 x126005 x126006 x126007 x126008 x126009 bt134.1 bt134.2 bt136.1 bt136.2.1 bt136.2.2.1 bt136.2.2.2.1 bt136.2.2.2.2))))) else (none)) else (some x5)
def crossbucklaw20_PhaseWarns.j2 : Nat → List (S36) → Bool → Int → Int → Int → Bool → Int → Int → Int → Int → Int → Int → Int → Int → Int → Int → Int → Int → Bool → Bool → Bool → Bool → Bool → Option (Bool)
  | 0, _, _, _, _, _, _, _, _, _, _, _, _, _, _, _, _, _, _, _, _, _, _, _ => none
  | k + 1, x1, x5, x8, x9, x11, x77, x126000, x126001, x126002, x126003, x126004, x126005, x126006, x126007, x126008, x126009, x131000, x131001, x142000, x142001, x142002, x142003, x142004 => if x77 = true then (some false) else (if x142000 = true then (crossbucklaw20_PhaseWarns.l0 k x1 x5 (wrap64 (x8 + 1)) 0 x142003 (wrap64 (x11 + 1)) x126000 x126001 x126002 x126003 x126004 x126005 x126006 x126007 x126008 x126009 x131000 x131001) else (if x131000 = 2 then (crossbucklaw20_PhaseWarns.l0 k x1 x5 x8 (wrap64 (x9 + 1)) x142003 (wrap64 (x11 + 1)) x126000 x126001 x126002 x126003 x126004 x126005 x126006 x126007 x126008 x126009 x131000 x131001) else (if x142003 = true then (crossbucklaw20_PhaseWarns.l0 k x1 x5 x8 x9 x142003 (wrap64 (x11 + 1)) x126000 x126001 x126002 x126003 x126004 x126005 x126006 x126007 x126008 x126009 x131000 x131001) else (crossbucklaw20_PhaseWarns.l0 k x1 x5 0 0 x142003 (wrap64 (x11 + 1)) x126000 x126001 x126002 x126003 x126004 x126005 x126006 x126007 x126008 x126009 x131000 x131001))))
end
def crossbucklaw20_PhaseWarns.f (k : Nat) (a0_0 : Int) (a0_1 : Int) (a0_2 : Int) (a0_3 : Int) (a0_4 : Int) (a0_5 : Int) (a0_6 : Int) (a0_7 : Int) (a0_8 : Int) (a0_9 : Int) (l1 : List (S36)) : Option (Bool) := (crossbucklaw20_small.f).bind fun t126 => ((crossbucklaw20_Few.f k a0_0 a0_1 a0_2 a0_3 a0_4 a0_5 a0_6 a0_7 a0_8 a0_9).bind fun t127 => (if t127 = true then (crossbucklaw20_PhaseWarns.j0 k l1 t126 (decide ((l1.length : Int) > 400)) a0_0 a0_1 a0_2 a0_3 a0_4 a0_5 a0_6 a0_7 a0_8 a0_9) else (crossbucklaw20_PhaseWarns.j0 k l1 t126 true a0_0 a0_1 a0_2 a0_3 a0_4 a0_5 a0_6 a0_7 a0_8 a0_9)))
theorem crossbucklaw20_PhaseWarns.mono_l : ∀ k, (∀ y0 y1 y2 y3 y4 y5 y6 y7 y8 y9 y10 y11 y12, LeO (crossbucklaw20_PhaseWarns.j0 k y0 y1 y2 y3 y4 y5 y6 y7 y8 y9 y10 y11 y12) (crossbucklaw20_PhaseWarns.j0 (k + 1) y0 y1 y2 y3 y4 y5 y6 y7 y8 y9 y10 y11 y12)) ∧ (∀ y0 y1 y2 y3 y4 y5 y6 y7 y8 y9 y10 y11 y12 y13 y14 y15 y16 y17, LeO (crossbucklaw20_PhaseWarns.l0 k y0 y1 y2 y3 y4 y5 y6 y7 y8 y9 y10 y11 y12 y13 y14 y15 y16 y17) (crossbucklaw20_PhaseWarns.l0 (k + 1) y0 y1 y2 y3 y4 y5 y6 y7 y8 y9 y10 y11 y12 y13 y14 y15 y16 y17)) ∧ (∀ y0 y1 y2 y3 y4 y5 y6 y7 y8 y9 y10 y11 y12 y13 y14 y15 y16 y17 y18 y19 y20 y21 y22, LeO (crossbucklaw20_PhaseWarns.j2 k y0 y1 y2 y3 y4 y5 y6 y7 y8 y9 y10 y11 y12 y13 y14 y15 y16 y17 y18 y19 y20 y21 y22) (crossbucklaw20_PhaseWarns.j2 (k + 1) y0 y1 y2 y3 y4 y5 y6 y7 y8 y9 y10 y11 y12 y13 y14 y15 y16 y17 y18 y19 y20 y21 y22))
  | 0 => ⟨fun _ _ _ _ _ _ _ _ _ _ _ _ _ r h => by simp [crossbucklaw20_PhaseWarns.j0] at h, fun _ _ _ _ _ _ _ _ _ _ _ _ _ _ _ _ _ _ r h => by simp [crossbucklaw20_PhaseWarns.l0] at h, fun _ _ _ _ _ _ _ _ _ _ _ _ _ _ _ _ _ _ _ _ _ _ _ r h => by simp [crossbucklaw20_PhaseWarns.j2] at h⟩
  | k + 1 => by
    obtain ⟨ih0, ih1, ih2⟩ := crossbucklaw20_PhaseWarns.mono_l k
    refine ⟨?_, ?_, ?_⟩
    · intro y0 y1 y2 y3 y4 y5 y6 y7 y8 y9 y10 y11 y12
      unfold crossbucklaw20_PhaseWarns.j0
      repeat' first
      | (with_reducible exact ih0 _ _ _ _ _ _ _ _ _ _ _ _ _)
      | (with_reducible exact ih1 _ _ _ _ _ _ _ _ _ _ _ _ _ _ _ _ _ _)
      | (with_reducible exact ih2 _ _ _ _ _ _ _ _ _ _ _ _ _ _ _ _ _ _ _ _ _ _ _)
      | (with_reducible exact crossbucklaw20_Few.mono _ _ _ _ _ _ _ _ _ _ _)
      | (with_reducible exact phase_Step.mono _ _ _ _ _ _ _ _ _ _ _ _ _ _ _ _ _ _ _ _)
      | (with_reducible exact LeO.refl _)
      | (with_reducible exact LeO.none _)
      | (with_reducible refine LeO.ite ?_ ?_)
      | (with_reducible refine LeO.bind ?_ (fun _ => ?_))
      | exact ih0 _ _ _ _ _ _ _ _ _ _ _ _ _
      | exact ih1 _ _ _ _ _ _ _ _ _ _ _ _ _ _ _ _ _ _
      | exact ih2 _ _ _ _ _ _ _ _ _ _ _ _ _ _ _ _ _ _ _ _ _ _ _
      | exact crossbucklaw20_Few.mono _ _ _ _ _ _ _ _ _ _ _
      | exact phase_Step.mono _ _ _ _ _ _ _ _ _ _ _ _ _ _ _ _ _ _ _ _
      | exact LeO.none _
      | refine LeO.ite ?_ ?_
      | refine LeO.bind ?_ (fun _ => ?_)
    · intro y0 y1 y2 y3 y4 y5 y6 y7 y8 y9 y10 y11 y12 y13 y14 y15 y16 y17
      unfold crossbucklaw20_PhaseWarns.l0
      repeat' first
      | (with_reducible exact ih0 _ _ _ _ _ _ _ _ _ _ _ _ _)
      | (with_reducible exact ih1 _ _ _ _ _ _ _ _ _ _ _ _ _ _ _ _ _ _)
      | (with_reducible exact ih2 _ _ _ _ _ _ _ _ _ _ _ _ _ _ _ _ _ _ _ _ _ _ _)
      | (with_reducible exact crossbucklaw20_Few.mono _ _ _ _ _ _ _ _ _ _ _)
      | (with_reducible exact phase_Step.mono _ _ _ _ _ _ _ _ _ _ _ _ _ _ _ _ _ _ _ _)
      | (with_reducible exact LeO.refl _)
      | (with_reducible exact LeO.none _)
      | (with_reducible refine LeO.ite ?_ ?_)
      | (with_reducible refine LeO.bind ?_ (fun _ => ?_))
      | exact ih0 _ _ _ _ _ _ _ _ _ _ _ _ _
      | exact ih1 _ _ _ _ _ _ _ _ _ _ _ _ _ _ _ _ _ _
      | exact ih2 _ _ _ _ _ _ _ _ _ _ _ _ _ _ _ _ _ _ _ _ _ _ _
      | exact crossbucklaw20_Few.mono _ _ _ _ _ _ _ _ _ _ _
      | exact phase_Step.mono _ _ _ _ _ _ _ _ _ _ _ _ _ _ _ _ _ _ _ _
      | exact LeO.none _
      | refine LeO.ite ?_ ?_
      | refine LeO.bind ?_ (fun _ => ?_)
    · intro y0 y1 y2 y3 y4 y5 y6 y7 y8 y9 y10 y11 y12 y13 y14 y15 y16 y17 y18 y19 y20 y21 y22
      unfold crossbucklaw20_PhaseWarns.j2
      repeat' first
      | (with_reducible exact ih0 _ _ _ _ _ _ _ _ _ _ _ _ _)
      | (with_reducible exact ih1 _ _ _ _ _ _ _ _ _ _ _ _ _ _ _ _ _ _)
      | (with_reducible exact ih2 _ _ _ _ _ _ _ _ _ _ _ _ _ _ _ _ _ _ _ _ _ _ _)
      | (with_reducible exact crossbucklaw20_Few.mono _ _ _ _ _ _ _ _ _ _ _)
      | (with_reducible exact phase_Step.mono _ _ _ _ _ _ _ _ _ _ _ _ _ _ _ _ _ _ _ _)
      | (with_reducible exact LeO.refl _)
      | (with_reducible exact LeO.none _)
      | (with_reducible refine LeO.ite ?_ ?_)
      | (with_reducible refine LeO.bind ?_ (fun _ => ?_))
      | exact ih0 _ _ _ _ _ _ _ _ _ _ _ _ _
      | exact ih1 _ _ _ _ _ _ _ _ _ _ _ _ _ _ _ _ _ _
      | exact ih2 _ _ _ _ _ _ _ _ _ _ _ _ _ _ _ _ _ _ _ _ _ _ _
      | exact crossbucklaw20_Few.mono _ _ _ _ _ _ _ _ _ _ _
      | exact phase_Step.mono _ _ _ _ _ _ _ _ _ _ _ _ _ _ _ _ _ _ _ _
      | exact LeO.none _
      | refine LeO.ite ?_ ?_
      | refine LeO.bind ?_ (fun _ => ?_)
theorem crossbucklaw20_PhaseWarns.mono : ∀ a0 a1 a2 a3 a4 a5 a6 a7 a8 a9 a10 k, LeO (crossbucklaw20_PhaseWarns.f k a0 a1 a2 a3 a4 a5 a6 a7 a8 a9 a10) (crossbucklaw20_PhaseWarns.f (k + 1) a0 a1 a2 a3 a4 a5 a6 a7 a8 a9 a10) := by
  intro a0 a1 a2 a3 a4 a5 a6 a7 a8 a9 a10 k
  obtain ⟨ih0, ih1, ih2⟩ := crossbucklaw20_PhaseWarns.mono_l k
  unfold crossbucklaw20_PhaseWarns.f
  repeat' first
      | (with_reducible exact ih0 _ _ _ _ _ _ _ _ _ _ _ _ _)
      | (with_reducible exact ih1 _ _ _ _ _ _ _ _ _ _ _ _ _ _ _ _ _ _)
      | (with_reducible exact ih2 _ _ _ _ _ _ _ _ _ _ _ _ _ _ _ _ _ _ _ _ _ _ _)
      | (with_reducible exact crossbucklaw20_Few.mono _ _ _ _ _ _ _ _ _ _ _)
      | (with_reducible exact phase_Step.mono _ _ _ _ _ _ _ _ _ _ _ _ _ _ _ _ _ _ _ _)
      | (with_reducible exact LeO.refl _)
      | (with_reducible exact LeO.none _)
      | (with_reducible refine LeO.ite ?_ ?_)
      | (with_reducible refine LeO.bind ?_ (fun _ => ?_))
      | exact ih0 _ _ _ _ _ _ _ _ _ _ _ _ _
      | exact ih1 _ _ _ _ _ _ _ _ _ _ _ _ _ _ _ _ _ _
      | exact ih2 _ _ _ _ _ _ _ _ _ _ _ _ _ _ _ _ _ _ _ _ _ _ _
      | exact crossbucklaw20_Few.mono _ _ _ _ _ _ _ _ _ _ _
      | exact phase_Step.mono _ _ _ _ _ _ _ _ _ _ _ _ _ _ _ _ _ _ _ _
      | exact LeO.none _
      | refine LeO.ite ?_ ?_
      | refine LeO.bind ?_ (fun _ => ?_)
def crossbucklaw20_PhaseWarns.T12 : Bool × List (List Nat × List Nat) := (true, [([], []), ([], []), ([], []), ([], []), ([2, 3], [2, 3]), ([4], [4]), ([5], [5]), ([], []), ([], []), ([7, 8], [7, 8]), ([9], [9]), ([10], [10]), ([], []), ([], []), ([12, 13], [12, 13]), ([14], [14]), ([15], [15]), ([0, 1, 6, 11, 16], [0, 1, 6, 11, 16]), ([17, 17, 0, 1, 2, 3, 4, 5, 6, 7, 8, 9, 10, 11, 12, 13, 14, 15, 16, 17], [17])])
def crossbucklaw20_PhaseWarns.B12 : List Nat := [0, 0, 0, 0, 12, 28, 60, 0, 0, 384, 896, 1920, 0, 0, 12288, 28672, 61440, 131071, 262143]
theorem crossbucklaw20_PhaseWarns.tab12 : rtab .any (opsOf Try.f3 12) = crossbucklaw20_PhaseWarns.T12 := by kernel_rfl
theorem crossbucklaw20_PhaseWarns.bits12 : waitsOk crossbucklaw20_PhaseWarns.T12.2 crossbucklaw20_PhaseWarns.B12 = true := by kernel_rfl
set_option maxHeartbeats 8000000 in
set_option maxRecDepth 100000 in
theorem crossbucklaw20_PhaseWarns.calls (k : Nat) (a0_0 : Int) (a0_1 : Int) (a0_2 : Int) (a0_3 : Int) (a0_4 : Int) (a0_5 : Int) (a0_6 : Int) (a0_7 : Int) (a0_8 : Int) (a0_9 : Int) (A1 : Option Addr) (c1 : Nat) (l1 : List (S36)) (r : Bool) (w : World) (hr1 : Kd.C k36 w A1 l1.length l1) (hc1 : l1.length ≤ c1) (h : crossbucklaw20_PhaseWarns.f k a0_0 a0_1 a0_2 a0_3 a0_4 a0_5 a0_6 a0_7 a0_8 a0_9 l1 = some r) :
    Calls Try.prog 3 #[.agg #[.int .i64 a0_0, .int .i64 a0_1, .int .i64 a0_2, .int .i64 a0_3, .int .i64 a0_4, .int .i64 a0_5, .int .i64 a0_6, .int .i64 a0_7, .int .i64 a0_8, .int .i64 a0_9], .slice A1 l1.length c1] w fun e w' => e = .returned (.bool r) ∧ Below w.heap.size w w' := by
  have hu23 := Try.underlying23
  have hu28 := Try.underlying28
  have hu32 := Try.underlying32
  have hu34 := Try.underlying34
  have hu38 := Try.underlying38
  have HR1 := Aside0.mk hr1
  have HC1 := Aside0.mk hc1
  clear hr1 hc1
  have HB := Aside0.mk (Below.refl w.heap.size w)
  have H : ((crossbucklaw20_small.f).bind fun t126 => ((crossbucklaw20_Few.f k a0_0 a0_1 a0_2 a0_3 a0_4 a0_5 a0_6 a0_7 a0_8 a0_9).bind fun t127 => (if t127 = true then (crossbucklaw20_PhaseWarns.j0 k l1 t126 (decide ((l1.length : Int) > 400)) a0_0 a0_1 a0_2 a0_3 a0_4 a0_5 a0_6 a0_7 a0_8 a0_9) else (crossbucklaw20_PhaseWarns.j0 k l1 t126 true a0_0 a0_1 a0_2 a0_3 a0_4 a0_5 a0_6 a0_7 a0_8 a0_9)))) = some r := h
  clear h
  replace H := Option.bind_eq_some_iff.mp H
  obtain ⟨t126, A30, H⟩ := H
  replace H : ((crossbucklaw20_Few.f k a0_0 a0_1 a0_2 a0_3 a0_4 a0_5 a0_6 a0_7 a0_8 a0_9).bind fun t127 => (if t127 = true then (crossbucklaw20_PhaseWarns.j0 k l1 t126 (decide ((l1.length : Int) > 400)) a0_0 a0_1 a0_2 a0_3 a0_4 a0_5 a0_6 a0_7 a0_8 a0_9) else (crossbucklaw20_PhaseWarns.j0 k l1 t126 true a0_0 a0_1 a0_2 a0_3 a0_4 a0_5 a0_6 a0_7 a0_8 a0_9))) = some r := H
  have A3 := Aside0.mk A30
  clear A30
  replace H := Option.bind_eq_some_iff.mp H
  obtain ⟨t127, A40, H⟩ := H
  replace H : (if t127 = true then (crossbucklaw20_PhaseWarns.j0 k l1 t126 (decide ((l1.length : Int) > 400)) a0_0 a0_1 a0_2 a0_3 a0_4 a0_5 a0_6 a0_7 a0_8 a0_9) else (crossbucklaw20_PhaseWarns.j0 k l1 t126 true a0_0 a0_1 a0_2 a0_3 a0_4 a0_5 a0_6 a0_7 a0_8 a0_9)) = some r := H
  have A4 := Aside0.mk A40
  clear A40
  have HC5 := Aside0.mk H
  clear H
  go_enter Try.func3, Try.ntmps3
  go_upto_region 3 with (first | ((with_reducible refine gate_dst (N := 2) rfl ?_); (try (refine gate_guard (by rfl) ?_; dsimp only)); refine box_event ?hg (N := 2) ?hd (cs := #[.int .i64 a0_0, .int .i64 a0_1, .int .i64 a0_2, .int .i64 a0_3, .int .i64 a0_4, .int .i64 a0_5, .int .i64 a0_6, .int .i64 a0_7, .int .i64 a0_8, .int .i64 a0_9]) (t := 23) ?hr ?_; (case hd => rfl); (case hg => rfl); (case hr => first | (go_simp; done) | (go_simp; rfl)); intro gb125 hg w6 hbox hb; have n0_ := Aside0.mk (below_step (by repeat (first | (with_reducible first | exact HB.out | apply below_alloc | apply pw_below_drewN | apply below_drew1) | exact HB.out)) hb); have n1_ := Aside0.mk (hbox); have n2_ := Aside0.mk ((by rw [hg]; exact (below_size (by repeat (first | (with_reducible first | exact HB.out | apply below_alloc | apply pw_below_drewN | apply below_drew1) | exact HB.out))) : w.heap.size ≤ gb125)); have n3_ := Aside0.mk ((by rw [hg]; exact (below_size (by repeat (first | (with_reducible first | exact HB.out | apply below_alloc | apply pw_below_drewN | apply below_drew1) | exact HB.out))) : w.heap.size ≤ gb125)); clear HB; have HB := n0_; have BK125 := n1_; have GW125 := n2_; have GE125 := n3_; clear n0_ n1_ n2_ n3_; clear hb hbox hg) | ((with_reducible refine gate_callee (f := 9) rfl ?_); refine goesL_ (some 13) rfl rfl Try.func9 (by kernel_rfl) rfl #[] rfl (by (try simp only [List.map_toArray, List.map_cons, List.map_nil]); first | done | rfl | (simp only [List.length_drop, List.length_take]; rfl)) ?_; (with_reducible refine (crossbucklaw20_small.calls  t126 _ A3.out).mono ?_); rintro e w7 ⟨rfl, hb⟩; refine ⟨_, rfl, ?_⟩; have n0_ := Aside0.mk (blk_below (g := gb125) (o := .cells #[.int .i64 a0_0, .int .i64 a0_1, .int .i64 a0_2, .int .i64 a0_3, .int .i64 a0_4, .int .i64 a0_5, .int .i64 a0_6, .int .i64 a0_7, .int .i64 a0_8, .int .i64 a0_9] 23 (0, 0)) (by (with_reducible repeat (first | refine blk_drewN ?_ _ | refine blk_drew ?_ | refine blk_alloc ?_ _)); exact BK125.out) hb); have n1_ := Aside0.mk (below_step (by repeat (first | (with_reducible first | exact HB.out | apply below_alloc | apply pw_below_drewN | apply below_drew1 | refine below_set ?_ GE125.out) | exact HB.out)) hb); clear BK125; clear HB; have BK125 := n0_; have HB := n1_; clear n0_ n1_; (try clear hb); (try clear hb2); (try clear hk); (try clear hi); have hcz8_0 : w7.cell? ⟨gb125, 0, none⟩ = some (.int .i64 a0_0) := (blk_cell BK125.out 0).trans rfl; have hcz8_1 : w7.cell? ⟨gb125, 1, none⟩ = some (.int .i64 a0_1) := (blk_cell BK125.out 1).trans rfl; have hcz8_2 : w7.cell? ⟨gb125, 2, none⟩ = some (.int .i64 a0_2) := (blk_cell BK125.out 2).trans rfl; have hcz8_3 : w7.cell? ⟨gb125, 3, none⟩ = some (.int .i64 a0_3) := (blk_cell BK125.out 3).trans rfl; have hcz8_4 : w7.cell? ⟨gb125, 4, none⟩ = some (.int .i64 a0_4) := (blk_cell BK125.out 4).trans rfl; have hcz8_5 : w7.cell? ⟨gb125, 5, none⟩ = some (.int .i64 a0_5) := (blk_cell BK125.out 5).trans rfl; have hcz8_6 : w7.cell? ⟨gb125, 6, none⟩ = some (.int .i64 a0_6) := (blk_cell BK125.out 6).trans rfl; have hcz8_7 : w7.cell? ⟨gb125, 7, none⟩ = some (.int .i64 a0_7) := (blk_cell BK125.out 7).trans rfl; have hcz8_8 : w7.cell? ⟨gb125, 8, none⟩ = some (.int .i64 a0_8) := (blk_cell BK125.out 8).trans rfl; have hcz8_9 : w7.cell? ⟨gb125, 9, none⟩ = some (.int .i64 a0_9) := (blk_cell BK125.out 9).trans rfl; have hfz8_0 := blk_frozen BK125.out 0; have hfz8_1 := blk_frozen BK125.out 1; have hfz8_2 := blk_frozen BK125.out 2; have hfz8_3 := blk_frozen BK125.out 3; have hfz8_4 := blk_frozen BK125.out 4; have hfz8_5 := blk_frozen BK125.out 5; have hfz8_6 := blk_frozen BK125.out 6; have hfz8_7 := blk_frozen BK125.out 7; have hfz8_8 := blk_frozen BK125.out 8; have hfz8_9 := blk_frozen BK125.out 9) | ((with_reducible refine gate_callee (f := 10) rfl ?_); refine goesL_ (some 15) rfl rfl Try.func10 (by kernel_rfl) rfl #[.agg #[.int .i64 a0_0, .int .i64 a0_1, .int .i64 a0_2, .int .i64 a0_3, .int .i64 a0_4, .int .i64 a0_5, .int .i64 a0_6, .int .i64 a0_7, .int .i64 a0_8, .int .i64 a0_9]] rfl (by (try simp only [List.map_toArray, List.map_cons, List.map_nil]); first | done | rfl | (simp only [List.length_drop, List.length_take]; rfl)) ?_; (with_reducible refine (crossbucklaw20_Few.calls k a0_0 a0_1 a0_2 a0_3 a0_4 a0_5 a0_6 a0_7 a0_8 a0_9 t127 _ A4.out).mono ?_); rintro e w9 ⟨rfl, hb⟩; refine ⟨_, rfl, ?_⟩; have n0_ := Aside0.mk (blk_below (g := gb125) (o := .cells #[.int .i64 a0_0, .int .i64 a0_1, .int .i64 a0_2, .int .i64 a0_3, .int .i64 a0_4, .int .i64 a0_5, .int .i64 a0_6, .int .i64 a0_7, .int .i64 a0_8, .int .i64 a0_9] 23 (0, 0)) (by (with_reducible repeat (first | refine blk_drewN ?_ _ | refine blk_drew ?_ | refine blk_alloc ?_ _)); exact BK125.out) hb); have n1_ := Aside0.mk (below_step (by repeat (first | (with_reducible first | exact HB.out | apply below_alloc | apply pw_below_drewN | apply below_drew1 | refine below_set ?_ GE125.out) | exact HB.out)) hb); clear BK125; clear HB; have BK125 := n0_; have HB := n1_; clear n0_ n1_; (try clear hb); (try clear hb2); (try clear hk); (try clear hi)))
  (try simp only [Act.put, List.setIfInBounds_toArray, List.set_cons_zero, List.set_cons_succ])
  go_cut [22] (fun v22 wc => ∃ (kq : Nat) (x22_4 : Bool), v22 = .bool x22_4 ∧ Aside0 (crossbucklaw20_PhaseWarns.j0 kq l1 t126 x22_4 a0_0 a0_1 a0_2 a0_3 a0_4 a0_5 a0_6 a0_7 a0_8 a0_9 = some r) ∧ Aside0 (kq ≤ k) ∧ Aside0 (wc.heap[gb125]? = some (.cells #[.int .i64 a0_0, .int .i64 a0_1, .int .i64 a0_2, .int .i64 a0_3, .int .i64 a0_4, .int .i64 a0_5, .int .i64 a0_6, .int .i64 a0_7, .int .i64 a0_8, .int .i64 a0_9] 23 (0, 0))) ∧ Aside0 (Below w.heap.size w wc))
  case first =>
    have H := HC5.out
    clear HC5
    by_cases c10 : t127 = true
    · subst c10
      have H1 : (crossbucklaw20_PhaseWarns.j0 k l1 t126 (decide ((l1.length : Int) > 400)) a0_0 a0_1 a0_2 a0_3 a0_4 a0_5 a0_6 a0_7 a0_8 a0_9) = some r := by rw [if_pos rfl] at H; exact H
      clear H
      have H := H1
      clear H1
      have H' := Aside0.mk H
      clear H
      go_wp2
      go_meet
      case rel => exact ⟨_, (decide ((l1.length : Int) > 400)), (by first | rfl | (simp; done) | (simp [*]; done)), H', ⟨by first | omega | exact Nat.le_refl _⟩, ⟨by (with_reducible repeat (first | refine blk_drewN ?_ _ | refine blk_drew ?_ | refine blk_alloc ?_ _)); exact BK125.out⟩, ⟨by repeat (first | (with_reducible first | exact HB.out | apply below_alloc | apply pw_below_drewN | apply below_drew1 | refine below_set ?_ GE125.out) | exact HB.out)⟩⟩
    · replace c10 := Bool.eq_false_iff.mpr c10
      subst c10
      have H1 : (crossbucklaw20_PhaseWarns.j0 k l1 t126 true a0_0 a0_1 a0_2 a0_3 a0_4 a0_5 a0_6 a0_7 a0_8 a0_9) = some r := by rw [if_neg (show ¬ (false = true) by decide)] at H; exact H
      clear H
      have H := H1
      clear H1
      have H' := Aside0.mk H
      clear H
      go_wp2
      go_meet
      case rel => exact ⟨_, (true), (by first | rfl | (simp; done) | (simp [*]; done)), H', ⟨by first | omega | exact Nat.le_refl _⟩, ⟨by (with_reducible repeat (first | refine blk_drewN ?_ _ | refine blk_drew ?_ | refine blk_alloc ?_ _)); exact BK125.out⟩, ⟨by repeat (first | (with_reducible first | exact HB.out | apply below_alloc | apply pw_below_drewN | apply below_drew1 | refine below_set ?_ GE125.out) | exact HB.out)⟩⟩
  case rest =>
    clear HC5
    try clear c1
    try clear p2
    try clear c3
    try clear c9
    try clear c10
    try clear hcz8_0
    try clear hcz8_1
    try clear hcz8_2
    try clear hcz8_3
    try clear hcz8_4
    try clear hcz8_5
    try clear hcz8_6
    try clear hcz8_7
    try clear hcz8_8
    try clear hcz8_9
    try clear hfz8_0
    try clear hfz8_1
    try clear hfz8_2
    try clear hfz8_3
    try clear hfz8_4
    try clear hfz8_5
    try clear hfz8_6
    try clear hfz8_7
    try clear hfz8_8
    try clear hfz8_9
    obtain ⟨kq, x22_4, rfl, HA, HJ4, BK125, HB⟩ := hcut
    cases kq with
    | zero => exact absurd HA.out (by simp [crossbucklaw20_PhaseWarns.j0])
    | succ kj4 =>
      have H := HA.out
      clear HA
      simp only [crossbucklaw20_PhaseWarns.j0] at H
      by_cases c11 : x22_4 = true
      · subst c11
        have H1 : (some t126) = some r := by rw [if_pos rfl] at H; exact H
        clear H
        have H := H1
        clear H1
        obtain rfl := Option.some.inj H
        go_wp2
        go_ret
        exact ⟨by first | rfl | (simp [errW_none, errW_some] <;> rfl) | (simp [*, errW_none, errW_some] <;> rfl), by repeat (first | (with_reducible first | exact HB.out | apply below_alloc | apply pw_below_drewN | apply below_drew1 | refine below_set ?_ GE125.out) | exact HB.out)⟩
      · replace c11 := Bool.eq_false_iff.mpr c11
        subst c11
        have H1 : ((phase_Enter.f 0).bind fun bt128 => (crossbucklaw20_PhaseWarns.l0 kj4 l1 t126 0 0 false 0 a0_0 a0_1 a0_2 a0_3 a0_4 a0_5 a0_6 a0_7 a0_8 a0_9 bt128.1 bt128.2)) = some r := by rw [if_neg (show ¬ (false = true) by decide)] at H; exact H
        clear H
        have H := H1
        clear H1
        replace H := Option.bind_eq_some_iff.mp H
        obtain ⟨⟨t128, t129⟩, A120, H⟩ := H
        replace H : (crossbucklaw20_PhaseWarns.l0 kj4 l1 t126 0 0 false 0 a0_0 a0_1 a0_2 a0_3 a0_4 a0_5 a0_6 a0_7 a0_8 a0_9 t128 t129) = some r := H
        have A12 := Aside0.mk A120
        clear A120
        have H' := Aside0.mk H
        clear H
        go_wp2_with (first | ((with_reducible refine gate_callee (f := 11) rfl ?_); refine goesL_ (some 24) rfl rfl Try.func11 (by kernel_rfl) rfl #[.int .i64 0] rfl (by (try simp only [List.map_toArray, List.map_cons, List.map_nil]); first | done | rfl | (simp only [List.length_drop, List.length_take]; rfl)) ?_; (with_reducible refine (phase_Enter.calls 0 t128 t129 _ A12.out).mono ?_); rintro e w13 ⟨rfl, hb⟩; refine ⟨_, rfl, ?_⟩; have n0_ := Aside0.mk (blk_below (g := gb125) (o := .cells #[.int .i64 a0_0, .int .i64 a0_1, .int .i64 a0_2, .int .i64 a0_3, .int .i64 a0_4, .int .i64 a0_5, .int .i64 a0_6, .int .i64 a0_7, .int .i64 a0_8, .int .i64 a0_9] 23 (0, 0)) (by (with_reducible repeat (first | refine blk_drewN ?_ _ | refine blk_drew ?_ | refine blk_alloc ?_ _)); exact BK125.out) hb); have n1_ := Aside0.mk (below_step (by repeat (first | (with_reducible first | exact HB.out | apply below_alloc | apply pw_below_drewN | apply below_drew1 | refine below_set ?_ GE125.out) | exact HB.out)) hb); clear BK125; clear HB; have BK125 := n0_; have HB := n1_; clear n0_ n1_; (try clear hb); (try clear hb2); (try clear hk); (try clear hi)) | ((with_reducible refine gate_dst (N := 7) rfl ?_); (try (refine gate_guard (by rfl) ?_; dsimp only)); refine box_event ?hg (N := 7) ?hd (cs := #[.int .i64 0, .int .i64 0]) (t := 28) ?hr ?_; (case hd => rfl); (case hg => rfl); (case hr => first | (go_simp; done) | (go_simp; rfl)); intro gb130 hg w14 hbox hb; have n0_ := Aside0.mk (blk_below (g := gb125) (o := .cells #[.int .i64 a0_0, .int .i64 a0_1, .int .i64 a0_2, .int .i64 a0_3, .int .i64 a0_4, .int .i64 a0_5, .int .i64 a0_6, .int .i64 a0_7, .int .i64 a0_8, .int .i64 a0_9] 23 (0, 0)) (by (with_reducible repeat (first | refine blk_drewN ?_ _ | refine blk_drew ?_ | refine blk_alloc ?_ _)); exact BK125.out) hb); have n1_ := Aside0.mk (below_step (by repeat (first | (with_reducible first | exact HB.out | apply below_alloc | apply pw_below_drewN | apply below_drew1 | refine below_set ?_ GE125.out) | exact HB.out)) hb); have n2_ := Aside0.mk (hbox); have n3_ := Aside0.mk ((by rw [hg]; exact (below_size (by repeat (first | (with_reducible first | exact HB.out | apply below_alloc | apply pw_below_drewN | apply below_drew1 | refine below_set ?_ GE125.out) | exact HB.out))) : w.heap.size ≤ gb130)); have n4_ := Aside0.mk ((by rw [hg]; exact (below_size (by repeat (first | (with_reducible first | exact HB.out | apply below_alloc | apply pw_below_drewN | apply below_drew1 | refine below_set ?_ GE125.out) | exact HB.out))) : w.heap.size ≤ gb130)); have n5_ := Aside0.mk ((by rw [hg]; exact Nat.ne_of_lt (blk_lt (g := gb125) (o := .cells #[.int .i64 a0_0, .int .i64 a0_1, .int .i64 a0_2, .int .i64 a0_3, .int .i64 a0_4, .int .i64 a0_5, .int .i64 a0_6, .int .i64 a0_7, .int .i64 a0_8, .int .i64 a0_9] 23 (0, 0)) (by (with_reducible repeat (first | refine blk_drewN ?_ _ | refine blk_drew ?_ | refine blk_alloc ?_ _)); exact BK125.out)) : gb125 ≠ gb130)); have n6_ := Aside0.mk ((by rw [hg]; exact Nat.ne_of_gt (blk_lt (g := gb125) (o := .cells #[.int .i64 a0_0, .int .i64 a0_1, .int .i64 a0_2, .int .i64 a0_3, .int .i64 a0_4, .int .i64 a0_5, .int .i64 a0_6, .int .i64 a0_7, .int .i64 a0_8, .int .i64 a0_9] 23 (0, 0)) (by (with_reducible repeat (first | refine blk_drewN ?_ _ | refine blk_drew ?_ | refine blk_alloc ?_ _)); exact BK125.out)) : gb130 ≠ gb125)); clear BK125; clear HB; have BK125 := n0_; have HB := n1_; have BK130 := n2_; have GW130 := n3_; have GE130 := n4_; have NB125_130 := n5_; have NB130_125 := n6_; clear n0_ n1_ n2_ n3_ n4_ n5_ n6_; clear hb hbox hg; have hnb15 := NB130_125.out; have hnc15 := NB125_130.out; have hcz16_0 : w14.cell? ⟨gb130, 0, none⟩ = some (.int .i64 0) := (blk_cell BK130.out 0).trans rfl; have hcz16_1 : w14.cell? ⟨gb130, 1, none⟩ = some (.int .i64 0) := (blk_cell BK130.out 1).trans rfl; have hfz16_0 := blk_frozen BK130.out 0; have hfz16_1 := blk_frozen BK130.out 1))
        go_loopg [8, 9, 10, 11] kj4 (fun kq v8 v9 v10 v11 w' => ∃ (x8_2 : Int) (x9_2 : Int) (x10_2 : Bool) (x11_2 : Int) (x131000_2 : Int) (x131001_2 : Int), v8 = .int .i64 x8_2 ∧ v9 = .int .i64 x9_2 ∧ v10 = .bool x10_2 ∧ v11 = .int .i64 x11_2 ∧ Aside0 (crossbucklaw20_PhaseWarns.l0 kq l1 t126 x8_2 x9_2 x10_2 x11_2 a0_0 a0_1 a0_2 a0_3 a0_4 a0_5 a0_6 a0_7 a0_8 a0_9 x131000_2 x131001_2 = some r) ∧ Aside0 (kq ≤ kj4) ∧ Aside0 (w'.heap[gb125]? = some (.cells #[.int .i64 a0_0, .int .i64 a0_1, .int .i64 a0_2, .int .i64 a0_3, .int .i64 a0_4, .int .i64 a0_5, .int .i64 a0_6, .int .i64 a0_7, .int .i64 a0_8, .int .i64 a0_9] 23 (0, 0))) ∧ Aside0 (w'.heap[gb130]? = some (.cells #[.int .i64 x131000_2, .int .i64 x131001_2] 28 (0, 0))) ∧ Aside0 (Below w.heap.size w w'))
        case atStart => exact ⟨(0), (0), (false), (0), (t128), (t129), (by first | rfl | (simp; done) | (simp [*]; done)), (by first | rfl | (simp; done) | (simp [*]; done)), (by first | rfl | (simp; done) | (simp [*]; done)), (by first | rfl | (simp; done) | (simp [*]; done)), H', ⟨Nat.le_refl _⟩, ⟨by (with_reducible repeat (first | refine blk_drewN ?_ _ | refine blk_drew ?_ | refine blk_alloc ?_ _)); refine blk_far ?_ NB125_130.out _; (with_reducible repeat (first | refine blk_drewN ?_ _ | refine blk_drew ?_ | refine blk_alloc ?_ _)); refine blk_far ?_ NB125_130.out _; (with_reducible repeat (first | refine blk_drewN ?_ _ | refine blk_drew ?_ | refine blk_alloc ?_ _)); exact BK125.out⟩, ⟨by (with_reducible repeat (first | refine blk_drewN ?_ _ | refine blk_drew ?_ | refine blk_alloc ?_ _)); refine blk_put (cs := #[.int .i64 t128, .int .i64 0]) ?_ 1 _ rfl; (with_reducible repeat (first | refine blk_drewN ?_ _ | refine blk_drew ?_ | refine blk_alloc ?_ _)); refine blk_put (cs := #[.int .i64 0, .int .i64 0]) ?_ 0 _ rfl; (with_reducible repeat (first | refine blk_drewN ?_ _ | refine blk_drew ?_ | refine blk_alloc ?_ _)); exact BK130.out⟩, ⟨by repeat (first | (with_reducible first | exact HB.out | apply below_alloc | apply pw_below_drewN | apply below_drew1 | refine below_set ?_ GE125.out | refine below_set ?_ GE130.out) | exact HB.out)⟩⟩
        case round =>
          clear H'
          try clear c1
          try clear p2
          try clear c3
          try clear c9
          try clear c10
          try clear c11
          try clear c15
          try clear hcz16_0
          try clear hcz16_1
          try clear hcz8_0
          try clear hcz8_1
          try clear hcz8_2
          try clear hcz8_3
          try clear hcz8_4
          try clear hcz8_5
          try clear hcz8_6
          try clear hcz8_7
          try clear hcz8_8
          try clear hcz8_9
          try clear hfz16_0
          try clear hfz16_1
          try clear hfz8_0
          try clear hfz8_1
          try clear hfz8_2
          try clear hfz8_3
          try clear hfz8_4
          try clear hfz8_5
          try clear hfz8_6
          try clear hfz8_7
          try clear hfz8_8
          try clear hfz8_9
          try clear p2
          obtain ⟨x8_2, x9_2, x10_2, x11_2, x131000_2, x131001_2, rfl, rfl, rfl, rfl, HA, HK2, BK125, BK130, HB⟩ := hrel
          cases gk with
          | zero => exact absurd HA.out (by simp [crossbucklaw20_PhaseWarns.l0])
          | succ k2 =>
            have H := HA.out
            clear HA
            simp only [crossbucklaw20_PhaseWarns.l0] at H
            by_cases c17 : x11_2 < (l1.length : Int)
            · rw [if_pos c17] at H
              have c17b0 : decide (x11_2 < (l1.length : Int)) = true := decide_eq_true c17
              clear c17
              by_cases c18 : 0 ≤ x11_2
              · rw [if_pos c18] at H
                have c18b0 : decide (0 ≤ x11_2) = true := decide_eq_true c18
                clear c18
                replace H := Option.bind_eq_some_iff.mp H
                obtain ⟨⟨t134, t135⟩, A190, H⟩ := H
                replace H : ((phase_Lights.f t134 t135).bind fun bt136 => (if bt136.2.2.2.1 = true then (if x10_2 = true then (if bt136.2.2.2.2 = true then (crossbucklaw20_PhaseWarns.j2 k2 l1 t126 x8_2 x9_2 x11_2 (!bt136.2.2.2.1) a0_0 a0_1 a0_2 a0_3 a0_4 a0_5 a0_6 a0_7 a0_8 a0_9 t134 t135 bt136.1 bt136.2.1 bt136.2.2.1 bt136.2.2.2.1 bt136.2.2.2.2) else (crossbucklaw20_PhaseWarns.j2 k2 l1 t126 x8_2 x9_2 x11_2 false a0_0 a0_1 a0_2 a0_3 a0_4 a0_5 a0_6 a0_7 a0_8 a0_9 t134 t135 bt136.1 bt136.2.1 bt136.2.2.1 bt136.2.2.2.1 bt136.2.2.2.2)) else (if x8_2 < a0_0 then (crossbucklaw20_PhaseWarns.j2 k2 l1 t126 x8_2 x9_2 x11_2 true a0_0 a0_1 a0_2 a0_3 a0_4 a0_5 a0_6 a0_7 a0_8 a0_9 t134 t135 bt136.1 bt136.2.1 bt136.2.2.1 bt136.2.2.2.1 bt136.2.2.2.2) else (if x9_2 < a0_1 then (crossbucklaw20_PhaseWarns.j2 k2 l1 t126 x8_2 x9_2 x11_2 true a0_0 a0_1 a0_2 a0_3 a0_4 a0_5 a0_6 a0_7 a0_8 a0_9 t134 t135 bt136.1 bt136.2.1 bt136.2.2.1 bt136.2.2.2.1 bt136.2.2.2.2) else (if bt136.2.2.2.2 = true then (crossbucklaw20_PhaseWarns.j2 k2 l1 t126 x8_2 x9_2 x11_2 (!bt136.2.2.2.1) a0_0 a0_1 a0_2 a0_3 a0_4 a0_5 a0_6 a0_7 a0_8 a0_9 t134 t135 bt136.1 bt136.2.1 bt136.2.2.1 bt136.2.2.2.1 bt136.2.2.2.2) else (crossbucklaw20_PhaseWarns.j2 k2 l1 t126 x8_2 x9_2 x11_2 false a0_0 a0_1 a0_2 a0_3 a0_4 a0_5 a0_6 a0_7 a0_8 a0_9 t134 t135 bt136.1 bt136.2.1 bt136.2.2.1 bt136.2.2.2.1 bt136.2.2.2.2))))) else (if bt136.2.2.2.2 = true then (crossbucklaw20_PhaseWarns.j2 k2 l1 t126 x8_2 x9_2 x11_2 (!bt136.2.2.2.1) a0_0 a0_1 a0_2 a0_3 a0_4 a0_5 a0_6 a0_7 a0_8 a0_9 t134 t135 bt136.1 bt136.2.1 bt136.2.2.1 bt136.2.2.2.1 bt136.2.2.2.2) else (crossbucklaw20_PhaseWarns.j2 k2 l1 t126 x8_2 x9_2 x11_2 false a0_0 a0_1 a0_2 a0_3 a0_4 a0_5 a0_6 a0_7 a0_8 a0_9 t134 t135 bt136.1 bt136.2.1 bt136.2.2.1 bt136.2.2.2.1 bt136.2.2.2.2)))) = some r := H
                have A19 := Aside0.mk A190
                clear A190
                replace H := Option.bind_eq_some_iff.mp H
                obtain ⟨⟨t136, t137, t138, t139, t140⟩, A200, H⟩ := H
                replace H : (if t139 = true then (if x10_2 = true then (if t140 = true then (crossbucklaw20_PhaseWarns.j2 k2 l1 t126 x8_2 x9_2 x11_2 (!t139) a0_0 a0_1 a0_2 a0_3 a0_4 a0_5 a0_6 a0_7 a0_8 a0_9 t134 t135 t136 t137 t138 t139 t140) else (crossbucklaw20_PhaseWarns.j2 k2 l1 t126 x8_2 x9_2 x11_2 false a0_0 a0_1 a0_2 a0_3 a0_4 a0_5 a0_6 a0_7 a0_8 a0_9 t134 t135 t136 t137 t138 t139 t140)) else (if x8_2 < a0_0 then (crossbucklaw20_PhaseWarns.j2 k2 l1 t126 x8_2 x9_2 x11_2 true a0_0 a0_1 a0_2 a0_3 a0_4 a0_5 a0_6 a0_7 a0_8 a0_9 t134 t135 t136 t137 t138 t139 t140) else (if x9_2 < a0_1 then (crossbucklaw20_PhaseWarns.j2 k2 l1 t126 x8_2 x9_2 x11_2 true a0_0 a0_1 a0_2 a0_3 a0_4 a0_5 a0_6 a0_7 a0_8 a0_9 t134 t135 t136 t137 t138 t139 t140) else (if t140 = true then (crossbucklaw20_PhaseWarns.j2 k2 l1 t126 x8_2 x9_2 x11_2 (!t139) a0_0 a0_1 a0_2 a0_3 a0_4 a0_5 a0_6 a0_7 a0_8 a0_9 t134 t135 t136 t137 t138 t139 t140) else (crossbucklaw20_PhaseWarns.j2 k2 l1 t126 x8_2 x9_2 x11_2 false a0_0 a0_1 a0_2 a0_3 a0_4 a0_5 a0_6 a0_7 a0_8 a0_9 t134 t135 t136 t137 t138 t139 t140))))) else (if t140 = true then (crossbucklaw20_PhaseWarns.j2 k2 l1 t126 x8_2 x9_2 x11_2 (!t139) a0_0 a0_1 a0_2 a0_3 a0_4 a0_5 a0_6 a0_7 a0_8 a0_9 t134 t135 t136 t137 t138 t139 t140) else (crossbucklaw20_PhaseWarns.j2 k2 l1 t126 x8_2 x9_2 x11_2 false a0_0 a0_1 a0_2 a0_3 a0_4 a0_5 a0_6 a0_7 a0_8 a0_9 t134 t135 t136 t137 t138 t139 t140))) = some r := H
                have A20 := Aside0.mk A200
                clear A200
                have HC21 := Aside0.mk H
                clear H
                try go_wp2
                have n0_ := Aside0.mk (blk_drew BK125.out)
                have n1_ := Aside0.mk (blk_drew BK130.out)
                have n2_ := Aside0.mk (below_drew1 HB.out)
                clear BK125
                clear BK130
                clear HB
                have BK125 := n0_
                have BK130 := n1_
                have HB := n2_
                clear n0_ n1_ n2_
                have p131 : 0 ≤ (x11_2 : Int) := of_decide_eq_true (by first | (with_reducible assumption) | assumption)
                have q131 : x11_2 < (l1.length : Int) := of_decide_eq_true (by first | (with_reducible assumption) | assumption)
                obtain ⟨ad131, e131, hx131_0, hx131_1, hx131_2, hx131_3, hx131_4, hx131_5, hx131_6⟩ := at_T36 HR1.out x11_2 p131 q131
                have hw131_6 := hx131_6
                have hw131_5 := hx131_5
                have hw131_4 := hx131_4
                have hw131_3 := hx131_3
                have hw131_2 := hx131_2
                have hw131_1 := hx131_1
                have hw131_0 := hx131_0
                cases e131
                replace hx131_0 := (HB.out.cell (World.block_lt_of_cell? w _ hx131_0)).trans hx131_0
                replace hx131_1 := (HB.out.cell (World.block_lt_of_cell? w _ hx131_1)).trans hx131_1
                replace hx131_2 := (HB.out.cell (World.block_lt_of_cell? w _ hx131_2)).trans hx131_2
                replace hx131_3 := (HB.out.cell (World.block_lt_of_cell? w _ hx131_3)).trans hx131_3
                replace hx131_4 := (HB.out.cell (World.block_lt_of_cell? w _ hx131_4)).trans hx131_4
                replace hx131_5 := (HB.out.cell (World.block_lt_of_cell? w _ hx131_5)).trans hx131_5
                replace hx131_6 := (HB.out.cell (World.block_lt_of_cell? w _ hx131_6)).trans hx131_6
                replace p131 := eq_true p131
                replace q131 := eq_true q131
                have p132 : 0 ≤ (x11_2 : Int) := of_decide_eq_true (by first | (with_reducible assumption) | assumption)
                have q132 : x11_2 < (l1.length : Int) := of_decide_eq_true (by first | (with_reducible assumption) | assumption)
                obtain ⟨ad132, e132, hx132_0, hx132_1, hx132_2, hx132_3, hx132_4, hx132_5, hx132_6⟩ := at_T36 HR1.out x11_2 p132 q132
                have hw132_6 := hx132_6
                have hw132_5 := hx132_5
                have hw132_4 := hx132_4
                have hw132_3 := hx132_3
                have hw132_2 := hx132_2
                have hw132_1 := hx132_1
                have hw132_0 := hx132_0
                obtain rfl : ad131 = ad132 := (by injection e132)
                replace hx132_0 := (HB.out.cell (World.block_lt_of_cell? w _ hx132_0)).trans hx132_0
                replace hx132_1 := (HB.out.cell (World.block_lt_of_cell? w _ hx132_1)).trans hx132_1
                replace hx132_2 := (HB.out.cell (World.block_lt_of_cell? w _ hx132_2)).trans hx132_2
                replace hx132_3 := (HB.out.cell (World.block_lt_of_cell? w _ hx132_3)).trans hx132_3
                replace hx132_4 := (HB.out.cell (World.block_lt_of_cell? w _ hx132_4)).trans hx132_4
                replace hx132_5 := (HB.out.cell (World.block_lt_of_cell? w _ hx132_5)).trans hx132_5
                replace hx132_6 := (HB.out.cell (World.block_lt_of_cell? w _ hx132_6)).trans hx132_6
                replace p132 := eq_true p132
                replace q132 := eq_true q132
                have p133 : 0 ≤ (x11_2 : Int) := of_decide_eq_true (by first | (with_reducible assumption) | assumption)
                have q133 : x11_2 < (l1.length : Int) := of_decide_eq_true (by first | (with_reducible assumption) | assumption)
                obtain ⟨ad133, e133, hx133_0, hx133_1, hx133_2, hx133_3, hx133_4, hx133_5, hx133_6⟩ := at_T36 HR1.out x11_2 p133 q133
                have hw133_6 := hx133_6
                have hw133_5 := hx133_5
                have hw133_4 := hx133_4
                have hw133_3 := hx133_3
                have hw133_2 := hx133_2
                have hw133_1 := hx133_1
                have hw133_0 := hx133_0
                obtain rfl : ad131 = ad133 := (by injection e133)
                replace hx133_0 := (HB.out.cell (World.block_lt_of_cell? w _ hx133_0)).trans hx133_0
                replace hx133_1 := (HB.out.cell (World.block_lt_of_cell? w _ hx133_1)).trans hx133_1
                replace hx133_2 := (HB.out.cell (World.block_lt_of_cell? w _ hx133_2)).trans hx133_2
                replace hx133_3 := (HB.out.cell (World.block_lt_of_cell? w _ hx133_3)).trans hx133_3
                replace hx133_4 := (HB.out.cell (World.block_lt_of_cell? w _ hx133_4)).trans hx133_4
                replace hx133_5 := (HB.out.cell (World.block_lt_of_cell? w _ hx133_5)).trans hx133_5
                replace hx133_6 := (HB.out.cell (World.block_lt_of_cell? w _ hx133_6)).trans hx133_6
                replace p133 := eq_true p133
                replace q133 := eq_true q133
                refine start_ (n := 19) (S := fun w' => w'.cell? ⟨gb125, 0, none⟩ = some (.int .i64 a0_0) ∧ w'.cell? ⟨gb125, 1, none⟩ = some (.int .i64 a0_1) ∧ w'.cell? ⟨gb125, 2, none⟩ = some (.int .i64 a0_2) ∧ w'.cell? ⟨gb125, 3, none⟩ = some (.int .i64 a0_3) ∧ w'.cell? ⟨gb125, 4, none⟩ = some (.int .i64 a0_4) ∧ w'.cell? ⟨gb125, 5, none⟩ = some (.int .i64 a0_5) ∧ w'.cell? ⟨gb125, 6, none⟩ = some (.int .i64 a0_6) ∧ w'.cell? ⟨gb125, 7, none⟩ = some (.int .i64 a0_7) ∧ w'.cell? ⟨gb125, 8, none⟩ = some (.int .i64 a0_8) ∧ w'.cell? ⟨gb125, 9, none⟩ = some (.int .i64 a0_9) ∧ w'.cell? ⟨gb130, 0, none⟩ = some (.int .i64 x131000_2) ∧ w'.cell? ⟨gb130, 1, none⟩ = some (.int .i64 x131001_2) ∧ w'.cell? (ad131.add ((x11_2).toNat * 7)) = some (.bool ((rd_T36 l1 x11_2).f0.f0)) ∧ w'.cell? ⟨(ad131.add ((x11_2).toNat * 7)).block, (ad131.add ((x11_2).toNat * 7)).off + 1, none⟩ = some (.bool ((rd_T36 l1 x11_2).f0.f1)) ∧ w'.cell? ⟨(ad131.add ((x11_2).toNat * 7)).block, (ad131.add ((x11_2).toNat * 7)).off + 2, none⟩ = some (.bool ((rd_T36 l1 x11_2).f1.f0)) ∧ w'.cell? ⟨(ad131.add ((x11_2).toNat * 7)).block, (ad131.add ((x11_2).toNat * 7)).off + 3, none⟩ = some (.bool ((rd_T36 l1 x11_2).f1.f1)) ∧ w'.cell? ⟨(ad131.add ((x11_2).toNat * 7)).block, (ad131.add ((x11_2).toNat * 7)).off + 4, none⟩ = some (.bool ((rd_T36 l1 x11_2).f1.f2)) ∧ w'.cell? ⟨(ad131.add ((x11_2).toNat * 7)).block, (ad131.add ((x11_2).toNat * 7)).off + 5, none⟩ = some (.bool ((rd_T36 l1 x11_2).f1.f3)) ∧ w'.cell? ⟨(ad131.add ((x11_2).toNat * 7)).block, (ad131.add ((x11_2).toNat * 7)).off + 6, none⟩ = some (.bool ((rd_T36 l1 x11_2).f2)) ∧ w'.cell? (ad131.add ((x11_2).toNat * 7)) = some (.bool ((rd_T36 l1 x11_2).f0.f0)) ∧ w'.cell? ⟨(ad131.add ((x11_2).toNat * 7)).block, (ad131.add ((x11_2).toNat * 7)).off + 1, none⟩ = some (.bool ((rd_T36 l1 x11_2).f0.f1)) ∧ w'.cell? ⟨(ad131.add ((x11_2).toNat * 7)).block, (ad131.add ((x11_2).toNat * 7)).off + 2, none⟩ = some (.bool ((rd_T36 l1 x11_2).f1.f0)) ∧ w'.cell? ⟨(ad131.add ((x11_2).toNat * 7)).block, (ad131.add ((x11_2).toNat * 7)).off + 3, none⟩ = some (.bool ((rd_T36 l1 x11_2).f1.f1)) ∧ w'.cell? ⟨(ad131.add ((x11_2).toNat * 7)).block, (ad131.add ((x11_2).toNat * 7)).off + 4, none⟩ = some (.bool ((rd_T36 l1 x11_2).f1.f2)) ∧ w'.cell? ⟨(ad131.add ((x11_2).toNat * 7)).block, (ad131.add ((x11_2).toNat * 7)).off + 5, none⟩ = some (.bool ((rd_T36 l1 x11_2).f1.f3)) ∧ w'.cell? ⟨(ad131.add ((x11_2).toNat * 7)).block, (ad131.add ((x11_2).toNat * 7)).off + 6, none⟩ = some (.bool ((rd_T36 l1 x11_2).f2)) ∧ w'.cell? (ad131.add ((x11_2).toNat * 7)) = some (.bool ((rd_T36 l1 x11_2).f0.f0)) ∧ w'.cell? ⟨(ad131.add ((x11_2).toNat * 7)).block, (ad131.add ((x11_2).toNat * 7)).off + 1, none⟩ = some (.bool ((rd_T36 l1 x11_2).f0.f1)) ∧ w'.cell? ⟨(ad131.add ((x11_2).toNat * 7)).block, (ad131.add ((x11_2).toNat * 7)).off + 2, none⟩ = some (.bool ((rd_T36 l1 x11_2).f1.f0)) ∧ w'.cell? ⟨(ad131.add ((x11_2).toNat * 7)).block, (ad131.add ((x11_2).toNat * 7)).off + 3, none⟩ = some (.bool ((rd_T36 l1 x11_2).f1.f1)) ∧ w'.cell? ⟨(ad131.add ((x11_2).toNat * 7)).block, (ad131.add ((x11_2).toNat * 7)).off + 4, none⟩ = some (.bool ((rd_T36 l1 x11_2).f1.f2)) ∧ w'.cell? ⟨(ad131.add ((x11_2).toNat * 7)).block, (ad131.add ((x11_2).toNat * 7)).off + 5, none⟩ = some (.bool ((rd_T36 l1 x11_2).f1.f3)) ∧ w'.cell? ⟨(ad131.add ((x11_2).toNat * 7)).block, (ad131.add ((x11_2).toNat * 7)).off + 6, none⟩ = some (.bool ((rd_T36 l1 x11_2).f2))) (ds := [18]) #[false, false, false, false, false, false, false, false, false, false, false, false, false, false, false, false, false, false, false] (by kernel_rfl) rfl rfl ⟨(blk_cell BK125.out 0).trans rfl, (blk_cell BK125.out 1).trans rfl, (blk_cell BK125.out 2).trans rfl, (blk_cell BK125.out 3).trans rfl, (blk_cell BK125.out 4).trans rfl, (blk_cell BK125.out 5).trans rfl, (blk_cell BK125.out 6).trans rfl, (blk_cell BK125.out 7).trans rfl, (blk_cell BK125.out 8).trans rfl, (blk_cell BK125.out 9).trans rfl, (blk_cell BK130.out 0).trans rfl, (blk_cell BK130.out 1).trans rfl, ((HB.out.cell (World.block_lt_of_cell? w _ hw131_0)).trans hw131_0), ((HB.out.cell (World.block_lt_of_cell? w _ hw131_1)).trans hw131_1), ((HB.out.cell (World.block_lt_of_cell? w _ hw131_2)).trans hw131_2), ((HB.out.cell (World.block_lt_of_cell? w _ hw131_3)).trans hw131_3), ((HB.out.cell (World.block_lt_of_cell? w _ hw131_4)).trans hw131_4), ((HB.out.cell (World.block_lt_of_cell? w _ hw131_5)).trans hw131_5), ((HB.out.cell (World.block_lt_of_cell? w _ hw131_6)).trans hw131_6), ((HB.out.cell (World.block_lt_of_cell? w _ hw132_0)).trans hw132_0), ((HB.out.cell (World.block_lt_of_cell? w _ hw132_1)).trans hw132_1), ((HB.out.cell (World.block_lt_of_cell? w _ hw132_2)).trans hw132_2), ((HB.out.cell (World.block_lt_of_cell? w _ hw132_3)).trans hw132_3), ((HB.out.cell (World.block_lt_of_cell? w _ hw132_4)).trans hw132_4), ((HB.out.cell (World.block_lt_of_cell? w _ hw132_5)).trans hw132_5), ((HB.out.cell (World.block_lt_of_cell? w _ hw132_6)).trans hw132_6), ((HB.out.cell (World.block_lt_of_cell? w _ hw133_0)).trans hw133_0), ((HB.out.cell (World.block_lt_of_cell? w _ hw133_1)).trans hw133_1), ((HB.out.cell (World.block_lt_of_cell? w _ hw133_2)).trans hw133_2), ((HB.out.cell (World.block_lt_of_cell? w _ hw133_3)).trans hw133_3), ((HB.out.cell (World.block_lt_of_cell? w _ hw133_4)).trans hw133_4), ((HB.out.cell (World.block_lt_of_cell? w _ hw133_5)).trans hw133_5), ((HB.out.cell (World.block_lt_of_cell? w _ hw133_6)).trans hw133_6)⟩ (fun hHeld => ?_); refine with_tabW crossbucklaw20_PhaseWarns.tab12 crossbucklaw20_PhaseWarns.bits12 (fun HT_ HW_ => ?_)
                generalize wr.drew = w22 at BK125 BK130 HB hx131_0 hx131_1 hx131_2 hx131_3 hx131_4 hx131_5 hx131_6 hx132_0 hx132_1 hx132_2 hx132_3 hx132_4 hx132_5 hx132_6 hx133_0 hx133_1 hx133_2 hx133_3 hx133_4 hx133_5 hx133_6 hHeld ⊢
                refine pure_ (i := 2) (N := some 33) (v := ?_) (a' := ?_) #[false, false, true, false, false, false, false, false, false, false, false, false, false, false, false, false, false, false, false] rfl rfl (any_of HT_.out (by kernel_rfl)) (fun _ _ _ h => h) (Or.inl ⟨by rfl, ?_⟩) ?_ ?_
                rotate_left
                · intro w'
                  go_simp
                  with_reducible rfl
                rotate_left
                · simp only [Act.put, List.setIfInBounds_toArray, List.set_cons_zero, List.set_cons_succ, i64_w, i32_w]
                  rfl
                refine pure_ (i := 3) (N := some 34) (v := ?_) (a' := ?_) #[false, false, true, true, false, false, false, false, false, false, false, false, false, false, false, false, false, false, false] rfl rfl (any_of HT_.out (by kernel_rfl)) (fun _ _ _ h => h) (Or.inl ⟨by rfl, ?_⟩) ?_ ?_
                rotate_left
                · intro w'
                  go_simp
                  with_reducible rfl
                rotate_left
                · simp only [Act.put, List.setIfInBounds_toArray, List.set_cons_zero, List.set_cons_succ, i64_w, i32_w]
                  rfl
                refine pure_ (i := 4) (N := some 35) (v := ?_) (a' := ?_) #[false, false, true, true, true, false, false, false, false, false, false, false, false, false, false, false, false, false, false] rfl rfl (any_of HT_.out (by kernel_rfl)) (fun _ _ _ h => h) (Or.inl ⟨by rfl, ?_⟩) ?_ ?_
                rotate_left
                · intro w'
                  go_simp
                  with_reducible rfl
                rotate_left
                · simp only [Act.put, List.setIfInBounds_toArray, List.set_cons_zero, List.set_cons_succ, i64_w, i32_w]
                  rfl
                refine pure_ (i := 5) (N := some 36) (v := ?_) (a' := ?_) #[false, false, true, true, true, true, false, false, false, false, false, false, false, false, false, false, false, false, false] rfl rfl (any_of HT_.out (by kernel_rfl)) (fun _ _ _ h => h) (Or.inl ⟨by rfl, ?_⟩) ?_ ?_
                rotate_left
                · intro w'
                  go_simp
                  with_reducible rfl
                rotate_left
                · simp only [Act.put, List.setIfInBounds_toArray, List.set_cons_zero, List.set_cons_succ, i64_w, i32_w]
                  rfl
                refine pure_ (i := 7) (N := some 38) (v := ?_) (a' := ?_) #[false, false, true, true, true, true, false, true, false, false, false, false, false, false, false, false, false, false, false] rfl rfl (any_of HT_.out (by kernel_rfl)) (fun _ _ _ h => h) (Or.inl ⟨by rfl, ?_⟩) ?_ ?_
                rotate_left
                · intro w'
                  go_simp
                  with_reducible rfl
                rotate_left
                · simp only [Act.put, List.setIfInBounds_toArray, List.set_cons_zero, List.set_cons_succ, i64_w, i32_w]
                  rfl
                refine pure_ (i := 8) (N := some 39) (v := ?_) (a' := ?_) #[false, false, true, true, true, true, false, true, true, false, false, false, false, false, false, false, false, false, false] rfl rfl (any_of HT_.out (by kernel_rfl)) (fun _ _ _ h => h) (Or.inl ⟨by rfl, ?_⟩) ?_ ?_
                rotate_left
                · intro w'
                  go_simp
                  with_reducible rfl
                rotate_left
                · simp only [Act.put, List.setIfInBounds_toArray, List.set_cons_zero, List.set_cons_succ, i64_w, i32_w]
                  rfl
                refine pure_ (i := 9) (N := some 40) (v := ?_) (a' := ?_) #[false, false, true, true, true, true, false, true, true, true, false, false, false, false, false, false, false, false, false] rfl rfl (any_of HT_.out (by kernel_rfl)) (fun _ _ _ h => h) (Or.inl ⟨by rfl, ?_⟩) ?_ ?_
                rotate_left
                · intro w'
                  go_simp
                  with_reducible rfl
                rotate_left
                · simp only [Act.put, List.setIfInBounds_toArray, List.set_cons_zero, List.set_cons_succ, i64_w, i32_w]
                  rfl
                refine pure_ (i := 10) (N := some 41) (v := ?_) (a' := ?_) #[false, false, true, true, true, true, false, true, true, true, true, false, false, false, false, false, false, false, false] rfl rfl (any_of HT_.out (by kernel_rfl)) (fun _ _ _ h => h) (Or.inl ⟨by rfl, ?_⟩) ?_ ?_
                rotate_left
                · intro w'
                  go_simp
                  with_reducible rfl
                rotate_left
                · simp only [Act.put, List.setIfInBounds_toArray, List.set_cons_zero, List.set_cons_succ, i64_w, i32_w]
                  rfl
                refine pure_ (i := 12) (N := some 43) (v := ?_) (a' := ?_) #[false, false, true, true, true, true, false, true, true, true, true, false, true, false, false, false, false, false, false] rfl rfl (any_of HT_.out (by kernel_rfl)) (fun _ _ _ h => h) (Or.inl ⟨by rfl, ?_⟩) ?_ ?_
                rotate_left
                · intro w'
                  go_simp
                  with_reducible rfl
                rotate_left
                · simp only [Act.put, List.setIfInBounds_toArray, List.set_cons_zero, List.set_cons_succ, i64_w, i32_w]
                  rfl
                refine pure_ (i := 13) (N := some 44) (v := ?_) (a' := ?_) #[false, false, true, true, true, true, false, true, true, true, true, false, true, true, false, false, false, false, false] rfl rfl (any_of HT_.out (by kernel_rfl)) (fun _ _ _ h => h) (Or.inl ⟨by rfl, ?_⟩) ?_ ?_
                rotate_left
                · intro w'
                  go_simp
                  with_reducible rfl
                rotate_left
                · simp only [Act.put, List.setIfInBounds_toArray, List.set_cons_zero, List.set_cons_succ, i64_w, i32_w]
                  rfl
                refine pure_ (i := 14) (N := some 45) (v := ?_) (a' := ?_) #[false, false, true, true, true, true, false, true, true, true, true, false, true, true, true, false, false, false, false] rfl rfl (any_of HT_.out (by kernel_rfl)) (fun _ _ _ h => h) (Or.inl ⟨by rfl, ?_⟩) ?_ ?_
                rotate_left
                · intro w'
                  go_simp
                  with_reducible rfl
                rotate_left
                · simp only [Act.put, List.setIfInBounds_toArray, List.set_cons_zero, List.set_cons_succ, i64_w, i32_w]
                  rfl
                refine pure_ (i := 15) (N := some 46) (v := ?_) (a' := ?_) #[false, false, true, true, true, true, false, true, true, true, true, false, true, true, true, true, false, false, false] rfl rfl (any_of HT_.out (by kernel_rfl)) (fun _ _ _ h => h) (Or.inl ⟨by rfl, ?_⟩) ?_ ?_
                rotate_left
                · intro w'
                  go_simp
                  with_reducible rfl
                rotate_left
                · simp only [Act.put, List.setIfInBounds_toArray, List.set_cons_zero, List.set_cons_succ, i64_w, i32_w]
                  rfl
                refine take_ (i := 0) (N := some 31) (v := ?_) (a' := ?_) #[true, false, true, true, true, true, false, true, true, true, true, false, true, true, true, true, false, false, false] rfl rfl (take_ofW HT_.out HW_.out (by kernel_rfl)) (fun _ _ _ h => h) (Or.inl ⟨by rfl, ?_⟩) hHeld ?_ ?_
                rotate_left
                · rintro w' ⟨s0, s1, s2, s3, s4, s5, s6, s7, s8, s9, s10, s11, s12, s13, s14, s15, s16, s17, s18, s19, s20, s21, s22, s23, s24, s25, s26, s27, s28, s29, s30, s31, s32⟩
                  go_simp
                  with_reducible rfl
                rotate_left
                · simp only [Act.put, List.setIfInBounds_toArray, List.set_cons_zero, List.set_cons_succ, i64_w, i32_w]
                  rfl
                refine take_ (i := 1) (N := some 32) (v := ?_) (a' := ?_) #[true, true, true, true, true, true, false, true, true, true, true, false, true, true, true, true, false, false, false] rfl rfl (take_ofW HT_.out HW_.out (by kernel_rfl)) (fun _ _ _ h => h) (Or.inl ⟨by rfl, ?_⟩) hHeld ?_ ?_
                rotate_left
                · rintro w' ⟨s0, s1, s2, s3, s4, s5, s6, s7, s8, s9, s10, s11, s12, s13, s14, s15, s16, s17, s18, s19, s20, s21, s22, s23, s24, s25, s26, s27, s28, s29, s30, s31, s32⟩
                  go_simp
                  with_reducible rfl
                rotate_left
                · simp only [Act.put, List.setIfInBounds_toArray, List.set_cons_zero, List.set_cons_succ, i64_w, i32_w]
                  rfl
                refine take_ (i := 6) (N := some 37) (v := ?_) (a' := ?_) #[true, true, true, true, true, true, true, true, true, true, true, false, true, true, true, true, false, false, false] rfl rfl (take_ofW HT_.out HW_.out (by kernel_rfl)) (fun _ _ _ h => h) (Or.inl ⟨by rfl, ?_⟩) hHeld ?_ ?_
                rotate_left
                · rintro w' ⟨s0, s1, s2, s3, s4, s5, s6, s7, s8, s9, s10, s11, s12, s13, s14, s15, s16, s17, s18, s19, s20, s21, s22, s23, s24, s25, s26, s27, s28, s29, s30, s31, s32⟩
                  go_simp
                  with_reducible rfl
                rotate_left
                · simp only [Act.put, List.setIfInBounds_toArray, List.set_cons_zero, List.set_cons_succ, i64_w, i32_w]
                  rfl
                refine take_ (i := 11) (N := some 42) (v := ?_) (a' := ?_) #[true, true, true, true, true, true, true, true, true, true, true, true, true, true, true, true, false, false, false] rfl rfl (take_ofW HT_.out HW_.out (by kernel_rfl)) (fun _ _ _ h => h) (Or.inl ⟨by rfl, ?_⟩) hHeld ?_ ?_
                rotate_left
                · rintro w' ⟨s0, s1, s2, s3, s4, s5, s6, s7, s8, s9, s10, s11, s12, s13, s14, s15, s16, s17, s18, s19, s20, s21, s22, s23, s24, s25, s26, s27, s28, s29, s30, s31, s32⟩
                  go_simp
                  with_reducible rfl
                rotate_left
                · simp only [Act.put, List.setIfInBounds_toArray, List.set_cons_zero, List.set_cons_succ, i64_w, i32_w]
                  rfl
                refine take_ (i := 16) (N := some 47) (v := ?_) (a' := ?_) #[true, true, true, true, true, true, true, true, true, true, true, true, true, true, true, true, true, false, false] rfl rfl (take_ofW HT_.out HW_.out (by kernel_rfl)) (fun _ _ _ h => h) (Or.inl ⟨by rfl, ?_⟩) hHeld ?_ ?_
                rotate_left
                · rintro w' ⟨s0, s1, s2, s3, s4, s5, s6, s7, s8, s9, s10, s11, s12, s13, s14, s15, s16, s17, s18, s19, s20, s21, s22, s23, s24, s25, s26, s27, s28, s29, s30, s31, s32⟩
                  go_simp
                  with_reducible rfl
                rotate_left
                · simp only [Act.put, List.setIfInBounds_toArray, List.set_cons_zero, List.set_cons_succ, i64_w, i32_w]
                  rfl
                refine one_ (i := 17) (N := some 48) #[true, true, true, true, true, true, true, true, true, true, true, true, true, true, true, true, true, true, false] rfl rfl (one_of HT_.out (by kernel_rfl)) (by decide) (fun K hK => ?_)
                refine goes_ Try.func12 (by kernel_rfl) rfl #[.agg #[.int .i64 a0_0, .int .i64 a0_1, .int .i64 a0_2, .int .i64 a0_3, .int .i64 a0_4, .int .i64 a0_5, .int .i64 a0_6, .int .i64 a0_7, .int .i64 a0_8, .int .i64 a0_9], .agg #[.int .i64 x131000_2, .int .i64 x131001_2], .agg #[.bool ((rd_T36 l1 x11_2).f0.f0), .bool ((rd_T36 l1 x11_2).f0.f1)], .agg #[.bool ((rd_T36 l1 x11_2).f1.f0), .bool ((rd_T36 l1 x11_2).f1.f1), .bool ((rd_T36 l1 x11_2).f1.f2), .bool ((rd_T36 l1 x11_2).f1.f3)], .bool ((rd_T36 l1 x11_2).f2)] (by rfl) rfl rfl (by (try simp only [List.map_toArray, List.map_cons, List.map_nil]); first | done | rfl | (simp only [List.length_drop, List.length_take]; rfl)) ?_
                with_reducible refine (phase_Step.calls k2 a0_0 a0_1 a0_2 a0_3 a0_4 a0_5 a0_6 a0_7 a0_8 a0_9 x131000_2 x131001_2 ((rd_T36 l1 x11_2).f0.f0) ((rd_T36 l1 x11_2).f0.f1) ((rd_T36 l1 x11_2).f1.f0) ((rd_T36 l1 x11_2).f1.f1) ((rd_T36 l1 x11_2).f1.f2) ((rd_T36 l1 x11_2).f1.f3) ((rd_T36 l1 x11_2).f2) t134 t135 _ A19.out).mono ?_
                rintro e w23 ⟨rfl, hb⟩
                refine ⟨_, rfl, ?_⟩
                have n0_ := Aside0.mk (blk_below (g := gb125) (o := .cells #[.int .i64 a0_0, .int .i64 a0_1, .int .i64 a0_2, .int .i64 a0_3, .int .i64 a0_4, .int .i64 a0_5, .int .i64 a0_6, .int .i64 a0_7, .int .i64 a0_8, .int .i64 a0_9] 23 (0, 0)) (by (with_reducible repeat (first | refine blk_drewN ?_ _ | refine blk_drew ?_ | refine blk_alloc ?_ _)); exact BK125.out) hb)
                have n1_ := Aside0.mk (blk_below (g := gb130) (o := .cells #[.int .i64 x131000_2, .int .i64 x131001_2] 28 (0, 0)) (by (with_reducible repeat (first | refine blk_drewN ?_ _ | refine blk_drew ?_ | refine blk_alloc ?_ _)); exact BK130.out) hb)
                have n2_ := Aside0.mk (below_step (by repeat (first | (with_reducible first | exact HB.out | apply below_alloc | apply pw_below_drewN | apply below_drew1 | refine below_set ?_ GE125.out | refine below_set ?_ GE130.out) | exact HB.out)) hb)
                clear BK125
                clear BK130
                clear HB
                have BK125 := n0_
                have BK130 := n1_
                have HB := n2_
                clear n0_ n1_ n2_
                (try clear hb)
                (try clear hb2)
                (try clear hk)
                (try clear hi)
                refine hK.out _ _ ⟨(blk_cell BK125.out 0).trans rfl, (blk_cell BK125.out 1).trans rfl, (blk_cell BK125.out 2).trans rfl, (blk_cell BK125.out 3).trans rfl, (blk_cell BK125.out 4).trans rfl, (blk_cell BK125.out 5).trans rfl, (blk_cell BK125.out 6).trans rfl, (blk_cell BK125.out 7).trans rfl, (blk_cell BK125.out 8).trans rfl, (blk_cell BK125.out 9).trans rfl, (blk_cell BK130.out 0).trans rfl, (blk_cell BK130.out 1).trans rfl, ((HB.out.cell (World.block_lt_of_cell? w _ hw131_0)).trans hw131_0), ((HB.out.cell (World.block_lt_of_cell? w _ hw131_1)).trans hw131_1), ((HB.out.cell (World.block_lt_of_cell? w _ hw131_2)).trans hw131_2), ((HB.out.cell (World.block_lt_of_cell? w _ hw131_3)).trans hw131_3), ((HB.out.cell (World.block_lt_of_cell? w _ hw131_4)).trans hw131_4), ((HB.out.cell (World.block_lt_of_cell? w _ hw131_5)).trans hw131_5), ((HB.out.cell (World.block_lt_of_cell? w _ hw131_6)).trans hw131_6), ((HB.out.cell (World.block_lt_of_cell? w _ hw132_0)).trans hw132_0), ((HB.out.cell (World.block_lt_of_cell? w _ hw132_1)).trans hw132_1), ((HB.out.cell (World.block_lt_of_cell? w _ hw132_2)).trans hw132_2), ((HB.out.cell (World.block_lt_of_cell? w _ hw132_3)).trans hw132_3), ((HB.out.cell (World.block_lt_of_cell? w _ hw132_4)).trans hw132_4), ((HB.out.cell (World.block_lt_of_cell? w _ hw132_5)).trans hw132_5), ((HB.out.cell (World.block_lt_of_cell? w _ hw132_6)).trans hw132_6), ((HB.out.cell (World.block_lt_of_cell? w _ hw133_0)).trans hw133_0), ((HB.out.cell (World.block_lt_of_cell? w _ hw133_1)).trans hw133_1), ((HB.out.cell (World.block_lt_of_cell? w _ hw133_2)).trans hw133_2), ((HB.out.cell (World.block_lt_of_cell? w _ hw133_3)).trans hw133_3), ((HB.out.cell (World.block_lt_of_cell? w _ hw133_4)).trans hw133_4), ((HB.out.cell (World.block_lt_of_cell? w _ hw133_5)).trans hw133_5), ((HB.out.cell (World.block_lt_of_cell? w _ hw133_6)).trans hw133_6)⟩ (fun hHeld => ?_)
                clear hK K
                refine norm_ (a' := ?_) ?_ ?_
                rotate_left
                · show Act.put _ (some 48) _ = _
                  simp only [Act.put, List.setIfInBounds_toArray, List.set_cons_zero, List.set_cons_succ, i64_w, i32_w]
                  rfl
                refine last_ (i := 18) (N := none) #[true, true, true, true, true, true, true, true, true, true, true, true, true, true, true, true, true, true, true] rfl rfl (one_of HT_.out (by kernel_rfl)) (by decide) (fun K hK => ?_)
                have hs24 : w23.cell? ⟨gb130, 0, none⟩ = some (.int .i64 x131000_2) := (blk_cell BK130.out 0).trans rfl
                have hfs24 := blk_frozen BK130.out 0
                have hns24_0 := NB125_130.out
                have hms24_0 := NB130_125.out
                have hs25 : w23.cell? ⟨gb130, 1, none⟩ = some (.int .i64 x131001_2) := (blk_cell BK130.out 1).trans rfl
                have hfs25 := blk_frozen BK130.out 1
                have hns25_0 := NB125_130.out
                have hms25_0 := NB130_125.out
                refine skip_ (w1 := ?_) (by rfl) rfl ?_ ?_
                rotate_left
                · go_simp
                  rfl
                refine hK.out _ _ ?_
                clear hK K
                refine done_ (done_of HT_.out (by kernel_rfl)) ?_
                have hnb26 := NB130_125.out
                have hnc26 := NB125_130.out
                have hcz27_0 : w23.cell? ⟨gb130, 0, none⟩ = some (.int .i64 x131000_2) := (blk_cell BK130.out 0).trans rfl
                have hcz27_1 : w23.cell? ⟨gb130, 1, none⟩ = some (.int .i64 x131001_2) := (blk_cell BK130.out 1).trans rfl
                have hfz27_0 := blk_frozen BK130.out 0
                have hfz27_1 := blk_frozen BK130.out 1
                go_upto_region 14 with (first | ((with_reducible refine gate_callee (f := 13) rfl ?_); refine goesL_ (some 50) rfl rfl Try.func13 (by kernel_rfl) rfl #[.agg #[.int .i64 t134, .int .i64 t135]] rfl (by (try simp only [List.map_toArray, List.map_cons, List.map_nil]); first | done | rfl | (simp only [List.length_drop, List.length_take]; rfl)) ?_; (with_reducible refine (phase_Lights.calls t134 t135 t136 t137 t138 t139 t140 _ A20.out).mono ?_); rintro e w28 ⟨rfl, hb⟩; refine ⟨_, rfl, ?_⟩; have n0_ := Aside0.mk (blk_below (g := gb125) (o := .cells #[.int .i64 a0_0, .int .i64 a0_1, .int .i64 a0_2, .int .i64 a0_3, .int .i64 a0_4, .int .i64 a0_5, .int .i64 a0_6, .int .i64 a0_7, .int .i64 a0_8, .int .i64 a0_9] 23 (0, 0)) (by (with_reducible repeat (first | refine blk_drewN ?_ _ | refine blk_drew ?_ | refine blk_alloc ?_ _)); refine blk_far ?_ NB125_130.out _; (with_reducible repeat (first | refine blk_drewN ?_ _ | refine blk_drew ?_ | refine blk_alloc ?_ _)); refine blk_far ?_ NB125_130.out _; (with_reducible repeat (first | refine blk_drewN ?_ _ | refine blk_drew ?_ | refine blk_alloc ?_ _)); exact BK125.out) hb); have n1_ := Aside0.mk (blk_below (g := gb130) (o := .cells #[.int .i64 t134, .int .i64 t135] 28 (0, 0)) (by (with_reducible repeat (first | refine blk_drewN ?_ _ | refine blk_drew ?_ | refine blk_alloc ?_ _)); refine blk_put (cs := #[.int .i64 t134, .int .i64 x131001_2]) ?_ 1 _ rfl; (with_reducible repeat (first | refine blk_drewN ?_ _ | refine blk_drew ?_ | refine blk_alloc ?_ _)); refine blk_put (cs := #[.int .i64 x131000_2, .int .i64 x131001_2]) ?_ 0 _ rfl; (with_reducible repeat (first | refine blk_drewN ?_ _ | refine blk_drew ?_ | refine blk_alloc ?_ _)); exact BK130.out) hb); have n2_ := Aside0.mk (below_step (by repeat (first | (with_reducible first | exact HB.out | apply below_alloc | apply pw_below_drewN | apply below_drew1 | refine below_set ?_ GE125.out | refine below_set ?_ GE130.out) | exact HB.out)) hb); clear BK125; clear BK130; clear HB; have BK125 := n0_; have BK130 := n1_; have HB := n2_; clear n0_ n1_ n2_; (try clear hb); (try clear hb2); (try clear hk); (try clear hi)) | ((with_reducible refine gate_dst (N := 12) rfl ?_); (try (refine gate_guard (by rfl) ?_; dsimp only)); refine box_event ?hg (N := 12) ?hd (cs := #[.bool false, .bool false, .bool false, .bool false, .bool false]) (t := 38) ?hr ?_; (case hd => rfl); (case hg => rfl); (case hr => first | (go_simp; done) | (go_simp; rfl)); intro gb141 hg w29 hbox hb; have n0_ := Aside0.mk (blk_below (g := gb125) (o := .cells #[.int .i64 a0_0, .int .i64 a0_1, .int .i64 a0_2, .int .i64 a0_3, .int .i64 a0_4, .int .i64 a0_5, .int .i64 a0_6, .int .i64 a0_7, .int .i64 a0_8, .int .i64 a0_9] 23 (0, 0)) (by (with_reducible repeat (first | refine blk_drewN ?_ _ | refine blk_drew ?_ | refine blk_alloc ?_ _)); exact BK125.out) hb); have n1_ := Aside0.mk (blk_below (g := gb130) (o := .cells #[.int .i64 t134, .int .i64 t135] 28 (0, 0)) (by (with_reducible repeat (first | refine blk_drewN ?_ _ | refine blk_drew ?_ | refine blk_alloc ?_ _)); exact BK130.out) hb); have n2_ := Aside0.mk (below_step (by repeat (first | (with_reducible first | exact HB.out | apply below_alloc | apply pw_below_drewN | apply below_drew1 | refine below_set ?_ GE125.out | refine below_set ?_ GE130.out) | exact HB.out)) hb); have n3_ := Aside0.mk (hbox); have n4_ := Aside0.mk ((by rw [hg]; exact (below_size (by repeat (first | (with_reducible first | exact HB.out | apply below_alloc | apply pw_below_drewN | apply below_drew1 | refine below_set ?_ GE125.out | refine below_set ?_ GE130.out) | exact HB.out))) : w.heap.size ≤ gb141)); have n5_ := Aside0.mk ((by rw [hg]; exact (below_size (by repeat (first | (with_reducible first | exact HB.out | apply below_alloc | apply pw_below_drewN | apply below_drew1 | refine below_set ?_ GE125.out | refine below_set ?_ GE130.out) | exact HB.out))) : w.heap.size ≤ gb141)); have n6_ := Aside0.mk ((by rw [hg]; exact Nat.ne_of_lt (blk_lt (g := gb125) (o := .cells #[.int .i64 a0_0, .int .i64 a0_1, .int .i64 a0_2, .int .i64 a0_3, .int .i64 a0_4, .int .i64 a0_5, .int .i64 a0_6, .int .i64 a0_7, .int .i64 a0_8, .int .i64 a0_9] 23 (0, 0)) (by (with_reducible repeat (first | refine blk_drewN ?_ _ | refine blk_drew ?_ | refine blk_alloc ?_ _)); exact BK125.out)) : gb125 ≠ gb141)); have n7_ := Aside0.mk ((by rw [hg]; exact Nat.ne_of_gt (blk_lt (g := gb125) (o := .cells #[.int .i64 a0_0, .int .i64 a0_1, .int .i64 a0_2, .int .i64 a0_3, .int .i64 a0_4, .int .i64 a0_5, .int .i64 a0_6, .int .i64 a0_7, .int .i64 a0_8, .int .i64 a0_9] 23 (0, 0)) (by (with_reducible repeat (first | refine blk_drewN ?_ _ | refine blk_drew ?_ | refine blk_alloc ?_ _)); exact BK125.out)) : gb141 ≠ gb125)); have n8_ := Aside0.mk ((by rw [hg]; exact Nat.ne_of_lt (blk_lt (g := gb130) (o := .cells #[.int .i64 t134, .int .i64 t135] 28 (0, 0)) (by (with_reducible repeat (first | refine blk_drewN ?_ _ | refine blk_drew ?_ | refine blk_alloc ?_ _)); exact BK130.out)) : gb130 ≠ gb141)); have n9_ := Aside0.mk ((by rw [hg]; exact Nat.ne_of_gt (blk_lt (g := gb130) (o := .cells #[.int .i64 t134, .int .i64 t135] 28 (0, 0)) (by (with_reducible repeat (first | refine blk_drewN ?_ _ | refine blk_drew ?_ | refine blk_alloc ?_ _)); exact BK130.out)) : gb141 ≠ gb130)); clear BK125; clear BK130; clear HB; have BK125 := n0_; have BK130 := n1_; have HB := n2_; have BK141 := n3_; have GW141 := n4_; have GE141 := n5_; have NB125_141 := n6_; have NB141_125 := n7_; have NB130_141 := n8_; have NB141_130 := n9_; clear n0_ n1_ n2_ n3_ n4_ n5_ n6_ n7_ n8_ n9_; clear hb hbox hg; have hnb30 := NB141_125.out; have hnc30 := NB125_141.out; have hnb31 := NB141_130.out; have hnc31 := NB130_141.out; have hcz32_0 : w29.cell? ⟨gb141, 0, none⟩ = some (.bool false) := (blk_cell BK141.out 0).trans rfl; have hcz32_1 : w29.cell? ⟨gb141, 1, none⟩ = some (.bool false) := (blk_cell BK141.out 1).trans rfl; have hcz32_2 : w29.cell? ⟨gb141, 2, none⟩ = some (.bool false) := (blk_cell BK141.out 2).trans rfl; have hcz32_3 : w29.cell? ⟨gb141, 3, none⟩ = some (.bool false) := (blk_cell BK141.out 3).trans rfl; have hcz32_4 : w29.cell? ⟨gb141, 4, none⟩ = some (.bool false) := (blk_cell BK141.out 4).trans rfl; have hfz32_0 := blk_frozen BK141.out 0; have hfz32_1 := blk_frozen BK141.out 1; have hfz32_2 := blk_frozen BK141.out 2; have hfz32_3 := blk_frozen BK141.out 3; have hfz32_4 := blk_frozen BK141.out 4))
                (try simp only [Act.put, List.setIfInBounds_toArray, List.set_cons_zero, List.set_cons_succ])
                go_cut [77] (fun v77 wc => ∃ (kq : Nat) (x77_20 : Bool), v77 = .bool x77_20 ∧ Aside0 (crossbucklaw20_PhaseWarns.j2 kq l1 t126 x8_2 x9_2 x11_2 x77_20 a0_0 a0_1 a0_2 a0_3 a0_4 a0_5 a0_6 a0_7 a0_8 a0_9 t134 t135 t136 t137 t138 t139 t140 = some r) ∧ Aside0 (kq ≤ k2) ∧ Aside0 (wc.heap[gb125]? = some (.cells #[.int .i64 a0_0, .int .i64 a0_1, .int .i64 a0_2, .int .i64 a0_3, .int .i64 a0_4, .int .i64 a0_5, .int .i64 a0_6, .int .i64 a0_7, .int .i64 a0_8, .int .i64 a0_9] 23 (0, 0))) ∧ Aside0 (wc.heap[gb130]? = some (.cells #[.int .i64 t134, .int .i64 t135] 28 (0, 0))) ∧ Aside0 (wc.heap[gb141]? = some (.cells #[.bool t136, .bool t137, .bool t138, .bool t139, .bool t140] 38 (0, 0))) ∧ Aside0 (Below w.heap.size w wc))
                case first =>
                  have H := HC21.out
                  clear HC21
                  by_cases c33 : t139 = true
                  · subst c33
                    have H1 : (if x10_2 = true then (if t140 = true then (crossbucklaw20_PhaseWarns.j2 k2 l1 t126 x8_2 x9_2 x11_2 (!true) a0_0 a0_1 a0_2 a0_3 a0_4 a0_5 a0_6 a0_7 a0_8 a0_9 t134 t135 t136 t137 t138 true t140) else (crossbucklaw20_PhaseWarns.j2 k2 l1 t126 x8_2 x9_2 x11_2 false a0_0 a0_1 a0_2 a0_3 a0_4 a0_5 a0_6 a0_7 a0_8 a0_9 t134 t135 t136 t137 t138 true t140)) else (if x8_2 < a0_0 then (crossbucklaw20_PhaseWarns.j2 k2 l1 t126 x8_2 x9_2 x11_2 true a0_0 a0_1 a0_2 a0_3 a0_4 a0_5 a0_6 a0_7 a0_8 a0_9 t134 t135 t136 t137 t138 true t140) else (if x9_2 < a0_1 then (crossbucklaw20_PhaseWarns.j2 k2 l1 t126 x8_2 x9_2 x11_2 true a0_0 a0_1 a0_2 a0_3 a0_4 a0_5 a0_6 a0_7 a0_8 a0_9 t134 t135 t136 t137 t138 true t140) else (if t140 = true then (crossbucklaw20_PhaseWarns.j2 k2 l1 t126 x8_2 x9_2 x11_2 (!true) a0_0 a0_1 a0_2 a0_3 a0_4 a0_5 a0_6 a0_7 a0_8 a0_9 t134 t135 t136 t137 t138 true t140) else (crossbucklaw20_PhaseWarns.j2 k2 l1 t126 x8_2 x9_2 x11_2 false a0_0 a0_1 a0_2 a0_3 a0_4 a0_5 a0_6 a0_7 a0_8 a0_9 t134 t135 t136 t137 t138 true t140))))) = some r := by rw [if_pos rfl] at H; exact H
                    clear H
                    have H := H1
                    clear H1
                    by_cases c34 : x10_2 = true
                    · subst c34
                      have H1 : (if t140 = true then (crossbucklaw20_PhaseWarns.j2 k2 l1 t126 x8_2 x9_2 x11_2 (!true) a0_0 a0_1 a0_2 a0_3 a0_4 a0_5 a0_6 a0_7 a0_8 a0_9 t134 t135 t136 t137 t138 true t140) else (crossbucklaw20_PhaseWarns.j2 k2 l1 t126 x8_2 x9_2 x11_2 false a0_0 a0_1 a0_2 a0_3 a0_4 a0_5 a0_6 a0_7 a0_8 a0_9 t134 t135 t136 t137 t138 true t140)) = some r := by rw [if_pos rfl] at H; exact H
                      clear H
                      have H := H1
                      clear H1
                      by_cases c35 : t140 = true
                      · subst c35
                        have H1 : (crossbucklaw20_PhaseWarns.j2 k2 l1 t126 x8_2 x9_2 x11_2 (!true) a0_0 a0_1 a0_2 a0_3 a0_4 a0_5 a0_6 a0_7 a0_8 a0_9 t134 t135 t136 t137 t138 true true) = some r := by rw [if_pos rfl] at H; exact H
                        clear H
                        have H := H1
                        clear H1
                        have H' := Aside0.mk H
                        clear H
                        have hnb36 := NB141_125.out
                        have hnc36 := NB125_141.out
                        have hnb37 := NB141_130.out
                        have hnc37 := NB130_141.out
                        have hcz38_0 : w29.cell? ⟨gb141, 0, none⟩ = some (.bool false) := (blk_cell BK141.out 0).trans rfl
                        have hcz38_1 : w29.cell? ⟨gb141, 1, none⟩ = some (.bool false) := (blk_cell BK141.out 1).trans rfl
                        have hcz38_2 : w29.cell? ⟨gb141, 2, none⟩ = some (.bool false) := (blk_cell BK141.out 2).trans rfl
                        have hcz38_3 : w29.cell? ⟨gb141, 3, none⟩ = some (.bool false) := (blk_cell BK141.out 3).trans rfl
                        have hcz38_4 : w29.cell? ⟨gb141, 4, none⟩ = some (.bool false) := (blk_cell BK141.out 4).trans rfl
                        have hfz38_0 := blk_frozen BK141.out 0
                        have hfz38_1 := blk_frozen BK141.out 1
                        have hfz38_2 := blk_frozen BK141.out 2
                        have hfz38_3 := blk_frozen BK141.out 3
                        have hfz38_4 := blk_frozen BK141.out 4
                        go_wp2
                        go_meet
                        case rel => exact ⟨_, (!true), (by first | rfl | (simp; done) | (simp [*]; done)), H', ⟨by have := HJ4.out; have := HK2.out; first | omega | exact Nat.le_refl _⟩, ⟨by (with_reducible repeat (first | refine blk_drewN ?_ _ | refine blk_drew ?_ | refine blk_alloc ?_ _)); refine blk_far ?_ NB125_141.out _; (with_reducible repeat (first | refine blk_drewN ?_ _ | refine blk_drew ?_ | refine blk_alloc ?_ _)); refine blk_far ?_ NB125_141.out _; (with_reducible repeat (first | refine blk_drewN ?_ _ | refine blk_drew ?_ | refine blk_alloc ?_ _)); refine blk_far ?_ NB125_141.out _; (with_reducible repeat (first | refine blk_drewN ?_ _ | refine blk_drew ?_ | refine blk_alloc ?_ _)); refine blk_far ?_ NB125_141.out _; (with_reducible repeat (first | refine blk_drewN ?_ _ | refine blk_drew ?_ | refine blk_alloc ?_ _)); refine blk_far ?_ NB125_141.out _; (with_reducible repeat (first | refine blk_drewN ?_ _ | refine blk_drew ?_ | refine blk_alloc ?_ _)); exact BK125.out⟩, ⟨by (with_reducible repeat (first | refine blk_drewN ?_ _ | refine blk_drew ?_ | refine blk_alloc ?_ _)); refine blk_far ?_ NB130_141.out _; (with_reducible repeat (first | refine blk_drewN ?_ _ | refine blk_drew ?_ | refine blk_alloc ?_ _)); refine blk_far ?_ NB130_141.out _; (with_reducible repeat (first | refine blk_drewN ?_ _ | refine blk_drew ?_ | refine blk_alloc ?_ _)); refine blk_far ?_ NB130_141.out _; (with_reducible repeat (first | refine blk_drewN ?_ _ | refine blk_drew ?_ | refine blk_alloc ?_ _)); refine blk_far ?_ NB130_141.out _; (with_reducible repeat (first | refine blk_drewN ?_ _ | refine blk_drew ?_ | refine blk_alloc ?_ _)); refine blk_far ?_ NB130_141.out _; (with_reducible repeat (first | refine blk_drewN ?_ _ | refine blk_drew ?_ | refine blk_alloc ?_ _)); exact BK130.out⟩, ⟨by (with_reducible repeat (first | refine blk_drewN ?_ _ | refine blk_drew ?_ | refine blk_alloc ?_ _)); refine blk_put (cs := #[.bool t136, .bool t137, .bool t138, .bool true, .bool false]) ?_ 4 _ rfl; (with_reducible repeat (first | refine blk_drewN ?_ _ | refine blk_drew ?_ | refine blk_alloc ?_ _)); refine blk_put (cs := #[.bool t136, .bool t137, .bool t138, .bool false, .bool false]) ?_ 3 _ rfl; (with_reducible repeat (first | refine blk_drewN ?_ _ | refine blk_drew ?_ | refine blk_alloc ?_ _)); refine blk_put (cs := #[.bool t136, .bool t137, .bool false, .bool false, .bool false]) ?_ 2 _ rfl; (with_reducible repeat (first | refine blk_drewN ?_ _ | refine blk_drew ?_ | refine blk_alloc ?_ _)); refine blk_put (cs := #[.bool t136, .bool false, .bool false, .bool false, .bool false]) ?_ 1 _ rfl; (with_reducible repeat (first | refine blk_drewN ?_ _ | refine blk_drew ?_ | refine blk_alloc ?_ _)); refine blk_put (cs := #[.bool false, .bool false, .bool false, .bool false, .bool false]) ?_ 0 _ rfl; (with_reducible repeat (first | refine blk_drewN ?_ _ | refine blk_drew ?_ | refine blk_alloc ?_ _)); exact BK141.out⟩, ⟨by repeat (first | (with_reducible first | exact HB.out | apply below_alloc | apply pw_below_drewN | apply below_drew1 | refine below_set ?_ GE125.out | refine below_set ?_ GE130.out | refine below_set ?_ GE141.out) | exact HB.out)⟩⟩
                      · replace c35 := Bool.eq_false_iff.mpr c35
                        subst c35
                        have H1 : (crossbucklaw20_PhaseWarns.j2 k2 l1 t126 x8_2 x9_2 x11_2 false a0_0 a0_1 a0_2 a0_3 a0_4 a0_5 a0_6 a0_7 a0_8 a0_9 t134 t135 t136 t137 t138 true false) = some r := by rw [if_neg (show ¬ (false = true) by decide)] at H; exact H
                        clear H
                        have H := H1
                        clear H1
                        have H' := Aside0.mk H
                        clear H
                        have hnb39 := NB141_125.out
                        have hnc39 := NB125_141.out
                        have hnb40 := NB141_130.out
                        have hnc40 := NB130_141.out
                        have hcz41_0 : w29.cell? ⟨gb141, 0, none⟩ = some (.bool false) := (blk_cell BK141.out 0).trans rfl
                        have hcz41_1 : w29.cell? ⟨gb141, 1, none⟩ = some (.bool false) := (blk_cell BK141.out 1).trans rfl
                        have hcz41_2 : w29.cell? ⟨gb141, 2, none⟩ = some (.bool false) := (blk_cell BK141.out 2).trans rfl
                        have hcz41_3 : w29.cell? ⟨gb141, 3, none⟩ = some (.bool false) := (blk_cell BK141.out 3).trans rfl
                        have hcz41_4 : w29.cell? ⟨gb141, 4, none⟩ = some (.bool false) := (blk_cell BK141.out 4).trans rfl
                        have hfz41_0 := blk_frozen BK141.out 0
                        have hfz41_1 := blk_frozen BK141.out 1
                        have hfz41_2 := blk_frozen BK141.out 2
                        have hfz41_3 := blk_frozen BK141.out 3
                        have hfz41_4 := blk_frozen BK141.out 4
                        go_wp2
                        go_meet
                        case rel => exact ⟨_, (false), (by first | rfl | (simp; done) | (simp [*]; done)), H', ⟨by have := HJ4.out; have := HK2.out; first | omega | exact Nat.le_refl _⟩, ⟨by (with_reducible repeat (first | refine blk_drewN ?_ _ | refine blk_drew ?_ | refine blk_alloc ?_ _)); refine blk_far ?_ NB125_141.out _; (with_reducible repeat (first | refine blk_drewN ?_ _ | refine blk_drew ?_ | refine blk_alloc ?_ _)); refine blk_far ?_ NB125_141.out _; (with_reducible repeat (first | refine blk_drewN ?_ _ | refine blk_drew ?_ | refine blk_alloc ?_ _)); refine blk_far ?_ NB125_141.out _; (with_reducible repeat (first | refine blk_drewN ?_ _ | refine blk_drew ?_ | refine blk_alloc ?_ _)); refine blk_far ?_ NB125_141.out _; (with_reducible repeat (first | refine blk_drewN ?_ _ | refine blk_drew ?_ | refine blk_alloc ?_ _)); refine blk_far ?_ NB125_141.out _; (with_reducible repeat (first | refine blk_drewN ?_ _ | refine blk_drew ?_ | refine blk_alloc ?_ _)); exact BK125.out⟩, ⟨by (with_reducible repeat (first | refine blk_drewN ?_ _ | refine blk_drew ?_ | refine blk_alloc ?_ _)); refine blk_far ?_ NB130_141.out _; (with_reducible repeat (first | refine blk_drewN ?_ _ | refine blk_drew ?_ | refine blk_alloc ?_ _)); refine blk_far ?_ NB130_141.out _; (with_reducible repeat (first | refine blk_drewN ?_ _ | refine blk_drew ?_ | refine blk_alloc ?_ _)); refine blk_far ?_ NB130_141.out _; (with_reducible repeat (first | refine blk_drewN ?_ _ | refine blk_drew ?_ | refine blk_alloc ?_ _)); refine blk_far ?_ NB130_141.out _; (with_reducible repeat (first | refine blk_drewN ?_ _ | refine blk_drew ?_ | refine blk_alloc ?_ _)); refine blk_far ?_ NB130_141.out _; (with_reducible repeat (first | refine blk_drewN ?_ _ | refine blk_drew ?_ | refine blk_alloc ?_ _)); exact BK130.out⟩, ⟨by (with_reducible repeat (first | refine blk_drewN ?_ _ | refine blk_drew ?_ | refine blk_alloc ?_ _)); refine blk_put (cs := #[.bool t136, .bool t137, .bool t138, .bool true, .bool false]) ?_ 4 _ rfl; (with_reducible repeat (first | refine blk_drewN ?_ _ | refine blk_drew ?_ | refine blk_alloc ?_ _)); refine blk_put (cs := #[.bool t136, .bool t137, .bool t138, .bool false, .bool false]) ?_ 3 _ rfl; (with_reducible repeat (first | refine blk_drewN ?_ _ | refine blk_drew ?_ | refine blk_alloc ?_ _)); refine blk_put (cs := #[.bool t136, .bool t137, .bool false, .bool false, .bool false]) ?_ 2 _ rfl; (with_reducible repeat (first | refine blk_drewN ?_ _ | refine blk_drew ?_ | refine blk_alloc ?_ _)); refine blk_put (cs := #[.bool t136, .bool false, .bool false, .bool false, .bool false]) ?_ 1 _ rfl; (with_reducible repeat (first | refine blk_drewN ?_ _ | refine blk_drew ?_ | refine blk_alloc ?_ _)); refine blk_put (cs := #[.bool false, .bool false, .bool false, .bool false, .bool false]) ?_ 0 _ rfl; (with_reducible repeat (first | refine blk_drewN ?_ _ | refine blk_drew ?_ | refine blk_alloc ?_ _)); exact BK141.out⟩, ⟨by repeat (first | (with_reducible first | exact HB.out | apply below_alloc | apply pw_below_drewN | apply below_drew1 | refine below_set ?_ GE125.out | refine below_set ?_ GE130.out | refine below_set ?_ GE141.out) | exact HB.out)⟩⟩
                    · replace c34 := Bool.eq_false_iff.mpr c34
                      subst c34
                      have H1 : (if x8_2 < a0_0 then (crossbucklaw20_PhaseWarns.j2 k2 l1 t126 x8_2 x9_2 x11_2 true a0_0 a0_1 a0_2 a0_3 a0_4 a0_5 a0_6 a0_7 a0_8 a0_9 t134 t135 t136 t137 t138 true t140) else (if x9_2 < a0_1 then (crossbucklaw20_PhaseWarns.j2 k2 l1 t126 x8_2 x9_2 x11_2 true a0_0 a0_1 a0_2 a0_3 a0_4 a0_5 a0_6 a0_7 a0_8 a0_9 t134 t135 t136 t137 t138 true t140) else (if t140 = true then (crossbucklaw20_PhaseWarns.j2 k2 l1 t126 x8_2 x9_2 x11_2 (!true) a0_0 a0_1 a0_2 a0_3 a0_4 a0_5 a0_6 a0_7 a0_8 a0_9 t134 t135 t136 t137 t138 true t140) else (crossbucklaw20_PhaseWarns.j2 k2 l1 t126 x8_2 x9_2 x11_2 false a0_0 a0_1 a0_2 a0_3 a0_4 a0_5 a0_6 a0_7 a0_8 a0_9 t134 t135 t136 t137 t138 true t140)))) = some r := by rw [if_neg (show ¬ (false = true) by decide)] at H; exact H
                      clear H
                      have H := H1
                      clear H1
                      by_cases c42 : x8_2 < a0_0
                      · rw [if_pos c42] at H
                        have c42b0 : decide (x8_2 < a0_0) = true := decide_eq_true c42
                        clear c42
                        (first | rw [c42b0] | (simp only [i64_w, i32_w]; rw [c42b0]) | skip)
                        have H' := Aside0.mk H
                        clear H
                        have hnb43 := NB141_125.out
                        have hnc43 := NB125_141.out
                        have hnb44 := NB141_130.out
                        have hnc44 := NB130_141.out
                        have hcz45_0 : w29.cell? ⟨gb141, 0, none⟩ = some (.bool false) := (blk_cell BK141.out 0).trans rfl
                        have hcz45_1 : w29.cell? ⟨gb141, 1, none⟩ = some (.bool false) := (blk_cell BK141.out 1).trans rfl
                        have hcz45_2 : w29.cell? ⟨gb141, 2, none⟩ = some (.bool false) := (blk_cell BK141.out 2).trans rfl
                        have hcz45_3 : w29.cell? ⟨gb141, 3, none⟩ = some (.bool false) := (blk_cell BK141.out 3).trans rfl
                        have hcz45_4 : w29.cell? ⟨gb141, 4, none⟩ = some (.bool false) := (blk_cell BK141.out 4).trans rfl
                        have hfz45_0 := blk_frozen BK141.out 0
                        have hfz45_1 := blk_frozen BK141.out 1
                        have hfz45_2 := blk_frozen BK141.out 2
                        have hfz45_3 := blk_frozen BK141.out 3
                        have hfz45_4 := blk_frozen BK141.out 4
                        have hnb46 := NB125_130.out
                        have hnc46 := NB130_125.out
                        have hcz47_0 : w29.cell? ⟨gb125, 0, none⟩ = some (.int .i64 a0_0) := (blk_cell BK125.out 0).trans rfl
                        have hcz47_1 : w29.cell? ⟨gb125, 1, none⟩ = some (.int .i64 a0_1) := (blk_cell BK125.out 1).trans rfl
                        have hcz47_2 : w29.cell? ⟨gb125, 2, none⟩ = some (.int .i64 a0_2) := (blk_cell BK125.out 2).trans rfl
                        have hcz47_3 : w29.cell? ⟨gb125, 3, none⟩ = some (.int .i64 a0_3) := (blk_cell BK125.out 3).trans rfl
                        have hcz47_4 : w29.cell? ⟨gb125, 4, none⟩ = some (.int .i64 a0_4) := (blk_cell BK125.out 4).trans rfl
                        have hcz47_5 : w29.cell? ⟨gb125, 5, none⟩ = some (.int .i64 a0_5) := (blk_cell BK125.out 5).trans rfl
                        have hcz47_6 : w29.cell? ⟨gb125, 6, none⟩ = some (.int .i64 a0_6) := (blk_cell BK125.out 6).trans rfl
                        have hcz47_7 : w29.cell? ⟨gb125, 7, none⟩ = some (.int .i64 a0_7) := (blk_cell BK125.out 7).trans rfl
                        have hcz47_8 : w29.cell? ⟨gb125, 8, none⟩ = some (.int .i64 a0_8) := (blk_cell BK125.out 8).trans rfl
                        have hcz47_9 : w29.cell? ⟨gb125, 9, none⟩ = some (.int .i64 a0_9) := (blk_cell BK125.out 9).trans rfl
                        have hfz47_0 := blk_frozen BK125.out 0
                        have hfz47_1 := blk_frozen BK125.out 1
                        have hfz47_2 := blk_frozen BK125.out 2
                        have hfz47_3 := blk_frozen BK125.out 3
                        have hfz47_4 := blk_frozen BK125.out 4
                        have hfz47_5 := blk_frozen BK125.out 5
                        have hfz47_6 := blk_frozen BK125.out 6
                        have hfz47_7 := blk_frozen BK125.out 7
                        have hfz47_8 := blk_frozen BK125.out 8
                        have hfz47_9 := blk_frozen BK125.out 9
                        go_wp2
                        go_meet
                        case rel => exact ⟨_, (true), (by first | rfl | (simp; done) | (simp [*]; done)), H', ⟨by have := HJ4.out; have := HK2.out; first | omega | exact Nat.le_refl _⟩, ⟨by (with_reducible repeat (first | refine blk_drewN ?_ _ | refine blk_drew ?_ | refine blk_alloc ?_ _)); refine blk_far ?_ NB125_141.out _; (with_reducible repeat (first | refine blk_drewN ?_ _ | refine blk_drew ?_ | refine blk_alloc ?_ _)); refine blk_far ?_ NB125_141.out _; (with_reducible repeat (first | refine blk_drewN ?_ _ | refine blk_drew ?_ | refine blk_alloc ?_ _)); refine blk_far ?_ NB125_141.out _; (with_reducible repeat (first | refine blk_drewN ?_ _ | refine blk_drew ?_ | refine blk_alloc ?_ _)); refine blk_far ?_ NB125_141.out _; (with_reducible repeat (first | refine blk_drewN ?_ _ | refine blk_drew ?_ | refine blk_alloc ?_ _)); refine blk_far ?_ NB125_141.out _; (with_reducible repeat (first | refine blk_drewN ?_ _ | refine blk_drew ?_ | refine blk_alloc ?_ _)); exact BK125.out⟩, ⟨by (with_reducible repeat (first | refine blk_drewN ?_ _ | refine blk_drew ?_ | refine blk_alloc ?_ _)); refine blk_far ?_ NB130_141.out _; (with_reducible repeat (first | refine blk_drewN ?_ _ | refine blk_drew ?_ | refine blk_alloc ?_ _)); refine blk_far ?_ NB130_141.out _; (with_reducible repeat (first | refine blk_drewN ?_ _ | refine blk_drew ?_ | refine blk_alloc ?_ _)); refine blk_far ?_ NB130_141.out _; (with_reducible repeat (first | refine blk_drewN ?_ _ | refine blk_drew ?_ | refine blk_alloc ?_ _)); refine blk_far ?_ NB130_141.out _; (with_reducible repeat (first | refine blk_drewN ?_ _ | refine blk_drew ?_ | refine blk_alloc ?_ _)); refine blk_far ?_ NB130_141.out _; (with_reducible repeat (first | refine blk_drewN ?_ _ | refine blk_drew ?_ | refine blk_alloc ?_ _)); exact BK130.out⟩, ⟨by (with_reducible repeat (first | refine blk_drewN ?_ _ | refine blk_drew ?_ | refine blk_alloc ?_ _)); refine blk_put (cs := #[.bool t136, .bool t137, .bool t138, .bool true, .bool false]) ?_ 4 _ rfl; (with_reducible repeat (first | refine blk_drewN ?_ _ | refine blk_drew ?_ | refine blk_alloc ?_ _)); refine blk_put (cs := #[.bool t136, .bool t137, .bool t138, .bool false, .bool false]) ?_ 3 _ rfl; (with_reducible repeat (first | refine blk_drewN ?_ _ | refine blk_drew ?_ | refine blk_alloc ?_ _)); refine blk_put (cs := #[.bool t136, .bool t137, .bool false, .bool false, .bool false]) ?_ 2 _ rfl; (with_reducible repeat (first | refine blk_drewN ?_ _ | refine blk_drew ?_ | refine blk_alloc ?_ _)); refine blk_put (cs := #[.bool t136, .bool false, .bool false, .bool false, .bool false]) ?_ 1 _ rfl; (with_reducible repeat (first | refine blk_drewN ?_ _ | refine blk_drew ?_ | refine blk_alloc ?_ _)); refine blk_put (cs := #[.bool false, .bool false, .bool false, .bool false, .bool false]) ?_ 0 _ rfl; (with_reducible repeat (first | refine blk_drewN ?_ _ | refine blk_drew ?_ | refine blk_alloc ?_ _)); exact BK141.out⟩, ⟨by repeat (first | (with_reducible first | exact HB.out | apply below_alloc | apply pw_below_drewN | apply below_drew1 | refine below_set ?_ GE125.out | refine below_set ?_ GE130.out | refine below_set ?_ GE141.out) | exact HB.out)⟩⟩
                      · rw [if_neg c42] at H
                        have c42b0 : decide (x8_2 < a0_0) = false := decide_eq_false c42
                        clear c42
                        (first | rw [c42b0] | (simp only [i64_w, i32_w]; rw [c42b0]) | skip)
                        by_cases c48 : x9_2 < a0_1
                        · rw [if_pos c48] at H
                          have c48b0 : decide (x9_2 < a0_1) = true := decide_eq_true c48
                          clear c48
                          have H' := Aside0.mk H
                          clear H
                          have hnb49 := NB141_125.out
                          have hnc49 := NB125_141.out
                          have hnb50 := NB141_130.out
                          have hnc50 := NB130_141.out
                          have hcz51_0 : w29.cell? ⟨gb141, 0, none⟩ = some (.bool false) := (blk_cell BK141.out 0).trans rfl
                          have hcz51_1 : w29.cell? ⟨gb141, 1, none⟩ = some (.bool false) := (blk_cell BK141.out 1).trans rfl
                          have hcz51_2 : w29.cell? ⟨gb141, 2, none⟩ = some (.bool false) := (blk_cell BK141.out 2).trans rfl
                          have hcz51_3 : w29.cell? ⟨gb141, 3, none⟩ = some (.bool false) := (blk_cell BK141.out 3).trans rfl
                          have hcz51_4 : w29.cell? ⟨gb141, 4, none⟩ = some (.bool false) := (blk_cell BK141.out 4).trans rfl
                          have hfz51_0 := blk_frozen BK141.out 0
                          have hfz51_1 := blk_frozen BK141.out 1
                          have hfz51_2 := blk_frozen BK141.out 2
                          have hfz51_3 := blk_frozen BK141.out 3
                          have hfz51_4 := blk_frozen BK141.out 4
                          have hnb52 := NB125_130.out
                          have hnc52 := NB130_125.out
                          have hcz53_0 : w29.cell? ⟨gb125, 0, none⟩ = some (.int .i64 a0_0) := (blk_cell BK125.out 0).trans rfl
                          have hcz53_1 : w29.cell? ⟨gb125, 1, none⟩ = some (.int .i64 a0_1) := (blk_cell BK125.out 1).trans rfl
                          have hcz53_2 : w29.cell? ⟨gb125, 2, none⟩ = some (.int .i64 a0_2) := (blk_cell BK125.out 2).trans rfl
                          have hcz53_3 : w29.cell? ⟨gb125, 3, none⟩ = some (.int .i64 a0_3) := (blk_cell BK125.out 3).trans rfl
                          have hcz53_4 : w29.cell? ⟨gb125, 4, none⟩ = some (.int .i64 a0_4) := (blk_cell BK125.out 4).trans rfl
                          have hcz53_5 : w29.cell? ⟨gb125, 5, none⟩ = some (.int .i64 a0_5) := (blk_cell BK125.out 5).trans rfl
                          have hcz53_6 : w29.cell? ⟨gb125, 6, none⟩ = some (.int .i64 a0_6) := (blk_cell BK125.out 6).trans rfl
                          have hcz53_7 : w29.cell? ⟨gb125, 7, none⟩ = some (.int .i64 a0_7) := (blk_cell BK125.out 7).trans rfl
                          have hcz53_8 : w29.cell? ⟨gb125, 8, none⟩ = some (.int .i64 a0_8) := (blk_cell BK125.out 8).trans rfl
                          have hcz53_9 : w29.cell? ⟨gb125, 9, none⟩ = some (.int .i64 a0_9) := (blk_cell BK125.out 9).trans rfl
                          have hfz53_0 := blk_frozen BK125.out 0
                          have hfz53_1 := blk_frozen BK125.out 1
                          have hfz53_2 := blk_frozen BK125.out 2
                          have hfz53_3 := blk_frozen BK125.out 3
                          have hfz53_4 := blk_frozen BK125.out 4
                          have hfz53_5 := blk_frozen BK125.out 5
                          have hfz53_6 := blk_frozen BK125.out 6
                          have hfz53_7 := blk_frozen BK125.out 7
                          have hfz53_8 := blk_frozen BK125.out 8
                          have hfz53_9 := blk_frozen BK125.out 9
                          go_wp2
                          go_meet
                          case rel => exact ⟨_, (true), (by first | rfl | (simp; done) | (simp [*]; done)), H', ⟨by have := HJ4.out; have := HK2.out; first | omega | exact Nat.le_refl _⟩, ⟨by (with_reducible repeat (first | refine blk_drewN ?_ _ | refine blk_drew ?_ | refine blk_alloc ?_ _)); refine blk_far ?_ NB125_141.out _; (with_reducible repeat (first | refine blk_drewN ?_ _ | refine blk_drew ?_ | refine blk_alloc ?_ _)); refine blk_far ?_ NB125_141.out _; (with_reducible repeat (first | refine blk_drewN ?_ _ | refine blk_drew ?_ | refine blk_alloc ?_ _)); refine blk_far ?_ NB125_141.out _; (with_reducible repeat (first | refine blk_drewN ?_ _ | refine blk_drew ?_ | refine blk_alloc ?_ _)); refine blk_far ?_ NB125_141.out _; (with_reducible repeat (first | refine blk_drewN ?_ _ | refine blk_drew ?_ | refine blk_alloc ?_ _)); refine blk_far ?_ NB125_141.out _; (with_reducible repeat (first | refine blk_drewN ?_ _ | refine blk_drew ?_ | refine blk_alloc ?_ _)); exact BK125.out⟩, ⟨by (with_reducible repeat (first | refine blk_drewN ?_ _ | refine blk_drew ?_ | refine blk_alloc ?_ _)); refine blk_far ?_ NB130_141.out _; (with_reducible repeat (first | refine blk_drewN ?_ _ | refine blk_drew ?_ | refine blk_alloc ?_ _)); refine blk_far ?_ NB130_141.out _; (with_reducible repeat (first | refine blk_drewN ?_ _ | refine blk_drew ?_ | refine blk_alloc ?_ _)); refine blk_far ?_ NB130_141.out _; (with_reducible repeat (first | refine blk_drewN ?_ _ | refine blk_drew ?_ | refine blk_alloc ?_ _)); refine blk_far ?_ NB130_141.out _; (with_reducible repeat (first | refine blk_drewN ?_ _ | refine blk_drew ?_ | refine blk_alloc ?_ _)); refine blk_far ?_ NB130_141.out _; (with_reducible repeat (first | refine blk_drewN ?_ _ | refine blk_drew ?_ | refine blk_alloc ?_ _)); exact BK130.out⟩, ⟨by (with_reducible repeat (first | refine blk_drewN ?_ _ | refine blk_drew ?_ | refine blk_alloc ?_ _)); refine blk_put (cs := #[.bool t136, .bool t137, .bool t138, .bool true, .bool false]) ?_ 4 _ rfl; (with_reducible repeat (first | refine blk_drewN ?_ _ | refine blk_drew ?_ | refine blk_alloc ?_ _)); refine blk_put (cs := #[.bool t136, .bool t137, .bool t138, .bool false, .bool false]) ?_ 3 _ rfl; (with_reducible repeat (first | refine blk_drewN ?_ _ | refine blk_drew ?_ | refine blk_alloc ?_ _)); refine blk_put (cs := #[.bool t136, .bool t137, .bool false, .bool false, .bool false]) ?_ 2 _ rfl; (with_reducible repeat (first | refine blk_drewN ?_ _ | refine blk_drew ?_ | refine blk_alloc ?_ _)); refine blk_put (cs := #[.bool t136, .bool false, .bool false, .bool false, .bool false]) ?_ 1 _ rfl; (with_reducible repeat (first | refine blk_drewN ?_ _ | refine blk_drew ?_ | refine blk_alloc ?_ _)); refine blk_put (cs := #[.bool false, .bool false, .bool false, .bool false, .bool false]) ?_ 0 _ rfl; (with_reducible repeat (first | refine blk_drewN ?_ _ | refine blk_drew ?_ | refine blk_alloc ?_ _)); exact BK141.out⟩, ⟨by repeat (first | (with_reducible first | exact HB.out | apply below_alloc | apply pw_below_drewN | apply below_drew1 | refine below_set ?_ GE125.out | refine below_set ?_ GE130.out | refine below_set ?_ GE141.out) | exact HB.out)⟩⟩
                        · rw [if_neg c48] at H
                          have c48b0 : decide (x9_2 < a0_1) = false := decide_eq_false c48
                          clear c48
                          by_cases c54 : t140 = true
                          · subst c54
                            have H1 : (crossbucklaw20_PhaseWarns.j2 k2 l1 t126 x8_2 x9_2 x11_2 (!true) a0_0 a0_1 a0_2 a0_3 a0_4 a0_5 a0_6 a0_7 a0_8 a0_9 t134 t135 t136 t137 t138 true true) = some r := by rw [if_pos rfl] at H; exact H
                            clear H
                            have H := H1
                            clear H1
                            have H' := Aside0.mk H
                            clear H
                            have hnb55 := NB141_125.out
                            have hnc55 := NB125_141.out
                            have hnb56 := NB141_130.out
                            have hnc56 := NB130_141.out
                            have hcz57_0 : w29.cell? ⟨gb141, 0, none⟩ = some (.bool false) := (blk_cell BK141.out 0).trans rfl
                            have hcz57_1 : w29.cell? ⟨gb141, 1, none⟩ = some (.bool false) := (blk_cell BK141.out 1).trans rfl
                            have hcz57_2 : w29.cell? ⟨gb141, 2, none⟩ = some (.bool false) := (blk_cell BK141.out 2).trans rfl
                            have hcz57_3 : w29.cell? ⟨gb141, 3, none⟩ = some (.bool false) := (blk_cell BK141.out 3).trans rfl
                            have hcz57_4 : w29.cell? ⟨gb141, 4, none⟩ = some (.bool false) := (blk_cell BK141.out 4).trans rfl
                            have hfz57_0 := blk_frozen BK141.out 0
                            have hfz57_1 := blk_frozen BK141.out 1
                            have hfz57_2 := blk_frozen BK141.out 2
                            have hfz57_3 := blk_frozen BK141.out 3
                            have hfz57_4 := blk_frozen BK141.out 4
                            have hnb58 := NB125_130.out
                            have hnc58 := NB130_125.out
                            have hcz59_0 : w29.cell? ⟨gb125, 0, none⟩ = some (.int .i64 a0_0) := (blk_cell BK125.out 0).trans rfl
                            have hcz59_1 : w29.cell? ⟨gb125, 1, none⟩ = some (.int .i64 a0_1) := (blk_cell BK125.out 1).trans rfl
                            have hcz59_2 : w29.cell? ⟨gb125, 2, none⟩ = some (.int .i64 a0_2) := (blk_cell BK125.out 2).trans rfl
                            have hcz59_3 : w29.cell? ⟨gb125, 3, none⟩ = some (.int .i64 a0_3) := (blk_cell BK125.out 3).trans rfl
                            have hcz59_4 : w29.cell? ⟨gb125, 4, none⟩ = some (.int .i64 a0_4) := (blk_cell BK125.out 4).trans rfl
                            have hcz59_5 : w29.cell? ⟨gb125, 5, none⟩ = some (.int .i64 a0_5) := (blk_cell BK125.out 5).trans rfl
                            have hcz59_6 : w29.cell? ⟨gb125, 6, none⟩ = some (.int .i64 a0_6) := (blk_cell BK125.out 6).trans rfl
                            have hcz59_7 : w29.cell? ⟨gb125, 7, none⟩ = some (.int .i64 a0_7) := (blk_cell BK125.out 7).trans rfl
                            have hcz59_8 : w29.cell? ⟨gb125, 8, none⟩ = some (.int .i64 a0_8) := (blk_cell BK125.out 8).trans rfl
                            have hcz59_9 : w29.cell? ⟨gb125, 9, none⟩ = some (.int .i64 a0_9) := (blk_cell BK125.out 9).trans rfl
                            have hfz59_0 := blk_frozen BK125.out 0
                            have hfz59_1 := blk_frozen BK125.out 1
                            have hfz59_2 := blk_frozen BK125.out 2
                            have hfz59_3 := blk_frozen BK125.out 3
                            have hfz59_4 := blk_frozen BK125.out 4
                            have hfz59_5 := blk_frozen BK125.out 5
                            have hfz59_6 := blk_frozen BK125.out 6
                            have hfz59_7 := blk_frozen BK125.out 7
                            have hfz59_8 := blk_frozen BK125.out 8
                            have hfz59_9 := blk_frozen BK125.out 9
                            go_wp2
                            go_meet
                            case rel => exact ⟨_, (!true), (by first | rfl | (simp; done) | (simp [*]; done)), H', ⟨by have := HJ4.out; have := HK2.out; first | omega | exact Nat.le_refl _⟩, ⟨by (with_reducible repeat (first | refine blk_drewN ?_ _ | refine blk_drew ?_ | refine blk_alloc ?_ _)); refine blk_far ?_ NB125_141.out _; (with_reducible repeat (first | refine blk_drewN ?_ _ | refine blk_drew ?_ | refine blk_alloc ?_ _)); refine blk_far ?_ NB125_141.out _; (with_reducible repeat (first | refine blk_drewN ?_ _ | refine blk_drew ?_ | refine blk_alloc ?_ _)); refine blk_far ?_ NB125_141.out _; (with_reducible repeat (first | refine blk_drewN ?_ _ | refine blk_drew ?_ | refine blk_alloc ?_ _)); refine blk_far ?_ NB125_141.out _; (with_reducible repeat (first | refine blk_drewN ?_ _ | refine blk_drew ?_ | refine blk_alloc ?_ _)); refine blk_far ?_ NB125_141.out _; (with_reducible repeat (first | refine blk_drewN ?_ _ | refine blk_drew ?_ | refine blk_alloc ?_ _)); exact BK125.out⟩, ⟨by (with_reducible repeat (first | refine blk_drewN ?_ _ | refine blk_drew ?_ | refine blk_alloc ?_ _)); refine blk_far ?_ NB130_141.out _; (with_reducible repeat (first | refine blk_drewN ?_ _ | refine blk_drew ?_ | refine blk_alloc ?_ _)); refine blk_far ?_ NB130_141.out _; (with_reducible repeat (first | refine blk_drewN ?_ _ | refine blk_drew ?_ | refine blk_alloc ?_ _)); refine blk_far ?_ NB130_141.out _; (with_reducible repeat (first | refine blk_drewN ?_ _ | refine blk_drew ?_ | refine blk_alloc ?_ _)); refine blk_far ?_ NB130_141.out _; (with_reducible repeat (first | refine blk_drewN ?_ _ | refine blk_drew ?_ | refine blk_alloc ?_ _)); refine blk_far ?_ NB130_141.out _; (with_reducible repeat (first | refine blk_drewN ?_ _ | refine blk_drew ?_ | refine blk_alloc ?_ _)); exact BK130.out⟩, ⟨by (with_reducible repeat (first | refine blk_drewN ?_ _ | refine blk_drew ?_ | refine blk_alloc ?_ _)); refine blk_put (cs := #[.bool t136, .bool t137, .bool t138, .bool true, .bool false]) ?_ 4 _ rfl; (with_reducible repeat (first | refine blk_drewN ?_ _ | refine blk_drew ?_ | refine blk_alloc ?_ _)); refine blk_put (cs := #[.bool t136, .bool t137, .bool t138, .bool false, .bool false]) ?_ 3 _ rfl; (with_reducible repeat (first | refine blk_drewN ?_ _ | refine blk_drew ?_ | refine blk_alloc ?_ _)); refine blk_put (cs := #[.bool t136, .bool t137, .bool false, .bool false, .bool false]) ?_ 2 _ rfl; (with_reducible repeat (first | refine blk_drewN ?_ _ | refine blk_drew ?_ | refine blk_alloc ?_ _)); refine blk_put (cs := #[.bool t136, .bool false, .bool false, .bool false, .bool false]) ?_ 1 _ rfl; (with_reducible repeat (first | refine blk_drewN ?_ _ | refine blk_drew ?_ | refine blk_alloc ?_ _)); refine blk_put (cs := #[.bool false, .bool false, .bool false, .bool false, .bool false]) ?_ 0 _ rfl; (with_reducible repeat (first | refine blk_drewN ?_ _ | refine blk_drew ?_ | refine blk_alloc ?_ _)); exact BK141.out⟩, ⟨by repeat (first | (with_reducible first | exact HB.out | apply below_alloc | apply pw_below_drewN | apply below_drew1 | refine below_set ?_ GE125.out | refine below_set ?_ GE130.out | refine below_set ?_ GE141.out) | exact HB.out)⟩⟩
                          · replace c54 := Bool.eq_false_iff.mpr c54
                            subst c54
                            have H1 : (crossbucklaw20_PhaseWarns.j2 k2 l1 t126 x8_2 x9_2 x11_2 false a0_0 a0_1 a0_2 a0_3 a0_4 a0_5 a0_6 a0_7 a0_8 a0_9 t134 t135 t136 t137 t138 true false) = some r := by rw [if_neg (show ¬ (false = true) by decide)] at H; exact H
                            clear H
                            have H := H1
                            clear H1
                            have H' := Aside0.mk H
                            clear H
                            have hnb60 := NB141_125.out
                            have hnc60 := NB125_141.out
                            have hnb61 := NB141_130.out
                            have hnc61 := NB130_141.out
                            have hcz62_0 : w29.cell? ⟨gb141, 0, none⟩ = some (.bool false) := (blk_cell BK141.out 0).trans rfl
                            have hcz62_1 : w29.cell? ⟨gb141, 1, none⟩ = some (.bool false) := (blk_cell BK141.out 1).trans rfl
                            have hcz62_2 : w29.cell? ⟨gb141, 2, none⟩ = some (.bool false) := (blk_cell BK141.out 2).trans rfl
                            have hcz62_3 : w29.cell? ⟨gb141, 3, none⟩ = some (.bool false) := (blk_cell BK141.out 3).trans rfl
                            have hcz62_4 : w29.cell? ⟨gb141, 4, none⟩ = some (.bool false) := (blk_cell BK141.out 4).trans rfl
                            have hfz62_0 := blk_frozen BK141.out 0
                            have hfz62_1 := blk_frozen BK141.out 1
                            have hfz62_2 := blk_frozen BK141.out 2
                            have hfz62_3 := blk_frozen BK141.out 3
                            have hfz62_4 := blk_frozen BK141.out 4
                            have hnb63 := NB125_130.out
                            have hnc63 := NB130_125.out
                            have hcz64_0 : w29.cell? ⟨gb125, 0, none⟩ = some (.int .i64 a0_0) := (blk_cell BK125.out 0).trans rfl
                            have hcz64_1 : w29.cell? ⟨gb125, 1, none⟩ = some (.int .i64 a0_1) := (blk_cell BK125.out 1).trans rfl
                            have hcz64_2 : w29.cell? ⟨gb125, 2, none⟩ = some (.int .i64 a0_2) := (blk_cell BK125.out 2).trans rfl
                            have hcz64_3 : w29.cell? ⟨gb125, 3, none⟩ = some (.int .i64 a0_3) := (blk_cell BK125.out 3).trans rfl
                            have hcz64_4 : w29.cell? ⟨gb125, 4, none⟩ = some (.int .i64 a0_4) := (blk_cell BK125.out 4).trans rfl
                            have hcz64_5 : w29.cell? ⟨gb125, 5, none⟩ = some (.int .i64 a0_5) := (blk_cell BK125.out 5).trans rfl
                            have hcz64_6 : w29.cell? ⟨gb125, 6, none⟩ = some (.int .i64 a0_6) := (blk_cell BK125.out 6).trans rfl
                            have hcz64_7 : w29.cell? ⟨gb125, 7, none⟩ = some (.int .i64 a0_7) := (blk_cell BK125.out 7).trans rfl
                            have hcz64_8 : w29.cell? ⟨gb125, 8, none⟩ = some (.int .i64 a0_8) := (blk_cell BK125.out 8).trans rfl
                            have hcz64_9 : w29.cell? ⟨gb125, 9, none⟩ = some (.int .i64 a0_9) := (blk_cell BK125.out 9).trans rfl
                            have hfz64_0 := blk_frozen BK125.out 0
                            have hfz64_1 := blk_frozen BK125.out 1
                            have hfz64_2 := blk_frozen BK125.out 2
                            have hfz64_3 := blk_frozen BK125.out 3
                            have hfz64_4 := blk_frozen BK125.out 4
                            have hfz64_5 := blk_frozen BK125.out 5
                            have hfz64_6 := blk_frozen BK125.out 6
                            have hfz64_7 := blk_frozen BK125.out 7
                            have hfz64_8 := blk_frozen BK125.out 8
                            have hfz64_9 := blk_frozen BK125.out 9
                            go_wp2
                            go_meet
                            case rel => exact ⟨_, (false), (by first | rfl | (simp; done) | (simp [*]; done)), H', ⟨by have := HJ4.out; have := HK2.out; first | omega | exact Nat.le_refl _⟩, ⟨by (with_reducible repeat (first | refine blk_drewN ?_ _ | refine blk_drew ?_ | refine blk_alloc ?_ _)); refine blk_far ?_ NB125_141.out _; (with_reducible repeat (first | refine blk_drewN ?_ _ | refine blk_drew ?_ | refine blk_alloc ?_ _)); refine blk_far ?_ NB125_141.out _; (with_reducible repeat (first | refine blk_drewN ?_ _ | refine blk_drew ?_ | refine blk_alloc ?_ _)); refine blk_far ?_ NB125_141.out _; (with_reducible repeat (first | refine blk_drewN ?_ _ | refine blk_drew ?_ | refine blk_alloc ?_ _)); refine blk_far ?_ NB125_141.out _; (with_reducible repeat (first | refine blk_drewN ?_ _ | refine blk_drew ?_ | refine blk_alloc ?_ _)); refine blk_far ?_ NB125_141.out _; (with_reducible repeat (first | refine blk_drewN ?_ _ | refine blk_drew ?_ | refine blk_alloc ?_ _)); exact BK125.out⟩, ⟨by (with_reducible repeat (first | refine blk_drewN ?_ _ | refine blk_drew ?_ | refine blk_alloc ?_ _)); refine blk_far ?_ NB130_141.out _; (with_reducible repeat (first | refine blk_drewN ?_ _ | refine blk_drew ?_ | refine blk_alloc ?_ _)); refine blk_far ?_ NB130_141.out _; (with_reducible repeat (first | refine blk_drewN ?_ _ | refine blk_drew ?_ | refine blk_alloc ?_ _)); refine blk_far ?_ NB130_141.out _; (with_reducible repeat (first | refine blk_drewN ?_ _ | refine blk_drew ?_ | refine blk_alloc ?_ _)); refine blk_far ?_ NB130_141.out _; (with_reducible repeat (first | refine blk_drewN ?_ _ | refine blk_drew ?_ | refine blk_alloc ?_ _)); refine blk_far ?_ NB130_141.out _; (with_reducible repeat (first | refine blk_drewN ?_ _ | refine blk_drew ?_ | refine blk_alloc ?_ _)); exact BK130.out⟩, ⟨by (with_reducible repeat (first | refine blk_drewN ?_ _ | refine blk_drew ?_ | refine blk_alloc ?_ _)); refine blk_put (cs := #[.bool t136, .bool t137, .bool t138, .bool true, .bool false]) ?_ 4 _ rfl; (with_reducible repeat (first | refine blk_drewN ?_ _ | refine blk_drew ?_ | refine blk_alloc ?_ _)); refine blk_put (cs := #[.bool t136, .bool t137, .bool t138, .bool false, .bool false]) ?_ 3 _ rfl; (with_reducible repeat (first | refine blk_drewN ?_ _ | refine blk_drew ?_ | refine blk_alloc ?_ _)); refine blk_put (cs := #[.bool t136, .bool t137, .bool false, .bool false, .bool false]) ?_ 2 _ rfl; (with_reducible repeat (first | refine blk_drewN ?_ _ | refine blk_drew ?_ | refine blk_alloc ?_ _)); refine blk_put (cs := #[.bool t136, .bool false, .bool false, .bool false, .bool false]) ?_ 1 _ rfl; (with_reducible repeat (first | refine blk_drewN ?_ _ | refine blk_drew ?_ | refine blk_alloc ?_ _)); refine blk_put (cs := #[.bool false, .bool false, .bool false, .bool false, .bool false]) ?_ 0 _ rfl; (with_reducible repeat (first | refine blk_drewN ?_ _ | refine blk_drew ?_ | refine blk_alloc ?_ _)); exact BK141.out⟩, ⟨by repeat (first | (with_reducible first | exact HB.out | apply below_alloc | apply pw_below_drewN | apply below_drew1 | refine below_set ?_ GE125.out | refine below_set ?_ GE130.out | refine below_set ?_ GE141.out) | exact HB.out)⟩⟩
                  · replace c33 := Bool.eq_false_iff.mpr c33
                    subst c33
                    have H1 : (if t140 = true then (crossbucklaw20_PhaseWarns.j2 k2 l1 t126 x8_2 x9_2 x11_2 (!false) a0_0 a0_1 a0_2 a0_3 a0_4 a0_5 a0_6 a0_7 a0_8 a0_9 t134 t135 t136 t137 t138 false t140) else (crossbucklaw20_PhaseWarns.j2 k2 l1 t126 x8_2 x9_2 x11_2 false a0_0 a0_1 a0_2 a0_3 a0_4 a0_5 a0_6 a0_7 a0_8 a0_9 t134 t135 t136 t137 t138 false t140)) = some r := by rw [if_neg (show ¬ (false = true) by decide)] at H; exact H
                    clear H
                    have H := H1
                    clear H1
                    by_cases c65 : t140 = true
                    · subst c65
                      have H1 : (crossbucklaw20_PhaseWarns.j2 k2 l1 t126 x8_2 x9_2 x11_2 (!false) a0_0 a0_1 a0_2 a0_3 a0_4 a0_5 a0_6 a0_7 a0_8 a0_9 t134 t135 t136 t137 t138 false true) = some r := by rw [if_pos rfl] at H; exact H
                      clear H
                      have H := H1
                      clear H1
                      have H' := Aside0.mk H
                      clear H
                      have hnb66 := NB141_125.out
                      have hnc66 := NB125_141.out
                      have hnb67 := NB141_130.out
                      have hnc67 := NB130_141.out
                      have hcz68_0 : w29.cell? ⟨gb141, 0, none⟩ = some (.bool false) := (blk_cell BK141.out 0).trans rfl
                      have hcz68_1 : w29.cell? ⟨gb141, 1, none⟩ = some (.bool false) := (blk_cell BK141.out 1).trans rfl
                      have hcz68_2 : w29.cell? ⟨gb141, 2, none⟩ = some (.bool false) := (blk_cell BK141.out 2).trans rfl
                      have hcz68_3 : w29.cell? ⟨gb141, 3, none⟩ = some (.bool false) := (blk_cell BK141.out 3).trans rfl
                      have hcz68_4 : w29.cell? ⟨gb141, 4, none⟩ = some (.bool false) := (blk_cell BK141.out 4).trans rfl
                      have hfz68_0 := blk_frozen BK141.out 0
                      have hfz68_1 := blk_frozen BK141.out 1
                      have hfz68_2 := blk_frozen BK141.out 2
                      have hfz68_3 := blk_frozen BK141.out 3
                      have hfz68_4 := blk_frozen BK141.out 4
                      go_wp2
                      go_meet
                      case rel => exact ⟨_, (!false), (by first | rfl | (simp; done) | (simp [*]; done)), H', ⟨by have := HJ4.out; have := HK2.out; first | omega | exact Nat.le_refl _⟩, ⟨by (with_reducible repeat (first | refine blk_drewN ?_ _ | refine blk_drew ?_ | refine blk_alloc ?_ _)); refine blk_far ?_ NB125_141.out _; (with_reducible repeat (first | refine blk_drewN ?_ _ | refine blk_drew ?_ | refine blk_alloc ?_ _)); refine blk_far ?_ NB125_141.out _; (with_reducible repeat (first | refine blk_drewN ?_ _ | refine blk_drew ?_ | refine blk_alloc ?_ _)); refine blk_far ?_ NB125_141.out _; (with_reducible repeat (first | refine blk_drewN ?_ _ | refine blk_drew ?_ | refine blk_alloc ?_ _)); refine blk_far ?_ NB125_141.out _; (with_reducible repeat (first | refine blk_drewN ?_ _ | refine blk_drew ?_ | refine blk_alloc ?_ _)); refine blk_far ?_ NB125_141.out _; (with_reducible repeat (first | refine blk_drewN ?_ _ | refine blk_drew ?_ | refine blk_alloc ?_ _)); exact BK125.out⟩, ⟨by (with_reducible repeat (first | refine blk_drewN ?_ _ | refine blk_drew ?_ | refine blk_alloc ?_ _)); refine blk_far ?_ NB130_141.out _; (with_reducible repeat (first | refine blk_drewN ?_ _ | refine blk_drew ?_ | refine blk_alloc ?_ _)); refine blk_far ?_ NB130_141.out _; (with_reducible repeat (first | refine blk_drewN ?_ _ | refine blk_drew ?_ | refine blk_alloc ?_ _)); refine blk_far ?_ NB130_141.out _; (with_reducible repeat (first | refine blk_drewN ?_ _ | refine blk_drew ?_ | refine blk_alloc ?_ _)); refine blk_far ?_ NB130_141.out _; (with_reducible repeat (first | refine blk_drewN ?_ _ | refine blk_drew ?_ | refine blk_alloc ?_ _)); refine blk_far ?_ NB130_141.out _; (with_reducible repeat (first | refine blk_drewN ?_ _ | refine blk_drew ?_ | refine blk_alloc ?_ _)); exact BK130.out⟩, ⟨by (with_reducible repeat (first | refine blk_drewN ?_ _ | refine blk_drew ?_ | refine blk_alloc ?_ _)); refine blk_put (cs := #[.bool t136, .bool t137, .bool t138, .bool false, .bool false]) ?_ 4 _ rfl; (with_reducible repeat (first | refine blk_drewN ?_ _ | refine blk_drew ?_ | refine blk_alloc ?_ _)); refine blk_put (cs := #[.bool t136, .bool t137, .bool t138, .bool false, .bool false]) ?_ 3 _ rfl; (with_reducible repeat (first | refine blk_drewN ?_ _ | refine blk_drew ?_ | refine blk_alloc ?_ _)); refine blk_put (cs := #[.bool t136, .bool t137, .bool false, .bool false, .bool false]) ?_ 2 _ rfl; (with_reducible repeat (first | refine blk_drewN ?_ _ | refine blk_drew ?_ | refine blk_alloc ?_ _)); refine blk_put (cs := #[.bool t136, .bool false, .bool false, .bool false, .bool false]) ?_ 1 _ rfl; (with_reducible repeat (first | refine blk_drewN ?_ _ | refine blk_drew ?_ | refine blk_alloc ?_ _)); refine blk_put (cs := #[.bool false, .bool false, .bool false, .bool false, .bool false]) ?_ 0 _ rfl; (with_reducible repeat (first | refine blk_drewN ?_ _ | refine blk_drew ?_ | refine blk_alloc ?_ _)); exact BK141.out⟩, ⟨by repeat (first | (with_reducible first | exact HB.out | apply below_alloc | apply pw_below_drewN | apply below_drew1 | refine below_set ?_ GE125.out | refine below_set ?_ GE130.out | refine below_set ?_ GE141.out) | exact HB.out)⟩⟩
                    · replace c65 := Bool.eq_false_iff.mpr c65
                      subst c65
                      have H1 : (crossbucklaw20_PhaseWarns.j2 k2 l1 t126 x8_2 x9_2 x11_2 false a0_0 a0_1 a0_2 a0_3 a0_4 a0_5 a0_6 a0_7 a0_8 a0_9 t134 t135 t136 t137 t138 false false) = some r := by rw [if_neg (show ¬ (false = true) by decide)] at H; exact H
                      clear H
                      have H := H1
                      clear H1
                      have H' := Aside0.mk H
                      clear H
                      have hnb69 := NB141_125.out
                      have hnc69 := NB125_141.out
                      have hnb70 := NB141_130.out
                      have hnc70 := NB130_141.out
                      have hcz71_0 : w29.cell? ⟨gb141, 0, none⟩ = some (.bool false) := (blk_cell BK141.out 0).trans rfl
                      have hcz71_1 : w29.cell? ⟨gb141, 1, none⟩ = some (.bool false) := (blk_cell BK141.out 1).trans rfl
                      have hcz71_2 : w29.cell? ⟨gb141, 2, none⟩ = some (.bool false) := (blk_cell BK141.out 2).trans rfl
                      have hcz71_3 : w29.cell? ⟨gb141, 3, none⟩ = some (.bool false) := (blk_cell BK141.out 3).trans rfl
                      have hcz71_4 : w29.cell? ⟨gb141, 4, none⟩ = some (.bool false) := (blk_cell BK141.out 4).trans rfl
                      have hfz71_0 := blk_frozen BK141.out 0
                      have hfz71_1 := blk_frozen BK141.out 1
                      have hfz71_2 := blk_frozen BK141.out 2
                      have hfz71_3 := blk_frozen BK141.out 3
                      have hfz71_4 := blk_frozen BK141.out 4
                      go_wp2
                      go_meet
                      case rel => exact ⟨_, (false), (by first | rfl | (simp; done) | (simp [*]; done)), H', ⟨by have := HJ4.out; have := HK2.out; first | omega | exact Nat.le_refl _⟩, ⟨by (with_reducible repeat (first | refine blk_drewN ?_ _ | refine blk_drew ?_ | refine blk_alloc ?_ _)); refine blk_far ?_ NB125_141.out _; (with_reducible repeat (first | refine blk_drewN ?_ _ | refine blk_drew ?_ | refine blk_alloc ?_ _)); refine blk_far ?_ NB125_141.out _; (with_reducible repeat (first | refine blk_drewN ?_ _ | refine blk_drew ?_ | refine blk_alloc ?_ _)); refine blk_far ?_ NB125_141.out _; (with_reducible repeat (first | refine blk_drewN ?_ _ | refine blk_drew ?_ | refine blk_alloc ?_ _)); refine blk_far ?_ NB125_141.out _; (with_reducible repeat (first | refine blk_drewN ?_ _ | refine blk_drew ?_ | refine blk_alloc ?_ _)); refine blk_far ?_ NB125_141.out _; (with_reducible repeat (first | refine blk_drewN ?_ _ | refine blk_drew ?_ | refine blk_alloc ?_ _)); exact BK125.out⟩, ⟨by (with_reducible repeat (first | refine blk_drewN ?_ _ | refine blk_drew ?_ | refine blk_alloc ?_ _)); refine blk_far ?_ NB130_141.out _; (with_reducible repeat (first | refine blk_drewN ?_ _ | refine blk_drew ?_ | refine blk_alloc ?_ _)); refine blk_far ?_ NB130_141.out _; (with_reducible repeat (first | refine blk_drewN ?_ _ | refine blk_drew ?_ | refine blk_alloc ?_ _)); refine blk_far ?_ NB130_141.out _; (with_reducible repeat (first | refine blk_drewN ?_ _ | refine blk_drew ?_ | refine blk_alloc ?_ _)); refine blk_far ?_ NB130_141.out _; (with_reducible repeat (first | refine blk_drewN ?_ _ | refine blk_drew ?_ | refine blk_alloc ?_ _)); refine blk_far ?_ NB130_141.out _; (with_reducible repeat (first | refine blk_drewN ?_ _ | refine blk_drew ?_ | refine blk_alloc ?_ _)); exact BK130.out⟩, ⟨by (with_reducible repeat (first | refine blk_drewN ?_ _ | refine blk_drew ?_ | refine blk_alloc ?_ _)); refine blk_put (cs := #[.bool t136, .bool t137, .bool t138, .bool false, .bool false]) ?_ 4 _ rfl; (with_reducible repeat (first | refine blk_drewN ?_ _ | refine blk_drew ?_ | refine blk_alloc ?_ _)); refine blk_put (cs := #[.bool t136, .bool t137, .bool t138, .bool false, .bool false]) ?_ 3 _ rfl; (with_reducible repeat (first | refine blk_drewN ?_ _ | refine blk_drew ?_ | refine blk_alloc ?_ _)); refine blk_put (cs := #[.bool t136, .bool t137, .bool false, .bool false, .bool false]) ?_ 2 _ rfl; (with_reducible repeat (first | refine blk_drewN ?_ _ | refine blk_drew ?_ | refine blk_alloc ?_ _)); refine blk_put (cs := #[.bool t136, .bool false, .bool false, .bool false, .bool false]) ?_ 1 _ rfl; (with_reducible repeat (first | refine blk_drewN ?_ _ | refine blk_drew ?_ | refine blk_alloc ?_ _)); refine blk_put (cs := #[.bool false, .bool false, .bool false, .bool false, .bool false]) ?_ 0 _ rfl; (with_reducible repeat (first | refine blk_drewN ?_ _ | refine blk_drew ?_ | refine blk_alloc ?_ _)); exact BK141.out⟩, ⟨by repeat (first | (with_reducible first | exact HB.out | apply below_alloc | apply pw_below_drewN | apply below_drew1 | refine below_set ?_ GE125.out | refine below_set ?_ GE130.out | refine below_set ?_ GE141.out) | exact HB.out)⟩⟩
                case rest =>
                  clear HC21
                  try clear c1
                  try clear p1
                  try clear q1
                  try clear hx1
                  try clear c2
                  try clear p2
                  try clear c3
                  try clear c4
                  try clear c5
                  try clear c6
                  try clear c7
                  try clear c12
                  try clear c13
                  try clear p13
                  try clear q13
                  try clear hx13
                  try clear c17
                  try clear c17b0
                  try clear c18
                  try clear c18b0
                  try clear c26
                  try clear c30
                  try clear c31
                  try clear c33
                  try clear c34
                  try clear c35
                  try clear c36
                  try clear c37
                  try clear c39
                  try clear c40
                  try clear c42
                  try clear c42b0
                  try clear c43
                  try clear c44
                  try clear c46
                  try clear c48
                  try clear c48b0
                  try clear c49
                  try clear c50
                  try clear c52
                  try clear c54
                  try clear c55
                  try clear c56
                  try clear c58
                  try clear c60
                  try clear c61
                  try clear c63
                  try clear c65
                  try clear c66
                  try clear c67
                  try clear c69
                  try clear c70
                  try clear hcz27_0
                  try clear hcz27_1
                  try clear hcz32_0
                  try clear hcz32_1
                  try clear hcz32_2
                  try clear hcz32_3
                  try clear hcz32_4
                  try clear hcz38_0
                  try clear hcz38_1
                  try clear hcz38_2
                  try clear hcz38_3
                  try clear hcz38_4
                  try clear hcz41_0
                  try clear hcz41_1
                  try clear hcz41_2
                  try clear hcz41_3
                  try clear hcz41_4
                  try clear hcz45_0
                  try clear hcz45_1
                  try clear hcz45_2
                  try clear hcz45_3
                  try clear hcz45_4
                  try clear hcz47_0
                  try clear hcz47_1
                  try clear hcz47_2
                  try clear hcz47_3
                  try clear hcz47_4
                  try clear hcz47_5
                  try clear hcz47_6
                  try clear hcz47_7
                  try clear hcz47_8
                  try clear hcz47_9
                  try clear hcz51_0
                  try clear hcz51_1
                  try clear hcz51_2
                  try clear hcz51_3
                  try clear hcz51_4
                  try clear hcz53_0
                  try clear hcz53_1
                  try clear hcz53_2
                  try clear hcz53_3
                  try clear hcz53_4
                  try clear hcz53_5
                  try clear hcz53_6
                  try clear hcz53_7
                  try clear hcz53_8
                  try clear hcz53_9
                  try clear hcz57_0
                  try clear hcz57_1
                  try clear hcz57_2
                  try clear hcz57_3
                  try clear hcz57_4
                  try clear hcz59_0
                  try clear hcz59_1
                  try clear hcz59_2
                  try clear hcz59_3
                  try clear hcz59_4
                  try clear hcz59_5
                  try clear hcz59_6
                  try clear hcz59_7
                  try clear hcz59_8
                  try clear hcz59_9
                  try clear hcz62_0
                  try clear hcz62_1
                  try clear hcz62_2
                  try clear hcz62_3
                  try clear hcz62_4
                  try clear hcz64_0
                  try clear hcz64_1
                  try clear hcz64_2
                  try clear hcz64_3
                  try clear hcz64_4
                  try clear hcz64_5
                  try clear hcz64_6
                  try clear hcz64_7
                  try clear hcz64_8
                  try clear hcz64_9
                  try clear hcz68_0
                  try clear hcz68_1
                  try clear hcz68_2
                  try clear hcz68_3
                  try clear hcz68_4
                  try clear hcz71_0
                  try clear hcz71_1
                  try clear hcz71_2
                  try clear hcz71_3
                  try clear hcz71_4
                  try clear hfz27_0
                  try clear hfz27_1
                  try clear hfz32_0
                  try clear hfz32_1
                  try clear hfz32_2
                  try clear hfz32_3
                  try clear hfz32_4
                  try clear hfz38_0
                  try clear hfz38_1
                  try clear hfz38_2
                  try clear hfz38_3
                  try clear hfz38_4
                  try clear hfz41_0
                  try clear hfz41_1
                  try clear hfz41_2
                  try clear hfz41_3
                  try clear hfz41_4
                  try clear hfz45_0
                  try clear hfz45_1
                  try clear hfz45_2
                  try clear hfz45_3
                  try clear hfz45_4
                  try clear hfz47_0
                  try clear hfz47_1
                  try clear hfz47_2
                  try clear hfz47_3
                  try clear hfz47_4
                  try clear hfz47_5
                  try clear hfz47_6
                  try clear hfz47_7
                  try clear hfz47_8
                  try clear hfz47_9
                  try clear hfz51_0
                  try clear hfz51_1
                  try clear hfz51_2
                  try clear hfz51_3
                  try clear hfz51_4
                  try clear hfz53_0
                  try clear hfz53_1
                  try clear hfz53_2
                  try clear hfz53_3
                  try clear hfz53_4
                  try clear hfz53_5
                  try clear hfz53_6
                  try clear hfz53_7
                  try clear hfz53_8
                  try clear hfz53_9
                  try clear hfz57_0
                  try clear hfz57_1
                  try clear hfz57_2
                  try clear hfz57_3
                  try clear hfz57_4
                  try clear hfz59_0
                  try clear hfz59_1
                  try clear hfz59_2
                  try clear hfz59_3
                  try clear hfz59_4
                  try clear hfz59_5
                  try clear hfz59_6
                  try clear hfz59_7
                  try clear hfz59_8
                  try clear hfz59_9
                  try clear hfz62_0
                  try clear hfz62_1
                  try clear hfz62_2
                  try clear hfz62_3
                  try clear hfz62_4
                  try clear hfz64_0
                  try clear hfz64_1
                  try clear hfz64_2
                  try clear hfz64_3
                  try clear hfz64_4
                  try clear hfz64_5
                  try clear hfz64_6
                  try clear hfz64_7
                  try clear hfz64_8
                  try clear hfz64_9
                  try clear hfz68_0
                  try clear hfz68_1
                  try clear hfz68_2
                  try clear hfz68_3
                  try clear hfz68_4
                  try clear hfz71_0
                  try clear hfz71_1
                  try clear hfz71_2
                  try clear hfz71_3
                  try clear hfz71_4
                  try clear hx131_0
                  try clear hx131_1
                  try clear hx131_2
                  try clear hx131_3
                  try clear hx131_4
                  try clear hx131_5
                  try clear hx131_6
                  try clear hx132_0
                  try clear hx132_1
                  try clear hx132_2
                  try clear hx132_3
                  try clear hx132_4
                  try clear hx132_5
                  try clear hx132_6
                  try clear hx133_0
                  try clear hx133_1
                  try clear hx133_2
                  try clear hx133_3
                  try clear hx133_4
                  try clear hx133_5
                  try clear hx133_6
                  try clear p131
                  try clear p132
                  try clear p133
                  try clear q131
                  try clear q132
                  try clear q133
                  obtain ⟨kq, x77_20, rfl, HA, HJ20, BK125, BK130, BK141, HB⟩ := hcut
                  cases kq with
                  | zero => exact absurd HA.out (by simp [crossbucklaw20_PhaseWarns.j2])
                  | succ kj20 =>
                    have H := HA.out
                    clear HA
                    simp only [crossbucklaw20_PhaseWarns.j2] at H
                    by_cases c72 : x77_20 = true
                    · subst c72
                      have H1 : (some false) = some r := by rw [if_pos rfl] at H; exact H
                      clear H
                      have H := H1
                      clear H1
                      obtain rfl := Option.some.inj H
                      go_wp2
                      go_ret
                      exact ⟨by first | rfl | (simp [errW_none, errW_some] <;> rfl) | (simp [*, errW_none, errW_some] <;> rfl), by repeat (first | (with_reducible first | exact HB.out | apply below_alloc | apply pw_below_drewN | apply below_drew1 | refine below_set ?_ GE125.out | refine below_set ?_ GE130.out | refine below_set ?_ GE141.out) | exact HB.out)⟩
                    · replace c72 := Bool.eq_false_iff.mpr c72
                      subst c72
                      have H1 : (if t136 = true then (crossbucklaw20_PhaseWarns.l0 kj20 l1 t126 (wrap64 (x8_2 + 1)) 0 t139 (wrap64 (x11_2 + 1)) a0_0 a0_1 a0_2 a0_3 a0_4 a0_5 a0_6 a0_7 a0_8 a0_9 t134 t135) else (if t134 = 2 then (crossbucklaw20_PhaseWarns.l0 kj20 l1 t126 x8_2 (wrap64 (x9_2 + 1)) t139 (wrap64 (x11_2 + 1)) a0_0 a0_1 a0_2 a0_3 a0_4 a0_5 a0_6 a0_7 a0_8 a0_9 t134 t135) else (if t139 = true then (crossbucklaw20_PhaseWarns.l0 kj20 l1 t126 x8_2 x9_2 t139 (wrap64 (x11_2 + 1)) a0_0 a0_1 a0_2 a0_3 a0_4 a0_5 a0_6 a0_7 a0_8 a0_9 t134 t135) else (crossbucklaw20_PhaseWarns.l0 kj20 l1 t126 0 0 t139 (wrap64 (x11_2 + 1)) a0_0 a0_1 a0_2 a0_3 a0_4 a0_5 a0_6 a0_7 a0_8 a0_9 t134 t135)))) = some r := by rw [if_neg (show ¬ (false = true) by decide)] at H; exact H
                      clear H
                      have H := H1
                      clear H1
                      by_cases c73 : t136 = true
                      · subst c73
                        have H1 : (crossbucklaw20_PhaseWarns.l0 kj20 l1 t126 (wrap64 (x8_2 + 1)) 0 t139 (wrap64 (x11_2 + 1)) a0_0 a0_1 a0_2 a0_3 a0_4 a0_5 a0_6 a0_7 a0_8 a0_9 t134 t135) = some r := by rw [if_pos rfl] at H; exact H
                        clear H
                        have H := H1
                        clear H1
                        have H' := Aside0.mk H
                        clear H
                        have hnb74 := NB141_125.out
                        have hnc74 := NB125_141.out
                        have hnb75 := NB141_130.out
                        have hnc75 := NB130_141.out
                        have hcz76_0 : wc.cell? ⟨gb141, 0, none⟩ = some (.bool true) := (blk_cell BK141.out 0).trans rfl
                        have hcz76_1 : wc.cell? ⟨gb141, 1, none⟩ = some (.bool t137) := (blk_cell BK141.out 1).trans rfl
                        have hcz76_2 : wc.cell? ⟨gb141, 2, none⟩ = some (.bool t138) := (blk_cell BK141.out 2).trans rfl
                        have hcz76_3 : wc.cell? ⟨gb141, 3, none⟩ = some (.bool t139) := (blk_cell BK141.out 3).trans rfl
                        have hcz76_4 : wc.cell? ⟨gb141, 4, none⟩ = some (.bool t140) := (blk_cell BK141.out 4).trans rfl
                        have hfz76_0 := blk_frozen BK141.out 0
                        have hfz76_1 := blk_frozen BK141.out 1
                        have hfz76_2 := blk_frozen BK141.out 2
                        have hfz76_3 := blk_frozen BK141.out 3
                        have hfz76_4 := blk_frozen BK141.out 4
                        go_wp2
                        go_roundg kj20
                        case measure => have := HJ4.out; have := HK2.out; have := HJ20.out; omega
                        case rel => exact ⟨(wrap64 (x8_2 + 1)), (0), (t139), (wrap64 (x11_2 + 1)), (t134), (t135), (by first | rfl | (simp; done) | (simp [*]; done)), (by first | rfl | (simp; done) | (simp [*]; done)), (by first | rfl | (simp; done) | (simp [*]; done)), (by first | rfl | (simp; done) | (simp [*]; done)), H', ⟨by have := HJ4.out; have := HK2.out; have := HJ20.out; omega⟩, ⟨by (with_reducible repeat (first | refine blk_drewN ?_ _ | refine blk_drew ?_ | refine blk_alloc ?_ _)); exact BK125.out⟩, ⟨by (with_reducible repeat (first | refine blk_drewN ?_ _ | refine blk_drew ?_ | refine blk_alloc ?_ _)); exact BK130.out⟩, ⟨by repeat (first | (with_reducible first | exact HB.out | apply below_alloc | apply pw_below_drewN | apply below_drew1 | refine below_set ?_ GE125.out | refine below_set ?_ GE130.out | refine below_set ?_ GE141.out) | exact HB.out)⟩⟩
                      · replace c73 := Bool.eq_false_iff.mpr c73
                        subst c73
                        have H1 : (if t134 = 2 then (crossbucklaw20_PhaseWarns.l0 kj20 l1 t126 x8_2 (wrap64 (x9_2 + 1)) t139 (wrap64 (x11_2 + 1)) a0_0 a0_1 a0_2 a0_3 a0_4 a0_5 a0_6 a0_7 a0_8 a0_9 t134 t135) else (if t139 = true then (crossbucklaw20_PhaseWarns.l0 kj20 l1 t126 x8_2 x9_2 t139 (wrap64 (x11_2 + 1)) a0_0 a0_1 a0_2 a0_3 a0_4 a0_5 a0_6 a0_7 a0_8 a0_9 t134 t135) else (crossbucklaw20_PhaseWarns.l0 kj20 l1 t126 0 0 t139 (wrap64 (x11_2 + 1)) a0_0 a0_1 a0_2 a0_3 a0_4 a0_5 a0_6 a0_7 a0_8 a0_9 t134 t135))) = some r := by rw [if_neg (show ¬ (false = true) by decide)] at H; exact H
                        clear H
                        have H := H1
                        clear H1
                        by_cases c77 : t134 = 2
                        · rw [if_pos c77] at H
                          have c77b0 : (t134 == 2) = true := beq_iff_eq.mpr c77
                          have c77b1 : (t134 != 2) = false := bne_eq_false_iff_eq.mpr c77
                          clear c77
                          have H' := Aside0.mk H
                          clear H
                          have hnb78 := NB141_125.out
                          have hnc78 := NB125_141.out
                          have hnb79 := NB141_130.out
                          have hnc79 := NB130_141.out
                          have hcz80_0 : wc.cell? ⟨gb141, 0, none⟩ = some (.bool false) := (blk_cell BK141.out 0).trans rfl
                          have hcz80_1 : wc.cell? ⟨gb141, 1, none⟩ = some (.bool t137) := (blk_cell BK141.out 1).trans rfl
                          have hcz80_2 : wc.cell? ⟨gb141, 2, none⟩ = some (.bool t138) := (blk_cell BK141.out 2).trans rfl
                          have hcz80_3 : wc.cell? ⟨gb141, 3, none⟩ = some (.bool t139) := (blk_cell BK141.out 3).trans rfl
                          have hcz80_4 : wc.cell? ⟨gb141, 4, none⟩ = some (.bool t140) := (blk_cell BK141.out 4).trans rfl
                          have hfz80_0 := blk_frozen BK141.out 0
                          have hfz80_1 := blk_frozen BK141.out 1
                          have hfz80_2 := blk_frozen BK141.out 2
                          have hfz80_3 := blk_frozen BK141.out 3
                          have hfz80_4 := blk_frozen BK141.out 4
                          have hnb81 := NB130_125.out
                          have hnc81 := NB125_130.out
                          have hcz82_0 : wc.cell? ⟨gb130, 0, none⟩ = some (.int .i64 t134) := (blk_cell BK130.out 0).trans rfl
                          have hcz82_1 : wc.cell? ⟨gb130, 1, none⟩ = some (.int .i64 t135) := (blk_cell BK130.out 1).trans rfl
                          have hfz82_0 := blk_frozen BK130.out 0
                          have hfz82_1 := blk_frozen BK130.out 1
                          go_wp2
                          go_roundg kj20
                          case measure => have := HJ4.out; have := HK2.out; have := HJ20.out; omega
                          case rel => exact ⟨(x8_2), (wrap64 (x9_2 + 1)), (t139), (wrap64 (x11_2 + 1)), (t134), (t135), (by first | rfl | (simp; done) | (simp [*]; done)), (by first | rfl | (simp; done) | (simp [*]; done)), (by first | rfl | (simp; done) | (simp [*]; done)), (by first | rfl | (simp; done) | (simp [*]; done)), H', ⟨by have := HJ4.out; have := HK2.out; have := HJ20.out; omega⟩, ⟨by (with_reducible repeat (first | refine blk_drewN ?_ _ | refine blk_drew ?_ | refine blk_alloc ?_ _)); exact BK125.out⟩, ⟨by (with_reducible repeat (first | refine blk_drewN ?_ _ | refine blk_drew ?_ | refine blk_alloc ?_ _)); exact BK130.out⟩, ⟨by repeat (first | (with_reducible first | exact HB.out | apply below_alloc | apply pw_below_drewN | apply below_drew1 | refine below_set ?_ GE125.out | refine below_set ?_ GE130.out | refine below_set ?_ GE141.out) | exact HB.out)⟩⟩
                        · rw [if_neg c77] at H
                          have c77b0 : (t134 == 2) = false := beq_eq_false_iff_ne.mpr c77
                          have c77b1 : (t134 != 2) = true := bne_iff_ne.mpr c77
                          by_cases c83 : t139 = true
                          · subst c83
                            have H1 : (crossbucklaw20_PhaseWarns.l0 kj20 l1 t126 x8_2 x9_2 true (wrap64 (x11_2 + 1)) a0_0 a0_1 a0_2 a0_3 a0_4 a0_5 a0_6 a0_7 a0_8 a0_9 t134 t135) = some r := by rw [if_pos rfl] at H; exact H
                            clear H
                            have H := H1
                            clear H1
                            have H' := Aside0.mk H
                            clear H
                            have hnb84 := NB141_125.out
                            have hnc84 := NB125_141.out
                            have hnb85 := NB141_130.out
                            have hnc85 := NB130_141.out
                            have hcz86_0 : wc.cell? ⟨gb141, 0, none⟩ = some (.bool false) := (blk_cell BK141.out 0).trans rfl
                            have hcz86_1 : wc.cell? ⟨gb141, 1, none⟩ = some (.bool t137) := (blk_cell BK141.out 1).trans rfl
                            have hcz86_2 : wc.cell? ⟨gb141, 2, none⟩ = some (.bool t138) := (blk_cell BK141.out 2).trans rfl
                            have hcz86_3 : wc.cell? ⟨gb141, 3, none⟩ = some (.bool true) := (blk_cell BK141.out 3).trans rfl
                            have hcz86_4 : wc.cell? ⟨gb141, 4, none⟩ = some (.bool t140) := (blk_cell BK141.out 4).trans rfl
                            have hfz86_0 := blk_frozen BK141.out 0
                            have hfz86_1 := blk_frozen BK141.out 1
                            have hfz86_2 := blk_frozen BK141.out 2
                            have hfz86_3 := blk_frozen BK141.out 3
                            have hfz86_4 := blk_frozen BK141.out 4
                            have hnb87 := NB130_125.out
                            have hnc87 := NB125_130.out
                            have hcz88_0 : wc.cell? ⟨gb130, 0, none⟩ = some (.int .i64 t134) := (blk_cell BK130.out 0).trans rfl
                            have hcz88_1 : wc.cell? ⟨gb130, 1, none⟩ = some (.int .i64 t135) := (blk_cell BK130.out 1).trans rfl
                            have hfz88_0 := blk_frozen BK130.out 0
                            have hfz88_1 := blk_frozen BK130.out 1
                            go_wp2
                            go_roundg kj20
                            case measure => have := HJ4.out; have := HK2.out; have := HJ20.out; omega
                            case rel => exact ⟨(x8_2), (x9_2), (true), (wrap64 (x11_2 + 1)), (t134), (t135), (by first | rfl | (simp; done) | (simp [*]; done)), (by first | rfl | (simp; done) | (simp [*]; done)), (by first | rfl | (simp; done) | (simp [*]; done)), (by first | rfl | (simp; done) | (simp [*]; done)), H', ⟨by have := HJ4.out; have := HK2.out; have := HJ20.out; omega⟩, ⟨by (with_reducible repeat (first | refine blk_drewN ?_ _ | refine blk_drew ?_ | refine blk_alloc ?_ _)); exact BK125.out⟩, ⟨by (with_reducible repeat (first | refine blk_drewN ?_ _ | refine blk_drew ?_ | refine blk_alloc ?_ _)); exact BK130.out⟩, ⟨by repeat (first | (with_reducible first | exact HB.out | apply below_alloc | apply pw_below_drewN | apply below_drew1 | refine below_set ?_ GE125.out | refine below_set ?_ GE130.out | refine below_set ?_ GE141.out) | exact HB.out)⟩⟩
                          · replace c83 := Bool.eq_false_iff.mpr c83
                            subst c83
                            have H1 : (crossbucklaw20_PhaseWarns.l0 kj20 l1 t126 0 0 false (wrap64 (x11_2 + 1)) a0_0 a0_1 a0_2 a0_3 a0_4 a0_5 a0_6 a0_7 a0_8 a0_9 t134 t135) = some r := by rw [if_neg (show ¬ (false = true) by decide)] at H; exact H
                            clear H
                            have H := H1
                            clear H1
                            have H' := Aside0.mk H
                            clear H
                            have hnb89 := NB141_125.out
                            have hnc89 := NB125_141.out
                            have hnb90 := NB141_130.out
                            have hnc90 := NB130_141.out
                            have hcz91_0 : wc.cell? ⟨gb141, 0, none⟩ = some (.bool false) := (blk_cell BK141.out 0).trans rfl
                            have hcz91_1 : wc.cell? ⟨gb141, 1, none⟩ = some (.bool t137) := (blk_cell BK141.out 1).trans rfl
                            have hcz91_2 : wc.cell? ⟨gb141, 2, none⟩ = some (.bool t138) := (blk_cell BK141.out 2).trans rfl
                            have hcz91_3 : wc.cell? ⟨gb141, 3, none⟩ = some (.bool false) := (blk_cell BK141.out 3).trans rfl
                            have hcz91_4 : wc.cell? ⟨gb141, 4, none⟩ = some (.bool t140) := (blk_cell BK141.out 4).trans rfl
                            have hfz91_0 := blk_frozen BK141.out 0
                            have hfz91_1 := blk_frozen BK141.out 1
                            have hfz91_2 := blk_frozen BK141.out 2
                            have hfz91_3 := blk_frozen BK141.out 3
                            have hfz91_4 := blk_frozen BK141.out 4
                            have hnb92 := NB130_125.out
                            have hnc92 := NB125_130.out
                            have hcz93_0 : wc.cell? ⟨gb130, 0, none⟩ = some (.int .i64 t134) := (blk_cell BK130.out 0).trans rfl
                            have hcz93_1 : wc.cell? ⟨gb130, 1, none⟩ = some (.int .i64 t135) := (blk_cell BK130.out 1).trans rfl
                            have hfz93_0 := blk_frozen BK130.out 0
                            have hfz93_1 := blk_frozen BK130.out 1
                            go_wp2
                            go_roundg kj20
                            case measure => have := HJ4.out; have := HK2.out; have := HJ20.out; omega
                            case rel => exact ⟨(0), (0), (false), (wrap64 (x11_2 + 1)), (t134), (t135), (by first | rfl | (simp; done) | (simp [*]; done)), (by first | rfl | (simp; done) | (simp [*]; done)), (by first | rfl | (simp; done) | (simp [*]; done)), (by first | rfl | (simp; done) | (simp [*]; done)), H', ⟨by have := HJ4.out; have := HK2.out; have := HJ20.out; omega⟩, ⟨by (with_reducible repeat (first | refine blk_drewN ?_ _ | refine blk_drew ?_ | refine blk_alloc ?_ _)); exact BK125.out⟩, ⟨by (with_reducible repeat (first | refine blk_drewN ?_ _ | refine blk_drew ?_ | refine blk_alloc ?_ _)); exact BK130.out⟩, ⟨by repeat (first | (with_reducible first | exact HB.out | apply below_alloc | apply pw_below_drewN | apply below_drew1 | refine below_set ?_ GE125.out | refine below_set ?_ GE130.out | refine below_set ?_ GE141.out) | exact HB.out)⟩⟩
              · rw [if_neg c18] at H
                exact absurd H (by simp)
            · rw [if_neg c17] at H
              have c17b0 : decide (x11_2 < (l1.length : Int)) = false := decide_eq_false c17
              clear c17
              obtain rfl := Option.some.inj H
              go_wp2
              go_ret
              exact ⟨by first | rfl | (simp [errW_none, errW_some] <;> rfl) | (simp [*, errW_none, errW_some] <;> rfl), by repeat (first | (with_reducible first | exact HB.out | apply below_alloc | apply pw_below_drewN | apply below_drew1 | refine below_set ?_ GE125.out | refine below_set ?_ GE130.out) | exact HB.out)⟩

end Go.Proofs.Ytngmjmcamkfopaa.A
