/- Each function's own law: what the call answers, as a plain Lean function; a text that a program of this session wrote. -/
import Derived.Test.YtnmcnailgdcmoaaBx0
import Derived.Test.YtnmcnailgdcmoaaBx3
namespace Go.Proofs.Ytnmcnailgdcmoaa.B
open Go.RowKit Go.Proofs.YtnmcnailgdcmoaaW.PrintWords Go.Proofs.YtnmcnailgdcmoaaW.PrintLast Go.Proofs.YtnmcnailgdcmoaaW.PrintMore
attribute [local go_sem] max2_int min2_int max_two min_two max_three min_three max_four min_four   -- for this text's walks alone
set_option linter.unusedVariables false
set_option linter.unusedSimpArgs false

/-! ### track_Step: function 14 -/
mutual
def track_Step.j0 : Nat → Bool → Bool → Int → Int → Bool → Int → Int → Bool → Bool → Int → Bool → Bool → Bool → Int → Int → Int → Int → Int → Int → Int → Option (Bool × Int × Int × Bool × Int × Int × Bool × Bool × Int × Bool × Bool)
  | 0, _, _, _, _, _, _, _, _, _, _, _, _, _, _, _, _, _, _, _, _ => none
  | k + 1, x3, x126000, x126001, x126002, x126003, x126004, x126005, x126006, x126007, x126008, x126009, x126010, x127000, x127001, x127002, x127003, x127004, x128000, x128001, x128002 => if x3 = true then ((track_forgot.f x126000 x126001 x126002 x126003 x126004 x126005 x126006 x126007 x126008 x126009 x126010).bind fun bt140 => (track_Step.j1 k bt140.1 bt140.2.1 bt140.2.2.1 bt140.2.2.2.1 bt140.2.2.2.2.1 bt140.2.2.2.2.2.1 bt140.2.2.2.2.2.2.1 bt140.2.2.2.2.2.2.2.1 bt140.2.2.2.2.2.2.2.2.1 bt140.2.2.2.2.2.2.2.2.2.1 bt140.2.2.2.2.2.2.2.2.2.2 x127000 x127001 x127002 x127003 x127004 x128000 x128001 x128002)) else (track_Step.j1 k x126000 x126001 x126002 x126003 x126004 x126005 x126006 x126007 x126008 x126009 x126010 x127000 x127001 x127002 x127003 x127004 x128000 x128001 x128002)
def track_Step.j1 : Nat → Bool → Int → Int → Bool → Int → Int → Bool → Bool → Int → Bool → Bool → Bool → Int → Int → Int → Int → Int → Int → Int → Option (Bool × Int × Int × Bool × Int × Int × Bool × Bool × Int × Bool × Bool)
  | 0, _, _, _, _, _, _, _, _, _, _, _, _, _, _, _, _, _, _, _ => none
  | k + 1, x126000, x126001, x126002, x126003, x126004, x126005, x126006, x126007, x126008, x126009, x126010, x127000, x127001, x127002, x127003, x127004, x128000, x128001, x128002 => if x127000 = true then (if x126003 = true then (track_Step.j2 k x126000 x126001 x126002 x126003 x126004 x126005 x126006 x126007 x126008 true x126010 x127000 x127001 x127002 x127003 x127004 x128000 x128001 x128002) else (track_Step.j2 k x126000 x126001 x126002 x126003 x126004 x126005 x126006 x126007 x126008 x126006 x126010 x127000 x127001 x127002 x127003 x127004 x128000 x128001 x128002)) else (track_Step.j2 k x126000 x126001 x126002 x126003 x126004 x126005 x126006 x126007 x126008 true x126010 x127000 x127001 x127002 x127003 x127004 x128000 x128001 x128002)
def track_Step.j2 : Nat → Bool → Int → Int → Bool → Int → Int → Bool → Bool → Int → Bool → Bool → Bool → Int → Int → Int → Int → Int → Int → Int → Option (Bool × Int × Int × Bool × Int × Int × Bool × Bool × Int × Bool × Bool)
  | 0, _, _, _, _, _, _, _, _, _, _, _, _, _, _, _, _, _, _, _ => none
  | k + 1, x126000, x126001, x126002, x126003, x126004, x126005, x126006, x126007, x126008, x126009, x126010, x127000, x127001, x127002, x127003, x127004, x128000, x128001, x128002 => if x126009 = true then (track_Step.j3 k x126000 x126001 x126002 x126003 x126004 x126005 x126006 false x126008 x126009 x126010 x127000 x127001 x127002 x127003 x127004 x128000 x128001 x128002) else ((axle_Clear.f x126000 x126001 x126002 x126003).bind fun t151 => (if t151 = true then ((pair_Rest.f x126004 x126005 x126006).bind fun t152 => (track_Step.j3 k x126000 x126001 x126002 x126003 x126004 x126005 x126006 t152 x126008 x126009 x126010 x127000 x127001 x127002 x127003 x127004 x128000 x128001 x128002)) else (track_Step.j3 k x126000 x126001 x126002 x126003 x126004 x126005 x126006 false x126008 x126009 x126010 x127000 x127001 x127002 x127003 x127004 x128000 x128001 x128002)))
def track_Step.j3 : Nat → Bool → Int → Int → Bool → Int → Int → Bool → Bool → Int → Bool → Bool → Bool → Int → Int → Int → Int → Int → Int → Int → Option (Bool × Int × Int × Bool × Int × Int × Bool × Bool × Int × Bool × Bool)
  | 0, _, _, _, _, _, _, _, _, _, _, _, _, _, _, _, _, _, _, _ => none
  | k + 1, x126000, x126001, x126002, x126003, x126004, x126005, x126006, x126007, x126008, x126009, x126010, x127000, x127001, x127002, x127003, x127004, x128000, x128001, x128002 => if x126007 = true then (some (x126000, x126001, x126002, x126003, x126004, x126005, x126006, x126007, 0, x126009, false)) else (if x127003 ≥ 0 then (if x127003 < 3 then (if x127003 = 0 then (if x126009 = true then (some (x126000, x126001, x126002, x126003, x126004, x126005, x126006, x126007, (mn (mx x126008 0) 1073741823) + 1, x126009, true)) else (some (x126000, x126001, x126002, x126003, x126004, x126005, x126006, x126007, (mn (mx x126008 0) 1073741823) + 1, x126009, decide (((mn (mx x126008 0) 1073741823) + 1) > x128000)))) else (if x127003 = 1 then (if x126009 = true then (some (x126000, x126001, x126002, x126003, x126004, x126005, x126006, x126007, (mn (mx x126008 0) 1073741823) + 1, x126009, true)) else (some (x126000, x126001, x126002, x126003, x126004, x126005, x126006, x126007, (mn (mx x126008 0) 1073741823) + 1, x126009, decide (((mn (mx x126008 0) 1073741823) + 1) > x128001)))) else (if x127003 = 2 then (if x126009 = true then (some (x126000, x126001, x126002, x126003, x126004, x126005, x126006, x126007, (mn (mx x126008 0) 1073741823) + 1, x126009, true)) else (some (x126000, x126001, x126002, x126003, x126004, x126005, x126006, x126007, (mn (mx x126008 0) 1073741823) + 1, x126009, decide (((mn (mx x126008 0) 1073741823) + 1) > x128002)))) else (none)))) else (if x126009 = true then (some (x126000, x126001, x126002, x126003, x126004, x126005, x126006, x126007, (mn (mx x126008 0) 1073741823) + 1, x126009, true)) else (some (x126000, x126001, x126002, x126003, x126004, x126005, x126006, x126007, (mn (mx x126008 0) 1073741823) + 1, x126009, decide (((mn (mx x126008 0) 1073741823) + 1) > 0))))) else (if x126009 = true then (some (x126000, x126001, x126002, x126003, x126004, x126005, x126006, x126007, (mn (mx x126008 0) 1073741823) + 1, x126009, true)) else (some (x126000, x126001, x126002, x126003, x126004, x126005, x126006, x126007, (mn (mx x126008 0) 1073741823) + 1, x126009, decide (((mn (mx x126008 0) 1073741823) + 1) > 0)))))
end
def track_Step.f (k : Nat) (a0_0 : Bool) (a0_1 : Int) (a0_2 : Int) (a0_3 : Bool) (a0_4 : Int) (a0_5 : Int) (a0_6 : Bool) (a0_7 : Bool) (a0_8 : Int) (a0_9 : Bool) (a0_10 : Bool) (a1_0 : Bool) (a1_1 : Int) (a1_2 : Int) (a1_3 : Int) (a1_4 : Int) (a2_0 : Int) (a2_1 : Int) (a2_2 : Int) (a3 : Bool) : Option (Bool × Int × Int × Bool × Int × Int × Bool × Bool × Int × Bool × Bool) := if a1_0 = true then ((track_told.f a0_0 a0_1 a0_2 a0_3 a0_4 a0_5 a0_6 a0_7 a0_8 a0_9 a0_10 a1_0 a1_1 a1_2 a1_3 a1_4).bind fun bt129 => (track_Step.j0 k a3 bt129.1 bt129.2.1 bt129.2.2.1 bt129.2.2.2.1 bt129.2.2.2.2.1 bt129.2.2.2.2.2.1 bt129.2.2.2.2.2.2.1 bt129.2.2.2.2.2.2.2.1 bt129.2.2.2.2.2.2.2.2.1 bt129.2.2.2.2.2.2.2.2.2.1 bt129.2.2.2.2.2.2.2.2.2.2 a1_0 a1_1 a1_2 a1_3 a1_4 a2_0 a2_1 a2_2)) else (track_Step.j0 k a3 a0_0 a0_1 a0_2 a0_3 a0_4 a0_5 a0_6 a0_7 a0_8 a0_9 a0_10 a1_0 a1_1 a1_2 a1_3 a1_4 a2_0 a2_1 a2_2)
theorem track_Step.mono_l : ∀ k, (∀ y0 y1 y2 y3 y4 y5 y6 y7 y8 y9 y10 y11 y12 y13 y14 y15 y16 y17 y18 y19, LeO (track_Step.j0 k y0 y1 y2 y3 y4 y5 y6 y7 y8 y9 y10 y11 y12 y13 y14 y15 y16 y17 y18 y19) (track_Step.j0 (k + 1) y0 y1 y2 y3 y4 y5 y6 y7 y8 y9 y10 y11 y12 y13 y14 y15 y16 y17 y18 y19)) ∧ (∀ y0 y1 y2 y3 y4 y5 y6 y7 y8 y9 y10 y11 y12 y13 y14 y15 y16 y17 y18, LeO (track_Step.j1 k y0 y1 y2 y3 y4 y5 y6 y7 y8 y9 y10 y11 y12 y13 y14 y15 y16 y17 y18) (track_Step.j1 (k + 1) y0 y1 y2 y3 y4 y5 y6 y7 y8 y9 y10 y11 y12 y13 y14 y15 y16 y17 y18)) ∧ (∀ y0 y1 y2 y3 y4 y5 y6 y7 y8 y9 y10 y11 y12 y13 y14 y15 y16 y17 y18, LeO (track_Step.j2 k y0 y1 y2 y3 y4 y5 y6 y7 y8 y9 y10 y11 y12 y13 y14 y15 y16 y17 y18) (track_Step.j2 (k + 1) y0 y1 y2 y3 y4 y5 y6 y7 y8 y9 y10 y11 y12 y13 y14 y15 y16 y17 y18)) ∧ (∀ y0 y1 y2 y3 y4 y5 y6 y7 y8 y9 y10 y11 y12 y13 y14 y15 y16 y17 y18, LeO (track_Step.j3 k y0 y1 y2 y3 y4 y5 y6 y7 y8 y9 y10 y11 y12 y13 y14 y15 y16 y17 y18) (track_Step.j3 (k + 1) y0 y1 y2 y3 y4 y5 y6 y7 y8 y9 y10 y11 y12 y13 y14 y15 y16 y17 y18))
  | 0 => ⟨fun _ _ _ _ _ _ _ _ _ _ _ _ _ _ _ _ _ _ _ _ r h => by simp [track_Step.j0] at h, fun _ _ _ _ _ _ _ _ _ _ _ _ _ _ _ _ _ _ _ r h => by simp [track_Step.j1] at h, fun _ _ _ _ _ _ _ _ _ _ _ _ _ _ _ _ _ _ _ r h => by simp [track_Step.j2] at h, fun _ _ _ _ _ _ _ _ _ _ _ _ _ _ _ _ _ _ _ r h => by simp [track_Step.j3] at h⟩
  | k + 1 => by
    obtain ⟨ih0, ih1, ih2, ih3⟩ := track_Step.mono_l k
    refine ⟨?_, ?_, ?_, ?_⟩
    · intro y0 y1 y2 y3 y4 y5 y6 y7 y8 y9 y10 y11 y12 y13 y14 y15 y16 y17 y18 y19
      unfold track_Step.j0
      repeat' first
      | (with_reducible exact ih0 _ _ _ _ _ _ _ _ _ _ _ _ _ _ _ _ _ _ _ _)
      | (with_reducible exact ih1 _ _ _ _ _ _ _ _ _ _ _ _ _ _ _ _ _ _ _)
      | (with_reducible exact ih2 _ _ _ _ _ _ _ _ _ _ _ _ _ _ _ _ _ _ _)
      | (with_reducible exact ih3 _ _ _ _ _ _ _ _ _ _ _ _ _ _ _ _ _ _ _)
      | (with_reducible exact LeO.refl _)
      | (with_reducible exact LeO.none _)
      | (with_reducible refine LeO.ite ?_ ?_)
      | (with_reducible refine LeO.bind ?_ (fun _ => ?_))
      | exact ih0 _ _ _ _ _ _ _ _ _ _ _ _ _ _ _ _ _ _ _ _
      | exact ih1 _ _ _ _ _ _ _ _ _ _ _ _ _ _ _ _ _ _ _
      | exact ih2 _ _ _ _ _ _ _ _ _ _ _ _ _ _ _ _ _ _ _
      | exact ih3 _ _ _ _ _ _ _ _ _ _ _ _ _ _ _ _ _ _ _
      | exact LeO.none _
      | refine LeO.ite ?_ ?_
      | refine LeO.bind ?_ (fun _ => ?_)
    · intro y0 y1 y2 y3 y4 y5 y6 y7 y8 y9 y10 y11 y12 y13 y14 y15 y16 y17 y18
      unfold track_Step.j1
      repeat' first
      | (with_reducible exact ih0 _ _ _ _ _ _ _ _ _ _ _ _ _ _ _ _ _ _ _ _)
      | (with_reducible exact ih1 _ _ _ _ _ _ _ _ _ _ _ _ _ _ _ _ _ _ _)
      | (with_reducible exact ih2 _ _ _ _ _ _ _ _ _ _ _ _ _ _ _ _ _ _ _)
      | (with_reducible exact ih3 _ _ _ _ _ _ _ _ _ _ _ _ _ _ _ _ _ _ _)
      | (with_reducible exact LeO.refl _)
      | (with_reducible exact LeO.none _)
      | (with_reducible refine LeO.ite ?_ ?_)
      | (with_reducible refine LeO.bind ?_ (fun _ => ?_))
      | exact ih0 _ _ _ _ _ _ _ _ _ _ _ _ _ _ _ _ _ _ _ _
      | exact ih1 _ _ _ _ _ _ _ _ _ _ _ _ _ _ _ _ _ _ _
      | exact ih2 _ _ _ _ _ _ _ _ _ _ _ _ _ _ _ _ _ _ _
      | exact ih3 _ _ _ _ _ _ _ _ _ _ _ _ _ _ _ _ _ _ _
      | exact LeO.none _
      | refine LeO.ite ?_ ?_
      | refine LeO.bind ?_ (fun _ => ?_)
    · intro y0 y1 y2 y3 y4 y5 y6 y7 y8 y9 y10 y11 y12 y13 y14 y15 y16 y17 y18
      unfold track_Step.j2
      repeat' first
      | (with_reducible exact ih0 _ _ _ _ _ _ _ _ _ _ _ _ _ _ _ _ _ _ _ _)
      | (with_reducible exact ih1 _ _ _ _ _ _ _ _ _ _ _ _ _ _ _ _ _ _ _)
      | (with_reducible exact ih2 _ _ _ _ _ _ _ _ _ _ _ _ _ _ _ _ _ _ _)
      | (with_reducible exact ih3 _ _ _ _ _ _ _ _ _ _ _ _ _ _ _ _ _ _ _)
      | (with_reducible exact LeO.refl _)
      | (with_reducible exact LeO.none _)
      | (with_reducible refine LeO.ite ?_ ?_)
      | (with_reducible refine LeO.bind ?_ (fun _ => ?_))
      | exact ih0 _ _ _ _ _ _ _ _ _ _ _ _ _ _ _ _ _ _ _ _
      | exact ih1 _ _ _ _ _ _ _ _ _ _ _ _ _ _ _ _ _ _ _
      | exact ih2 _ _ _ _ _ _ _ _ _ _ _ _ _ _ _ _ _ _ _
      | exact ih3 _ _ _ _ _ _ _ _ _ _ _ _ _ _ _ _ _ _ _
      | exact LeO.none _
      | refine LeO.ite ?_ ?_
      | refine LeO.bind ?_ (fun _ => ?_)
    · intro y0 y1 y2 y3 y4 y5 y6 y7 y8 y9 y10 y11 y12 y13 y14 y15 y16 y17 y18
      unfold track_Step.j3
      repeat' first
      | (with_reducible exact ih0 _ _ _ _ _ _ _ _ _ _ _ _ _ _ _ _ _ _ _ _)
      | (with_reducible exact ih1 _ _ _ _ _ _ _ _ _ _ _ _ _ _ _ _ _ _ _)
      | (with_reducible exact ih2 _ _ _ _ _ _ _ _ _ _ _ _ _ _ _ _ _ _ _)
      | (with_reducible exact ih3 _ _ _ _ _ _ _ _ _ _ _ _ _ _ _ _ _ _ _)
      | (with_reducible exact LeO.refl _)
      | (with_reducible exact LeO.none _)
      | (with_reducible refine LeO.ite ?_ ?_)
      | (with_reducible refine LeO.bind ?_ (fun _ => ?_))
      | exact ih0 _ _ _ _ _ _ _ _ _ _ _ _ _ _ _ _ _ _ _ _
      | exact ih1 _ _ _ _ _ _ _ _ _ _ _ _ _ _ _ _ _ _ _
      | exact ih2 _ _ _ _ _ _ _ _ _ _ _ _ _ _ _ _ _ _ _
      | exact ih3 _ _ _ _ _ _ _ _ _ _ _ _ _ _ _ _ _ _ _
      | exact LeO.none _
      | refine LeO.ite ?_ ?_
      | refine LeO.bind ?_ (fun _ => ?_)
theorem track_Step.mono : ∀ a0 a1 a2 a3 a4 a5 a6 a7 a8 a9 a10 a11 a12 a13 a14 a15 a16 a17 a18 a19 k, LeO (track_Step.f k a0 a1 a2 a3 a4 a5 a6 a7 a8 a9 a10 a11 a12 a13 a14 a15 a16 a17 a18 a19) (track_Step.f (k + 1) a0 a1 a2 a3 a4 a5 a6 a7 a8 a9 a10 a11 a12 a13 a14 a15 a16 a17 a18 a19) := by
  intro a0 a1 a2 a3 a4 a5 a6 a7 a8 a9 a10 a11 a12 a13 a14 a15 a16 a17 a18 a19 k
  obtain ⟨ih0, ih1, ih2, ih3⟩ := track_Step.mono_l k
  unfold track_Step.f
  repeat' first
      | (with_reducible exact ih0 _ _ _ _ _ _ _ _ _ _ _ _ _ _ _ _ _ _ _ _)
      | (with_reducible exact ih1 _ _ _ _ _ _ _ _ _ _ _ _ _ _ _ _ _ _ _)
      | (with_reducible exact ih2 _ _ _ _ _ _ _ _ _ _ _ _ _ _ _ _ _ _ _)
      | (with_reducible exact ih3 _ _ _ _ _ _ _ _ _ _ _ _ _ _ _ _ _ _ _)
      | (with_reducible exact LeO.refl _)
      | (with_reducible exact LeO.none _)
      | (with_reducible refine LeO.ite ?_ ?_)
      | (with_reducible refine LeO.bind ?_ (fun _ => ?_))
      | exact ih0 _ _ _ _ _ _ _ _ _ _ _ _ _ _ _ _ _ _ _ _
      | exact ih1 _ _ _ _ _ _ _ _ _ _ _ _ _ _ _ _ _ _ _
      | exact ih2 _ _ _ _ _ _ _ _ _ _ _ _ _ _ _ _ _ _ _
      | exact ih3 _ _ _ _ _ _ _ _ _ _ _ _ _ _ _ _ _ _ _
      | exact LeO.none _
      | refine LeO.ite ?_ ?_
      | refine LeO.bind ?_ (fun _ => ?_)
set_option maxHeartbeats 8000000 in
set_option maxRecDepth 100000 in
theorem track_Step.calls (k : Nat) (a0_0 : Bool) (a0_1 : Int) (a0_2 : Int) (a0_3 : Bool) (a0_4 : Int) (a0_5 : Int) (a0_6 : Bool) (a0_7 : Bool) (a0_8 : Int) (a0_9 : Bool) (a0_10 : Bool) (a1_0 : Bool) (a1_1 : Int) (a1_2 : Int) (a1_3 : Int) (a1_4 : Int) (a2_0 : Int) (a2_1 : Int) (a2_2 : Int) (a3 : Bool) (r1 : Bool) (r2 : Int) (r3 : Int) (r4 : Bool) (r5 : Int) (r6 : Int) (r7 : Bool) (r8 : Bool) (r9 : Int) (r10 : Bool) (r11 : Bool) (w : World) (h : track_Step.f k a0_0 a0_1 a0_2 a0_3 a0_4 a0_5 a0_6 a0_7 a0_8 a0_9 a0_10 a1_0 a1_1 a1_2 a1_3 a1_4 a2_0 a2_1 a2_2 a3 = some (r1, r2, r3, r4, r5, r6, r7, r8, r9, r10, r11)) :
    Calls Try.prog 14 #[.agg #[.bool a0_0, .int .i64 a0_1, .int .i64 a0_2, .bool a0_3, .int .i64 a0_4, .int .i64 a0_5, .bool a0_6, .bool a0_7, .int .i64 a0_8, .bool a0_9, .bool a0_10], .agg #[.bool a1_0, .int .i64 a1_1, .int .i64 a1_2, .int .i64 a1_3, .int .i64 a1_4], .agg #[.int .i64 a2_0, .int .i64 a2_1, .int .i64 a2_2], .bool a3] w fun e w' => e = .returned (.agg #[.bool r1, .int .i64 r2, .int .i64 r3, .bool r4, .int .i64 r5, .int .i64 r6, .bool r7, .bool r8, .int .i64 r9, .bool r10, .bool r11]) ∧ Below w.heap.size w w' := by
  have hu31 := Try.underlying31
  have hu34 := Try.underlying34
  have hu23 := Try.underlying23
  have hu27 := Try.underlying27
  have hu29 := Try.underlying29
  have HB := Aside0.mk (Below.refl w.heap.size w)
  have H : (if a1_0 = true then ((track_told.f a0_0 a0_1 a0_2 a0_3 a0_4 a0_5 a0_6 a0_7 a0_8 a0_9 a0_10 a1_0 a1_1 a1_2 a1_3 a1_4).bind fun bt129 => (track_Step.j0 k a3 bt129.1 bt129.2.1 bt129.2.2.1 bt129.2.2.2.1 bt129.2.2.2.2.1 bt129.2.2.2.2.2.1 bt129.2.2.2.2.2.2.1 bt129.2.2.2.2.2.2.2.1 bt129.2.2.2.2.2.2.2.2.1 bt129.2.2.2.2.2.2.2.2.2.1 bt129.2.2.2.2.2.2.2.2.2.2 a1_0 a1_1 a1_2 a1_3 a1_4 a2_0 a2_1 a2_2)) else (track_Step.j0 k a3 a0_0 a0_1 a0_2 a0_3 a0_4 a0_5 a0_6 a0_7 a0_8 a0_9 a0_10 a1_0 a1_1 a1_2 a1_3 a1_4 a2_0 a2_1 a2_2)) = some (r1, r2, r3, r4, r5, r6, r7, r8, r9, r10, r11) := h
  clear h
  have HC5 := Aside0.mk H
  clear H
  go_enter Try.func14, Try.ntmps14
  go_upto_if 11 with (first | ((with_reducible refine gate_dst (N := 4) rfl ?_); refine box_event ?hg (N := 4) ?hd (cs := #[.bool a0_0, .int .i64 a0_1, .int .i64 a0_2, .bool a0_3, .int .i64 a0_4, .int .i64 a0_5, .bool a0_6, .bool a0_7, .int .i64 a0_8, .bool a0_9, .bool a0_10]) (t := 31) ?hr ?_; (case hd => rfl); (case hg => rfl); (case hr => first | (go_simp; done) | (go_simp; rfl)); intro gb125 hg w6 hbox hb; have n0_ := Aside0.mk (below_step (by repeat (first | (with_reducible first | exact HB.out | apply below_alloc | apply pw_below_drewN | apply below_drew1) | exact HB.out)) hb); have n1_ := Aside0.mk (hbox); have n2_ := Aside0.mk ((by rw [hg]; exact (below_size (by repeat (first | (with_reducible first | exact HB.out | apply below_alloc | apply pw_below_drewN | apply below_drew1) | exact HB.out))) : w.heap.size ≤ gb125)); have n3_ := Aside0.mk ((by rw [hg]; exact (below_size (by repeat (first | (with_reducible first | exact HB.out | apply below_alloc | apply pw_below_drewN | apply below_drew1) | exact HB.out))) : w.heap.size ≤ gb125)); clear HB; have HB := n0_; have BK125 := n1_; have GW125 := n2_; have GE125 := n3_; clear n0_ n1_ n2_ n3_; clear hb hbox hg) | ((with_reducible refine gate_dst (N := 5) rfl ?_); refine box_event ?hg (N := 5) ?hd (cs := #[.bool a1_0, .int .i64 a1_1, .int .i64 a1_2, .int .i64 a1_3, .int .i64 a1_4]) (t := 34) ?hr ?_; (case hd => rfl); (case hg => rfl); (case hr => first | (go_simp; done) | (go_simp; rfl)); intro gb126 hg w7 hbox hb; have n0_ := Aside0.mk (blk_below (g := gb125) (o := .cells #[.bool a0_0, .int .i64 a0_1, .int .i64 a0_2, .bool a0_3, .int .i64 a0_4, .int .i64 a0_5, .bool a0_6, .bool a0_7, .int .i64 a0_8, .bool a0_9, .bool a0_10] 31 (0, 0)) (by (with_reducible repeat (first | refine blk_drewN ?_ _ | refine blk_drew ?_ | refine blk_alloc ?_ _)); exact BK125.out) hb); have n1_ := Aside0.mk (below_step (by repeat (first | (with_reducible first | exact HB.out | apply below_alloc | apply pw_below_drewN | apply below_drew1 | refine below_set ?_ GE125.out) | exact HB.out)) hb); have n2_ := Aside0.mk (hbox); have n3_ := Aside0.mk ((by rw [hg]; exact (below_size (by repeat (first | (with_reducible first | exact HB.out | apply below_alloc | apply pw_below_drewN | apply below_drew1 | refine below_set ?_ GE125.out) | exact HB.out))) : w.heap.size ≤ gb126)); have n4_ := Aside0.mk ((by rw [hg]; exact (below_size (by repeat (first | (with_reducible first | exact HB.out | apply below_alloc | apply pw_below_drewN | apply below_drew1 | refine below_set ?_ GE125.out) | exact HB.out))) : w.heap.size ≤ gb126)); have n5_ := Aside0.mk ((by rw [hg]; exact Nat.ne_of_lt (blk_lt (g := gb125) (o := .cells #[.bool a0_0, .int .i64 a0_1, .int .i64 a0_2, .bool a0_3, .int .i64 a0_4, .int .i64 a0_5, .bool a0_6, .bool a0_7, .int .i64 a0_8, .bool a0_9, .bool a0_10] 31 (0, 0)) (by (with_reducible repeat (first | refine blk_drewN ?_ _ | refine blk_drew ?_ | refine blk_alloc ?_ _)); exact BK125.out)) : gb125 ≠ gb126)); have n6_ := Aside0.mk ((by rw [hg]; exact Nat.ne_of_gt (blk_lt (g := gb125) (o := .cells #[.bool a0_0, .int .i64 a0_1, .int .i64 a0_2, .bool a0_3, .int .i64 a0_4, .int .i64 a0_5, .bool a0_6, .bool a0_7, .int .i64 a0_8, .bool a0_9, .bool a0_10] 31 (0, 0)) (by (with_reducible repeat (first | refine blk_drewN ?_ _ | refine blk_drew ?_ | refine blk_alloc ?_ _)); exact BK125.out)) : gb126 ≠ gb125)); clear BK125; clear HB; have BK125 := n0_; have HB := n1_; have BK126 := n2_; have GW126 := n3_; have GE126 := n4_; have NB125_126 := n5_; have NB126_125 := n6_; clear n0_ n1_ n2_ n3_ n4_ n5_ n6_; clear hb hbox hg) | ((with_reducible refine gate_dst (N := 6) rfl ?_); refine box_event ?hg (N := 6) ?hd (cs := #[.int .i64 a2_0, .int .i64 a2_1, .int .i64 a2_2]) (t := 23) ?hr ?_; (case hd => rfl); (case hg => rfl); (case hr => first | (go_simp; done) | (go_simp; rfl)); intro gb127 hg w8 hbox hb; have n0_ := Aside0.mk (blk_below (g := gb125) (o := .cells #[.bool a0_0, .int .i64 a0_1, .int .i64 a0_2, .bool a0_3, .int .i64 a0_4, .int .i64 a0_5, .bool a0_6, .bool a0_7, .int .i64 a0_8, .bool a0_9, .bool a0_10] 31 (0, 0)) (by (with_reducible repeat (first | refine blk_drewN ?_ _ | refine blk_drew ?_ | refine blk_alloc ?_ _)); exact BK125.out) hb); have n1_ := Aside0.mk (blk_below (g := gb126) (o := .cells #[.bool a1_0, .int .i64 a1_1, .int .i64 a1_2, .int .i64 a1_3, .int .i64 a1_4] 34 (0, 0)) (by (with_reducible repeat (first | refine blk_drewN ?_ _ | refine blk_drew ?_ | refine blk_alloc ?_ _)); exact BK126.out) hb); have n2_ := Aside0.mk (below_step (by repeat (first | (with_reducible first | exact HB.out | apply below_alloc | apply pw_below_drewN | apply below_drew1 | refine below_set ?_ GE125.out | refine below_set ?_ GE126.out) | exact HB.out)) hb); have n3_ := Aside0.mk (hbox); have n4_ := Aside0.mk ((by rw [hg]; exact (below_size (by repeat (first | (with_reducible first | exact HB.out | apply below_alloc | apply pw_below_drewN | apply below_drew1 | refine below_set ?_ GE125.out | refine below_set ?_ GE126.out) | exact HB.out))) : w.heap.size ≤ gb127)); have n5_ := Aside0.mk ((by rw [hg]; exact (below_size (by repeat (first | (with_reducible first | exact HB.out | apply below_alloc | apply pw_below_drewN | apply below_drew1 | refine below_set ?_ GE125.out | refine below_set ?_ GE126.out) | exact HB.out))) : w.heap.size ≤ gb127)); have n6_ := Aside0.mk ((by rw [hg]; exact Nat.ne_of_lt (blk_lt (g := gb125) (o := .cells #[.bool a0_0, .int .i64 a0_1, .int .i64 a0_2, .bool a0_3, .int .i64 a0_4, .int .i64 a0_5, .bool a0_6, .bool a0_7, .int .i64 a0_8, .bool a0_9, .bool a0_10] 31 (0, 0)) (by (with_reducible repeat (first | refine blk_drewN ?_ _ | refine blk_drew ?_ | refine blk_alloc ?_ _)); exact BK125.out)) : gb125 ≠ gb127)); have n7_ := Aside0.mk ((by rw [hg]; exact Nat.ne_of_gt (blk_lt (g := gb125) (o := .cells #[.bool a0_0, .int .i64 a0_1, .int .i64 a0_2, .bool a0_3, .int .i64 a0_4, .int .i64 a0_5, .bool a0_6, .bool a0_7, .int .i64 a0_8, .bool a0_9, .bool a0_10] 31 (0, 0)) (by (with_reducible repeat (first | refine blk_drewN ?_ _ | refine blk_drew ?_ | refine blk_alloc ?_ _)); exact BK125.out)) : gb127 ≠ gb125)); have n8_ := Aside0.mk ((by rw [hg]; exact Nat.ne_of_lt (blk_lt (g := gb126) (o := .cells #[.bool a1_0, .int .i64 a1_1, .int .i64 a1_2, .int .i64 a1_3, .int .i64 a1_4] 34 (0, 0)) (by (with_reducible repeat (first | refine blk_drewN ?_ _ | refine blk_drew ?_ | refine blk_alloc ?_ _)); exact BK126.out)) : gb126 ≠ gb127)); have n9_ := Aside0.mk ((by rw [hg]; exact Nat.ne_of_gt (blk_lt (g := gb126) (o := .cells #[.bool a1_0, .int .i64 a1_1, .int .i64 a1_2, .int .i64 a1_3, .int .i64 a1_4] 34 (0, 0)) (by (with_reducible repeat (first | refine blk_drewN ?_ _ | refine blk_drew ?_ | refine blk_alloc ?_ _)); exact BK126.out)) : gb127 ≠ gb126)); clear BK125; clear BK126; clear HB; have BK125 := n0_; have BK126 := n1_; have HB := n2_; have BK127 := n3_; have GW127 := n4_; have GE127 := n5_; have NB125_127 := n6_; have NB127_125 := n7_; have NB126_127 := n8_; have NB127_126 := n9_; clear n0_ n1_ n2_ n3_ n4_ n5_ n6_ n7_ n8_ n9_; clear hb hbox hg) | ((with_reducible refine gate_dst (N := 8) rfl ?_); refine box_event ?hg (N := 8) ?hd (cs := #[.bool false, .int .i64 0, .int .i64 0, .bool false, .int .i64 0, .int .i64 0, .bool false, .bool false, .int .i64 0, .bool false, .bool false]) (t := 31) ?hr ?_; (case hd => rfl); (case hg => rfl); (case hr => first | (go_simp; done) | (go_simp; rfl)); intro gb128 hg w9 hbox hb; have n0_ := Aside0.mk (blk_below (g := gb125) (o := .cells #[.bool a0_0, .int .i64 a0_1, .int .i64 a0_2, .bool a0_3, .int .i64 a0_4, .int .i64 a0_5, .bool a0_6, .bool a0_7, .int .i64 a0_8, .bool a0_9, .bool a0_10] 31 (0, 0)) (by (with_reducible repeat (first | refine blk_drewN ?_ _ | refine blk_drew ?_ | refine blk_alloc ?_ _)); exact BK125.out) hb); have n1_ := Aside0.mk (blk_below (g := gb126) (o := .cells #[.bool a1_0, .int .i64 a1_1, .int .i64 a1_2, .int .i64 a1_3, .int .i64 a1_4] 34 (0, 0)) (by (with_reducible repeat (first | refine blk_drewN ?_ _ | refine blk_drew ?_ | refine blk_alloc ?_ _)); exact BK126.out) hb); have n2_ := Aside0.mk (blk_below (g := gb127) (o := .cells #[.int .i64 a2_0, .int .i64 a2_1, .int .i64 a2_2] 23 (0, 0)) (by (with_reducible repeat (first | refine blk_drewN ?_ _ | refine blk_drew ?_ | refine blk_alloc ?_ _)); exact BK127.out) hb); have n3_ := Aside0.mk (below_step (by repeat (first | (with_reducible first | exact HB.out | apply below_alloc | apply pw_below_drewN | apply below_drew1 | refine below_set ?_ GE125.out | refine below_set ?_ GE126.out | refine below_set ?_ GE127.out) | exact HB.out)) hb); have n4_ := Aside0.mk (hbox); have n5_ := Aside0.mk ((by rw [hg]; exact (below_size (by repeat (first | (with_reducible first | exact HB.out | apply below_alloc | apply pw_below_drewN | apply below_drew1 | refine below_set ?_ GE125.out | refine below_set ?_ GE126.out | refine below_set ?_ GE127.out) | exact HB.out))) : w.heap.size ≤ gb128)); have n6_ := Aside0.mk ((by rw [hg]; exact (below_size (by repeat (first | (with_reducible first | exact HB.out | apply below_alloc | apply pw_below_drewN | apply below_drew1 | refine below_set ?_ GE125.out | refine below_set ?_ GE126.out | refine below_set ?_ GE127.out) | exact HB.out))) : w.heap.size ≤ gb128)); have n7_ := Aside0.mk ((by rw [hg]; exact Nat.ne_of_lt (blk_lt (g := gb125) (o := .cells #[.bool a0_0, .int .i64 a0_1, .int .i64 a0_2, .bool a0_3, .int .i64 a0_4, .int .i64 a0_5, .bool a0_6, .bool a0_7, .int .i64 a0_8, .bool a0_9, .bool a0_10] 31 (0, 0)) (by (with_reducible repeat (first | refine blk_drewN ?_ _ | refine blk_drew ?_ | refine blk_alloc ?_ _)); exact BK125.out)) : gb125 ≠ gb128)); have n8_ := Aside0.mk ((by rw [hg]; exact Nat.ne_of_gt (blk_lt (g := gb125) (o := .cells #[.bool a0_0, .int .i64 a0_1, .int .i64 a0_2, .bool a0_3, .int .i64 a0_4, .int .i64 a0_5, .bool a0_6, .bool a0_7, .int .i64 a0_8, .bool a0_9, .bool a0_10] 31 (0, 0)) (by (with_reducible repeat (first | refine blk_drewN ?_ _ | refine blk_drew ?_ | refine blk_alloc ?_ _)); exact BK125.out)) : gb128 ≠ gb125)); have n9_ := Aside0.mk ((by rw [hg]; exact Nat.ne_of_lt (blk_lt (g := gb126) (o := .cells #[.bool a1_0, .int .i64 a1_1, .int .i64 a1_2, .int .i64 a1_3, .int .i64 a1_4] 34 (0, 0)) (by (with_reducible repeat (first | refine blk_drewN ?_ _ | refine blk_drew ?_ | refine blk_alloc ?_ _)); exact BK126.out)) : gb126 ≠ gb128)); have n10_ := Aside0.mk ((by rw [hg]; exact Nat.ne_of_gt (blk_lt (g := gb126) (o := .cells #[.bool a1_0, .int .i64 a1_1, .int .i64 a1_2, .int .i64 a1_3, .int .i64 a1_4] 34 (0, 0)) (by (with_reducible repeat (first | refine blk_drewN ?_ _ | refine blk_drew ?_ | refine blk_alloc ?_ _)); exact BK126.out)) : gb128 ≠ gb126)); have n11_ := Aside0.mk ((by rw [hg]; exact Nat.ne_of_lt (blk_lt (g := gb127) (o := .cells #[.int .i64 a2_0, .int .i64 a2_1, .int .i64 a2_2] 23 (0, 0)) (by (with_reducible repeat (first | refine blk_drewN ?_ _ | refine blk_drew ?_ | refine blk_alloc ?_ _)); exact BK127.out)) : gb127 ≠ gb128)); have n12_ := Aside0.mk ((by rw [hg]; exact Nat.ne_of_gt (blk_lt (g := gb127) (o := .cells #[.int .i64 a2_0, .int .i64 a2_1, .int .i64 a2_2] 23 (0, 0)) (by (with_reducible repeat (first | refine blk_drewN ?_ _ | refine blk_drew ?_ | refine blk_alloc ?_ _)); exact BK127.out)) : gb128 ≠ gb127)); clear BK125; clear BK126; clear BK127; clear HB; have BK125 := n0_; have BK126 := n1_; have BK127 := n2_; have HB := n3_; have BK128 := n4_; have GW128 := n5_; have GE128 := n6_; have NB125_128 := n7_; have NB128_125 := n8_; have NB126_128 := n9_; have NB128_126 := n10_; have NB127_128 := n11_; have NB128_127 := n12_; clear n0_ n1_ n2_ n3_ n4_ n5_ n6_ n7_ n8_ n9_ n10_ n11_ n12_; clear hb hbox hg; have hnb10 := NB126_125.out; have hnc10 := NB125_126.out; have hnb11 := NB126_127.out; have hnc11 := NB127_126.out; have hnb12 := NB126_128.out; have hnc12 := NB128_126.out; have hcz13_0 : w9.cell? ⟨gb126, 0, none⟩ = some (.bool a1_0) := (blk_cell BK126.out 0).trans rfl; have hcz13_1 : w9.cell? ⟨gb126, 1, none⟩ = some (.int .i64 a1_1) := (blk_cell BK126.out 1).trans rfl; have hcz13_2 : w9.cell? ⟨gb126, 2, none⟩ = some (.int .i64 a1_2) := (blk_cell BK126.out 2).trans rfl; have hcz13_3 : w9.cell? ⟨gb126, 3, none⟩ = some (.int .i64 a1_3) := (blk_cell BK126.out 3).trans rfl; have hcz13_4 : w9.cell? ⟨gb126, 4, none⟩ = some (.int .i64 a1_4) := (blk_cell BK126.out 4).trans rfl; have hfz13_0 := blk_frozen BK126.out 0; have hfz13_1 := blk_frozen BK126.out 1; have hfz13_2 := blk_frozen BK126.out 2; have hfz13_3 := blk_frozen BK126.out 3; have hfz13_4 := blk_frozen BK126.out 4))
  (try simp only [Act.put, List.setIfInBounds_toArray, List.set_cons_zero, List.set_cons_succ])
  go_cut [] (fun wc => ∃ (kq : Nat) (x126000_4 : Bool) (x126001_4 : Int) (x126002_4 : Int) (x126003_4 : Bool) (x126004_4 : Int) (x126005_4 : Int) (x126006_4 : Bool) (x126007_4 : Bool) (x126008_4 : Int) (x126009_4 : Bool) (x126010_4 : Bool), Aside0 (track_Step.j0 kq a3 x126000_4 x126001_4 x126002_4 x126003_4 x126004_4 x126005_4 x126006_4 x126007_4 x126008_4 x126009_4 x126010_4 a1_0 a1_1 a1_2 a1_3 a1_4 a2_0 a2_1 a2_2 = some (r1, r2, r3, r4, r5, r6, r7, r8, r9, r10, r11)) ∧ Aside0 (kq ≤ k) ∧ Aside0 (wc.heap[gb125]? = some (.cells #[.bool x126000_4, .int .i64 x126001_4, .int .i64 x126002_4, .bool x126003_4, .int .i64 x126004_4, .int .i64 x126005_4, .bool x126006_4, .bool x126007_4, .int .i64 x126008_4, .bool x126009_4, .bool x126010_4] 31 (0, 0))) ∧ Aside0 (wc.heap[gb126]? = some (.cells #[.bool a1_0, .int .i64 a1_1, .int .i64 a1_2, .int .i64 a1_3, .int .i64 a1_4] 34 (0, 0))) ∧ Aside0 (wc.heap[gb127]? = some (.cells #[.int .i64 a2_0, .int .i64 a2_1, .int .i64 a2_2] 23 (0, 0))) ∧ Aside0 (wc.heap[gb128]? = some (.cells #[.bool false, .int .i64 0, .int .i64 0, .bool false, .int .i64 0, .int .i64 0, .bool false, .bool false, .int .i64 0, .bool false, .bool false] 31 (0, 0))) ∧ Aside0 (Below w.heap.size w wc))
  case first =>
    have H := HC5.out
    clear HC5
    by_cases c14 : a1_0 = true
    · subst c14
      have H1 : ((track_told.f a0_0 a0_1 a0_2 a0_3 a0_4 a0_5 a0_6 a0_7 a0_8 a0_9 a0_10 true a1_1 a1_2 a1_3 a1_4).bind fun bt129 => (track_Step.j0 k a3 bt129.1 bt129.2.1 bt129.2.2.1 bt129.2.2.2.1 bt129.2.2.2.2.1 bt129.2.2.2.2.2.1 bt129.2.2.2.2.2.2.1 bt129.2.2.2.2.2.2.2.1 bt129.2.2.2.2.2.2.2.2.1 bt129.2.2.2.2.2.2.2.2.2.1 bt129.2.2.2.2.2.2.2.2.2.2 true a1_1 a1_2 a1_3 a1_4 a2_0 a2_1 a2_2)) = some (r1, r2, r3, r4, r5, r6, r7, r8, r9, r10, r11) := by rw [if_pos rfl] at H; exact H
      clear H
      have H := H1
      clear H1
      replace H := Option.bind_eq_some_iff.mp H
      obtain ⟨⟨t129, t130, t131, t132, t133, t134, t135, t136, t137, t138, t139⟩, A150, H⟩ := H
      replace H : (track_Step.j0 k a3 t129 t130 t131 t132 t133 t134 t135 t136 t137 t138 t139 true a1_1 a1_2 a1_3 a1_4 a2_0 a2_1 a2_2) = some (r1, r2, r3, r4, r5, r6, r7, r8, r9, r10, r11) := H
      have A15 := Aside0.mk A150
      clear A150
      have H' := Aside0.mk H
      clear H
      have hnb16 := NB125_126.out
      have hnc16 := NB126_125.out
      have hnb17 := NB125_127.out
      have hnc17 := NB127_125.out
      have hnb18 := NB125_128.out
      have hnc18 := NB128_125.out
      have hcz19_0 : w9.cell? ⟨gb125, 0, none⟩ = some (.bool a0_0) := (blk_cell BK125.out 0).trans rfl
      have hcz19_1 : w9.cell? ⟨gb125, 1, none⟩ = some (.int .i64 a0_1) := (blk_cell BK125.out 1).trans rfl
      have hcz19_2 : w9.cell? ⟨gb125, 2, none⟩ = some (.int .i64 a0_2) := (blk_cell BK125.out 2).trans rfl
      have hcz19_3 : w9.cell? ⟨gb125, 3, none⟩ = some (.bool a0_3) := (blk_cell BK125.out 3).trans rfl
      have hcz19_4 : w9.cell? ⟨gb125, 4, none⟩ = some (.int .i64 a0_4) := (blk_cell BK125.out 4).trans rfl
      have hcz19_5 : w9.cell? ⟨gb125, 5, none⟩ = some (.int .i64 a0_5) := (blk_cell BK125.out 5).trans rfl
      have hcz19_6 : w9.cell? ⟨gb125, 6, none⟩ = some (.bool a0_6) := (blk_cell BK125.out 6).trans rfl
      have hcz19_7 : w9.cell? ⟨gb125, 7, none⟩ = some (.bool a0_7) := (blk_cell BK125.out 7).trans rfl
      have hcz19_8 : w9.cell? ⟨gb125, 8, none⟩ = some (.int .i64 a0_8) := (blk_cell BK125.out 8).trans rfl
      have hcz19_9 : w9.cell? ⟨gb125, 9, none⟩ = some (.bool a0_9) := (blk_cell BK125.out 9).trans rfl
      have hcz19_10 : w9.cell? ⟨gb125, 10, none⟩ = some (.bool a0_10) := (blk_cell BK125.out 10).trans rfl
      have hfz19_0 := blk_frozen BK125.out 0
      have hfz19_1 := blk_frozen BK125.out 1
      have hfz19_2 := blk_frozen BK125.out 2
      have hfz19_3 := blk_frozen BK125.out 3
      have hfz19_4 := blk_frozen BK125.out 4
      have hfz19_5 := blk_frozen BK125.out 5
      have hfz19_6 := blk_frozen BK125.out 6
      have hfz19_7 := blk_frozen BK125.out 7
      have hfz19_8 := blk_frozen BK125.out 8
      have hfz19_9 := blk_frozen BK125.out 9
      have hfz19_10 := blk_frozen BK125.out 10
      have hnb20 := NB126_127.out
      have hnc20 := NB127_126.out
      have hnb21 := NB126_128.out
      have hnc21 := NB128_126.out
      have hcz22_0 : w9.cell? ⟨gb126, 0, none⟩ = some (.bool true) := (blk_cell BK126.out 0).trans rfl
      have hcz22_1 : w9.cell? ⟨gb126, 1, none⟩ = some (.int .i64 a1_1) := (blk_cell BK126.out 1).trans rfl
      have hcz22_2 : w9.cell? ⟨gb126, 2, none⟩ = some (.int .i64 a1_2) := (blk_cell BK126.out 2).trans rfl
      have hcz22_3 : w9.cell? ⟨gb126, 3, none⟩ = some (.int .i64 a1_3) := (blk_cell BK126.out 3).trans rfl
      have hcz22_4 : w9.cell? ⟨gb126, 4, none⟩ = some (.int .i64 a1_4) := (blk_cell BK126.out 4).trans rfl
      have hfz22_0 := blk_frozen BK126.out 0
      have hfz22_1 := blk_frozen BK126.out 1
      have hfz22_2 := blk_frozen BK126.out 2
      have hfz22_3 := blk_frozen BK126.out 3
      have hfz22_4 := blk_frozen BK126.out 4
      go_wp2_with (first | ((with_reducible refine gate_callee (f := 24) rfl ?_); refine goesL_ (some 14) rfl rfl Try.func24 (by kernel_rfl) rfl #[.agg #[.bool a0_0, .int .i64 a0_1, .int .i64 a0_2, .bool a0_3, .int .i64 a0_4, .int .i64 a0_5, .bool a0_6, .bool a0_7, .int .i64 a0_8, .bool a0_9, .bool a0_10], .agg #[.bool true, .int .i64 a1_1, .int .i64 a1_2, .int .i64 a1_3, .int .i64 a1_4]] rfl (by (try simp only [List.map_toArray, List.map_cons, List.map_nil]); first | done | rfl | (simp only [List.length_drop, List.length_take]; rfl)) ?_; (with_reducible refine (track_told.calls a0_0 a0_1 a0_2 a0_3 a0_4 a0_5 a0_6 a0_7 a0_8 a0_9 a0_10 true a1_1 a1_2 a1_3 a1_4 t129 t130 t131 t132 t133 t134 t135 t136 t137 t138 t139 _ A15.out).mono ?_); rintro e w23 ⟨rfl, hb⟩; refine ⟨_, rfl, ?_⟩; have n0_ := Aside0.mk (blk_below (g := gb125) (o := .cells #[.bool a0_0, .int .i64 a0_1, .int .i64 a0_2, .bool a0_3, .int .i64 a0_4, .int .i64 a0_5, .bool a0_6, .bool a0_7, .int .i64 a0_8, .bool a0_9, .bool a0_10] 31 (0, 0)) (by (with_reducible repeat (first | refine blk_drewN ?_ _ | refine blk_drew ?_ | refine blk_alloc ?_ _)); exact BK125.out) hb); have n1_ := Aside0.mk (blk_below (g := gb126) (o := .cells #[.bool true, .int .i64 a1_1, .int .i64 a1_2, .int .i64 a1_3, .int .i64 a1_4] 34 (0, 0)) (by (with_reducible repeat (first | refine blk_drewN ?_ _ | refine blk_drew ?_ | refine blk_alloc ?_ _)); exact BK126.out) hb); have n2_ := Aside0.mk (blk_below (g := gb127) (o := .cells #[.int .i64 a2_0, .int .i64 a2_1, .int .i64 a2_2] 23 (0, 0)) (by (with_reducible repeat (first | refine blk_drewN ?_ _ | refine blk_drew ?_ | refine blk_alloc ?_ _)); exact BK127.out) hb); have n3_ := Aside0.mk (blk_below (g := gb128) (o := .cells #[.bool false, .int .i64 0, .int .i64 0, .bool false, .int .i64 0, .int .i64 0, .bool false, .bool false, .int .i64 0, .bool false, .bool false] 31 (0, 0)) (by (with_reducible repeat (first | refine blk_drewN ?_ _ | refine blk_drew ?_ | refine blk_alloc ?_ _)); exact BK128.out) hb); have n4_ := Aside0.mk (below_step (by repeat (first | (with_reducible first | exact HB.out | apply below_alloc | apply pw_below_drewN | apply below_drew1 | refine below_set ?_ GE125.out | refine below_set ?_ GE126.out | refine below_set ?_ GE127.out | refine below_set ?_ GE128.out) | exact HB.out)) hb); clear BK125; clear BK126; clear BK127; clear BK128; clear HB; have BK125 := n0_; have BK126 := n1_; have BK127 := n2_; have BK128 := n3_; have HB := n4_; clear n0_ n1_ n2_ n3_ n4_; (try clear hb); (try clear hb2); (try clear hk); (try clear hi); have hcz24_0 : w23.cell? ⟨gb125, 0, none⟩ = some (.bool a0_0) := (blk_cell BK125.out 0).trans rfl; have hcz24_1 : w23.cell? ⟨gb125, 1, none⟩ = some (.int .i64 a0_1) := (blk_cell BK125.out 1).trans rfl; have hcz24_2 : w23.cell? ⟨gb125, 2, none⟩ = some (.int .i64 a0_2) := (blk_cell BK125.out 2).trans rfl; have hcz24_3 : w23.cell? ⟨gb125, 3, none⟩ = some (.bool a0_3) := (blk_cell BK125.out 3).trans rfl; have hcz24_4 : w23.cell? ⟨gb125, 4, none⟩ = some (.int .i64 a0_4) := (blk_cell BK125.out 4).trans rfl; have hcz24_5 : w23.cell? ⟨gb125, 5, none⟩ = some (.int .i64 a0_5) := (blk_cell BK125.out 5).trans rfl; have hcz24_6 : w23.cell? ⟨gb125, 6, none⟩ = some (.bool a0_6) := (blk_cell BK125.out 6).trans rfl; have hcz24_7 : w23.cell? ⟨gb125, 7, none⟩ = some (.bool a0_7) := (blk_cell BK125.out 7).trans rfl; have hcz24_8 : w23.cell? ⟨gb125, 8, none⟩ = some (.int .i64 a0_8) := (blk_cell BK125.out 8).trans rfl; have hcz24_9 : w23.cell? ⟨gb125, 9, none⟩ = some (.bool a0_9) := (blk_cell BK125.out 9).trans rfl; have hcz24_10 : w23.cell? ⟨gb125, 10, none⟩ = some (.bool a0_10) := (blk_cell BK125.out 10).trans rfl; have hfz24_0 := blk_frozen BK125.out 0; have hfz24_1 := blk_frozen BK125.out 1; have hfz24_2 := blk_frozen BK125.out 2; have hfz24_3 := blk_frozen BK125.out 3; have hfz24_4 := blk_frozen BK125.out 4; have hfz24_5 := blk_frozen BK125.out 5; have hfz24_6 := blk_frozen BK125.out 6; have hfz24_7 := blk_frozen BK125.out 7; have hfz24_8 := blk_frozen BK125.out 8; have hfz24_9 := blk_frozen BK125.out 9; have hfz24_10 := blk_frozen BK125.out 10))
      go_meet
      case rel => exact ⟨_, (t129), (t130), (t131), (t132), (t133), (t134), (t135), (t136), (t137), (t138), (t139), H', ⟨by first | omega | exact Nat.le_refl _⟩, ⟨by (with_reducible repeat (first | refine blk_drewN ?_ _ | refine blk_drew ?_ | refine blk_alloc ?_ _)); refine blk_put (cs := #[.bool t129, .int .i64 t130, .int .i64 t131, .bool t132, .int .i64 t133, .int .i64 t134, .bool t135, .bool t136, .int .i64 t137, .bool t138, .bool a0_10]) ?_ 10 _ rfl; (with_reducible repeat (first | refine blk_drewN ?_ _ | refine blk_drew ?_ | refine blk_alloc ?_ _)); refine blk_put (cs := #[.bool t129, .int .i64 t130, .int .i64 t131, .bool t132, .int .i64 t133, .int .i64 t134, .bool t135, .bool t136, .int .i64 t137, .bool a0_9, .bool a0_10]) ?_ 9 _ rfl; (with_reducible repeat (first | refine blk_drewN ?_ _ | refine blk_drew ?_ | refine blk_alloc ?_ _)); refine blk_put (cs := #[.bool t129, .int .i64 t130, .int .i64 t131, .bool t132, .int .i64 t133, .int .i64 t134, .bool t135, .bool t136, .int .i64 a0_8, .bool a0_9, .bool a0_10]) ?_ 8 _ rfl; (with_reducible repeat (first | refine blk_drewN ?_ _ | refine blk_drew ?_ | refine blk_alloc ?_ _)); refine blk_put (cs := #[.bool t129, .int .i64 t130, .int .i64 t131, .bool t132, .int .i64 t133, .int .i64 t134, .bool t135, .bool a0_7, .int .i64 a0_8, .bool a0_9, .bool a0_10]) ?_ 7 _ rfl; (with_reducible repeat (first | refine blk_drewN ?_ _ | refine blk_drew ?_ | refine blk_alloc ?_ _)); refine blk_put (cs := #[.bool t129, .int .i64 t130, .int .i64 t131, .bool t132, .int .i64 t133, .int .i64 t134, .bool a0_6, .bool a0_7, .int .i64 a0_8, .bool a0_9, .bool a0_10]) ?_ 6 _ rfl; (with_reducible repeat (first | refine blk_drewN ?_ _ | refine blk_drew ?_ | refine blk_alloc ?_ _)); refine blk_put (cs := #[.bool t129, .int .i64 t130, .int .i64 t131, .bool t132, .int .i64 t133, .int .i64 a0_5, .bool a0_6, .bool a0_7, .int .i64 a0_8, .bool a0_9, .bool a0_10]) ?_ 5 _ rfl; (with_reducible repeat (first | refine blk_drewN ?_ _ | refine blk_drew ?_ | refine blk_alloc ?_ _)); refine blk_put (cs := #[.bool t129, .int .i64 t130, .int .i64 t131, .bool t132, .int .i64 a0_4, .int .i64 a0_5, .bool a0_6, .bool a0_7, .int .i64 a0_8, .bool a0_9, .bool a0_10]) ?_ 4 _ rfl; (with_reducible repeat (first | refine blk_drewN ?_ _ | refine blk_drew ?_ | refine blk_alloc ?_ _)); refine blk_put (cs := #[.bool t129, .int .i64 t130, .int .i64 t131, .bool a0_3, .int .i64 a0_4, .int .i64 a0_5, .bool a0_6, .bool a0_7, .int .i64 a0_8, .bool a0_9, .bool a0_10]) ?_ 3 _ rfl; (with_reducible repeat (first | refine blk_drewN ?_ _ | refine blk_drew ?_ | refine blk_alloc ?_ _)); refine blk_put (cs := #[.bool t129, .int .i64 t130, .int .i64 a0_2, .bool a0_3, .int .i64 a0_4, .int .i64 a0_5, .bool a0_6, .bool a0_7, .int .i64 a0_8, .bool a0_9, .bool a0_10]) ?_ 2 _ rfl; (with_reducible repeat (first | refine blk_drewN ?_ _ | refine blk_drew ?_ | refine blk_alloc ?_ _)); refine blk_put (cs := #[.bool t129, .int .i64 a0_1, .int .i64 a0_2, .bool a0_3, .int .i64 a0_4, .int .i64 a0_5, .bool a0_6, .bool a0_7, .int .i64 a0_8, .bool a0_9, .bool a0_10]) ?_ 1 _ rfl; (with_reducible repeat (first | refine blk_drewN ?_ _ | refine blk_drew ?_ | refine blk_alloc ?_ _)); refine blk_put (cs := #[.bool a0_0, .int .i64 a0_1, .int .i64 a0_2, .bool a0_3, .int .i64 a0_4, .int .i64 a0_5, .bool a0_6, .bool a0_7, .int .i64 a0_8, .bool a0_9, .bool a0_10]) ?_ 0 _ rfl; (with_reducible repeat (first | refine blk_drewN ?_ _ | refine blk_drew ?_ | refine blk_alloc ?_ _)); exact BK125.out⟩, ⟨by (with_reducible repeat (first | refine blk_drewN ?_ _ | refine blk_drew ?_ | refine blk_alloc ?_ _)); refine blk_far ?_ NB126_125.out _; (with_reducible repeat (first | refine blk_drewN ?_ _ | refine blk_drew ?_ | refine blk_alloc ?_ _)); refine blk_far ?_ NB126_125.out _; (with_reducible repeat (first | refine blk_drewN ?_ _ | refine blk_drew ?_ | refine blk_alloc ?_ _)); refine blk_far ?_ NB126_125.out _; (with_reducible repeat (first | refine blk_drewN ?_ _ | refine blk_drew ?_ | refine blk_alloc ?_ _)); refine blk_far ?_ NB126_125.out _; (with_reducible repeat (first | refine blk_drewN ?_ _ | refine blk_drew ?_ | refine blk_alloc ?_ _)); refine blk_far ?_ NB126_125.out _; (with_reducible repeat (first | refine blk_drewN ?_ _ | refine blk_drew ?_ | refine blk_alloc ?_ _)); refine blk_far ?_ NB126_125.out _; (with_reducible repeat (first | refine blk_drewN ?_ _ | refine blk_drew ?_ | refine blk_alloc ?_ _)); refine blk_far ?_ NB126_125.out _; (with_reducible repeat (first | refine blk_drewN ?_ _ | refine blk_drew ?_ | refine blk_alloc ?_ _)); refine blk_far ?_ NB126_125.out _; (with_reducible repeat (first | refine blk_drewN ?_ _ | refine blk_drew ?_ | refine blk_alloc ?_ _)); refine blk_far ?_ NB126_125.out _; (with_reducible repeat (first | refine blk_drewN ?_ _ | refine blk_drew ?_ | refine blk_alloc ?_ _)); refine blk_far ?_ NB126_125.out _; (with_reducible repeat (first | refine blk_drewN ?_ _ | refine blk_drew ?_ | refine blk_alloc ?_ _)); refine blk_far ?_ NB126_125.out _; (with_reducible repeat (first | refine blk_drewN ?_ _ | refine blk_drew ?_ | refine blk_alloc ?_ _)); exact BK126.out⟩, ⟨by (with_reducible repeat (first | refine blk_drewN ?_ _ | refine blk_drew ?_ | refine blk_alloc ?_ _)); refine blk_far ?_ NB127_125.out _; (with_reducible repeat (first | refine blk_drewN ?_ _ | refine blk_drew ?_ | refine blk_alloc ?_ _)); refine blk_far ?_ NB127_125.out _; (with_reducible repeat (first | refine blk_drewN ?_ _ | refine blk_drew ?_ | refine blk_alloc ?_ _)); refine blk_far ?_ NB127_125.out _; (with_reducible repeat (first | refine blk_drewN ?_ _ | refine blk_drew ?_ | refine blk_alloc ?_ _)); refine blk_far ?_ NB127_125.out _; (with_reducible repeat (first | refine blk_drewN ?_ _ | refine blk_drew ?_ | refine blk_alloc ?_ _)); refine blk_far ?_ NB127_125.out _; (with_reducible repeat (first | refine blk_drewN ?_ _ | refine blk_drew ?_ | refine blk_alloc ?_ _)); refine blk_far ?_ NB127_125.out _; (with_reducible repeat (first | refine blk_drewN ?_ _ | refine blk_drew ?_ | refine blk_alloc ?_ _)); refine blk_far ?_ NB127_125.out _; (with_reducible repeat (first | refine blk_drewN ?_ _ | refine blk_drew ?_ | refine blk_alloc ?_ _)); refine blk_far ?_ NB127_125.out _; (with_reducible repeat (first | refine blk_drewN ?_ _ | refine blk_drew ?_ | refine blk_alloc ?_ _)); refine blk_far ?_ NB127_125.out _; (with_reducible repeat (first | refine blk_drewN ?_ _ | refine blk_drew ?_ | refine blk_alloc ?_ _)); refine blk_far ?_ NB127_125.out _; (with_reducible repeat (first | refine blk_drewN ?_ _ | refine blk_drew ?_ | refine blk_alloc ?_ _)); refine blk_far ?_ NB127_125.out _; (with_reducible repeat (first | refine blk_drewN ?_ _ | refine blk_drew ?_ | refine blk_alloc ?_ _)); exact BK127.out⟩, ⟨by (with_reducible repeat (first | refine blk_drewN ?_ _ | refine blk_drew ?_ | refine blk_alloc ?_ _)); refine blk_far ?_ NB128_125.out _; (with_reducible repeat (first | refine blk_drewN ?_ _ | refine blk_drew ?_ | refine blk_alloc ?_ _)); refine blk_far ?_ NB128_125.out _; (with_reducible repeat (first | refine blk_drewN ?_ _ | refine blk_drew ?_ | refine blk_alloc ?_ _)); refine blk_far ?_ NB128_125.out _; (with_reducible repeat (first | refine blk_drewN ?_ _ | refine blk_drew ?_ | refine blk_alloc ?_ _)); refine blk_far ?_ NB128_125.out _; (with_reducible repeat (first | refine blk_drewN ?_ _ | refine blk_drew ?_ | refine blk_alloc ?_ _)); refine blk_far ?_ NB128_125.out _; (with_reducible repeat (first | refine blk_drewN ?_ _ | refine blk_drew ?_ | refine blk_alloc ?_ _)); refine blk_far ?_ NB128_125.out _; (with_reducible repeat (first | refine blk_drewN ?_ _ | refine blk_drew ?_ | refine blk_alloc ?_ _)); refine blk_far ?_ NB128_125.out _; (with_reducible repeat (first | refine blk_drewN ?_ _ | refine blk_drew ?_ | refine blk_alloc ?_ _)); refine blk_far ?_ NB128_125.out _; (with_reducible repeat (first | refine blk_drewN ?_ _ | refine blk_drew ?_ | refine blk_alloc ?_ _)); refine blk_far ?_ NB128_125.out _; (with_reducible repeat (first | refine blk_drewN ?_ _ | refine blk_drew ?_ | refine blk_alloc ?_ _)); refine blk_far ?_ NB128_125.out _; (with_reducible repeat (first | refine blk_drewN ?_ _ | refine blk_drew ?_ | refine blk_alloc ?_ _)); refine blk_far ?_ NB128_125.out _; (with_reducible repeat (first | refine blk_drewN ?_ _ | refine blk_drew ?_ | refine blk_alloc ?_ _)); exact BK128.out⟩, ⟨by repeat (first | (with_reducible first | exact HB.out | apply below_alloc | apply pw_below_drewN | apply below_drew1 | refine below_set ?_ GE125.out | refine below_set ?_ GE126.out | refine below_set ?_ GE127.out | refine below_set ?_ GE128.out) | exact HB.out)⟩⟩
    · replace c14 := Bool.eq_false_iff.mpr c14
      subst c14
      have H1 : (track_Step.j0 k a3 a0_0 a0_1 a0_2 a0_3 a0_4 a0_5 a0_6 a0_7 a0_8 a0_9 a0_10 false a1_1 a1_2 a1_3 a1_4 a2_0 a2_1 a2_2) = some (r1, r2, r3, r4, r5, r6, r7, r8, r9, r10, r11) := by rw [if_neg (show ¬ (false = true) by decide)] at H; exact H
      clear H
      have H := H1
      clear H1
      have H' := Aside0.mk H
      clear H
      go_wp2
      go_meet
      case rel => exact ⟨_, (a0_0), (a0_1), (a0_2), (a0_3), (a0_4), (a0_5), (a0_6), (a0_7), (a0_8), (a0_9), (a0_10), H', ⟨by first | omega | exact Nat.le_refl _⟩, ⟨by (with_reducible repeat (first | refine blk_drewN ?_ _ | refine blk_drew ?_ | refine blk_alloc ?_ _)); exact BK125.out⟩, ⟨by (with_reducible repeat (first | refine blk_drewN ?_ _ | refine blk_drew ?_ | refine blk_alloc ?_ _)); exact BK126.out⟩, ⟨by (with_reducible repeat (first | refine blk_drewN ?_ _ | refine blk_drew ?_ | refine blk_alloc ?_ _)); exact BK127.out⟩, ⟨by (with_reducible repeat (first | refine blk_drewN ?_ _ | refine blk_drew ?_ | refine blk_alloc ?_ _)); exact BK128.out⟩, ⟨by repeat (first | (with_reducible first | exact HB.out | apply below_alloc | apply pw_below_drewN | apply below_drew1 | refine below_set ?_ GE125.out | refine below_set ?_ GE126.out | refine below_set ?_ GE127.out | refine below_set ?_ GE128.out) | exact HB.out)⟩⟩
  case rest =>
    clear HC5
    try clear c1
    try clear c2
    try clear p2
    try clear c10
    try clear c11
    try clear c12
    try clear c14
    try clear c16
    try clear c17
    try clear c18
    try clear c20
    try clear c21
    try clear c24
    try clear hcz13_0
    try clear hcz13_1
    try clear hcz13_2
    try clear hcz13_3
    try clear hcz13_4
    try clear hcz19_0
    try clear hcz19_1
    try clear hcz19_10
    try clear hcz19_2
    try clear hcz19_3
    try clear hcz19_4
    try clear hcz19_5
    try clear hcz19_6
    try clear hcz19_7
    try clear hcz19_8
    try clear hcz19_9
    try clear hcz22_0
    try clear hcz22_1
    try clear hcz22_2
    try clear hcz22_3
    try clear hcz22_4
    try clear hcz24_0
    try clear hcz24_1
    try clear hcz24_10
    try clear hcz24_2
    try clear hcz24_3
    try clear hcz24_4
    try clear hcz24_5
    try clear hcz24_6
    try clear hcz24_7
    try clear hcz24_8
    try clear hcz24_9
    try clear hfz13_0
    try clear hfz13_1
    try clear hfz13_2
    try clear hfz13_3
    try clear hfz13_4
    try clear hfz19_0
    try clear hfz19_1
    try clear hfz19_10
    try clear hfz19_2
    try clear hfz19_3
    try clear hfz19_4
    try clear hfz19_5
    try clear hfz19_6
    try clear hfz19_7
    try clear hfz19_8
    try clear hfz19_9
    try clear hfz22_0
    try clear hfz22_1
    try clear hfz22_2
    try clear hfz22_3
    try clear hfz22_4
    try clear hfz24_0
    try clear hfz24_1
    try clear hfz24_10
    try clear hfz24_2
    try clear hfz24_3
    try clear hfz24_4
    try clear hfz24_5
    try clear hfz24_6
    try clear hfz24_7
    try clear hfz24_8
    try clear hfz24_9
    obtain ⟨kq, x126000_4, x126001_4, x126002_4, x126003_4, x126004_4, x126005_4, x126006_4, x126007_4, x126008_4, x126009_4, x126010_4, HA, HJ4, BK125, BK126, BK127, BK128, HB⟩ := hcut
    cases kq with
    | zero => exact absurd HA.out (by simp [track_Step.j0])
    | succ kj4 =>
      have H := HA.out
      clear HA
      simp only [track_Step.j0] at H
      have HC25 := Aside0.mk H
      clear H
      go_upto_if 15 with (fail)
      go_cut [] (fun wc => ∃ (kq : Nat) (x126000_24 : Bool) (x126001_24 : Int) (x126002_24 : Int) (x126003_24 : Bool) (x126004_24 : Int) (x126005_24 : Int) (x126006_24 : Bool) (x126007_24 : Bool) (x126008_24 : Int) (x126009_24 : Bool) (x126010_24 : Bool), Aside0 (track_Step.j1 kq x126000_24 x126001_24 x126002_24 x126003_24 x126004_24 x126005_24 x126006_24 x126007_24 x126008_24 x126009_24 x126010_24 a1_0 a1_1 a1_2 a1_3 a1_4 a2_0 a2_1 a2_2 = some (r1, r2, r3, r4, r5, r6, r7, r8, r9, r10, r11)) ∧ Aside0 (kq ≤ kj4) ∧ Aside0 (wc.heap[gb125]? = some (.cells #[.bool x126000_24, .int .i64 x126001_24, .int .i64 x126002_24, .bool x126003_24, .int .i64 x126004_24, .int .i64 x126005_24, .bool x126006_24, .bool x126007_24, .int .i64 x126008_24, .bool x126009_24, .bool x126010_24] 31 (0, 0))) ∧ Aside0 (wc.heap[gb126]? = some (.cells #[.bool a1_0, .int .i64 a1_1, .int .i64 a1_2, .int .i64 a1_3, .int .i64 a1_4] 34 (0, 0))) ∧ Aside0 (wc.heap[gb127]? = some (.cells #[.int .i64 a2_0, .int .i64 a2_1, .int .i64 a2_2] 23 (0, 0))) ∧ Aside0 (wc.heap[gb128]? = some (.cells #[.bool false, .int .i64 0, .int .i64 0, .bool false, .int .i64 0, .int .i64 0, .bool false, .bool false, .int .i64 0, .bool false, .bool false] 31 (0, 0))) ∧ Aside0 (Below w.heap.size w wc))
      case first =>
        have H := HC25.out
        clear HC25
        by_cases c26 : a3 = true
        · subst c26
          have H1 : ((track_forgot.f x126000_4 x126001_4 x126002_4 x126003_4 x126004_4 x126005_4 x126006_4 x126007_4 x126008_4 x126009_4 x126010_4).bind fun bt140 => (track_Step.j1 kj4 bt140.1 bt140.2.1 bt140.2.2.1 bt140.2.2.2.1 bt140.2.2.2.2.1 bt140.2.2.2.2.2.1 bt140.2.2.2.2.2.2.1 bt140.2.2.2.2.2.2.2.1 bt140.2.2.2.2.2.2.2.2.1 bt140.2.2.2.2.2.2.2.2.2.1 bt140.2.2.2.2.2.2.2.2.2.2 a1_0 a1_1 a1_2 a1_3 a1_4 a2_0 a2_1 a2_2)) = some (r1, r2, r3, r4, r5, r6, r7, r8, r9, r10, r11) := by rw [if_pos rfl] at H; exact H
          clear H
          have H := H1
          clear H1
          replace H := Option.bind_eq_some_iff.mp H
          obtain ⟨⟨t140, t141, t142, t143, t144, t145, t146, t147, t148, t149, t150⟩, A270, H⟩ := H
          replace H : (track_Step.j1 kj4 t140 t141 t142 t143 t144 t145 t146 t147 t148 t149 t150 a1_0 a1_1 a1_2 a1_3 a1_4 a2_0 a2_1 a2_2) = some (r1, r2, r3, r4, r5, r6, r7, r8, r9, r10, r11) := H
          have A27 := Aside0.mk A270
          clear A270
          have H' := Aside0.mk H
          clear H
          have hnb28 := NB125_126.out
          have hnc28 := NB126_125.out
          have hnb29 := NB125_127.out
          have hnc29 := NB127_125.out
          have hnb30 := NB125_128.out
          have hnc30 := NB128_125.out
          have hcz31_0 : wc.cell? ⟨gb125, 0, none⟩ = some (.bool x126000_4) := (blk_cell BK125.out 0).trans rfl
          have hcz31_1 : wc.cell? ⟨gb125, 1, none⟩ = some (.int .i64 x126001_4) := (blk_cell BK125.out 1).trans rfl
          have hcz31_2 : wc.cell? ⟨gb125, 2, none⟩ = some (.int .i64 x126002_4) := (blk_cell BK125.out 2).trans rfl
          have hcz31_3 : wc.cell? ⟨gb125, 3, none⟩ = some (.bool x126003_4) := (blk_cell BK125.out 3).trans rfl
          have hcz31_4 : wc.cell? ⟨gb125, 4, none⟩ = some (.int .i64 x126004_4) := (blk_cell BK125.out 4).trans rfl
          have hcz31_5 : wc.cell? ⟨gb125, 5, none⟩ = some (.int .i64 x126005_4) := (blk_cell BK125.out 5).trans rfl
          have hcz31_6 : wc.cell? ⟨gb125, 6, none⟩ = some (.bool x126006_4) := (blk_cell BK125.out 6).trans rfl
          have hcz31_7 : wc.cell? ⟨gb125, 7, none⟩ = some (.bool x126007_4) := (blk_cell BK125.out 7).trans rfl
          have hcz31_8 : wc.cell? ⟨gb125, 8, none⟩ = some (.int .i64 x126008_4) := (blk_cell BK125.out 8).trans rfl
          have hcz31_9 : wc.cell? ⟨gb125, 9, none⟩ = some (.bool x126009_4) := (blk_cell BK125.out 9).trans rfl
          have hcz31_10 : wc.cell? ⟨gb125, 10, none⟩ = some (.bool x126010_4) := (blk_cell BK125.out 10).trans rfl
          have hfz31_0 := blk_frozen BK125.out 0
          have hfz31_1 := blk_frozen BK125.out 1
          have hfz31_2 := blk_frozen BK125.out 2
          have hfz31_3 := blk_frozen BK125.out 3
          have hfz31_4 := blk_frozen BK125.out 4
          have hfz31_5 := blk_frozen BK125.out 5
          have hfz31_6 := blk_frozen BK125.out 6
          have hfz31_7 := blk_frozen BK125.out 7
          have hfz31_8 := blk_frozen BK125.out 8
          have hfz31_9 := blk_frozen BK125.out 9
          have hfz31_10 := blk_frozen BK125.out 10
          go_wp2_with (first | ((with_reducible refine gate_callee (f := 25) rfl ?_); refine goesL_ (some 17) rfl rfl Try.func25 (by kernel_rfl) rfl #[.agg #[.bool x126000_4, .int .i64 x126001_4, .int .i64 x126002_4, .bool x126003_4, .int .i64 x126004_4, .int .i64 x126005_4, .bool x126006_4, .bool x126007_4, .int .i64 x126008_4, .bool x126009_4, .bool x126010_4]] rfl (by (try simp only [List.map_toArray, List.map_cons, List.map_nil]); first | done | rfl | (simp only [List.length_drop, List.length_take]; rfl)) ?_; (with_reducible refine (track_forgot.calls x126000_4 x126001_4 x126002_4 x126003_4 x126004_4 x126005_4 x126006_4 x126007_4 x126008_4 x126009_4 x126010_4 t140 t141 t142 t143 t144 t145 t146 t147 t148 t149 t150 _ A27.out).mono ?_); rintro e w32 ⟨rfl, hb⟩; refine ⟨_, rfl, ?_⟩; have n0_ := Aside0.mk (blk_below (g := gb125) (o := .cells #[.bool x126000_4, .int .i64 x126001_4, .int .i64 x126002_4, .bool x126003_4, .int .i64 x126004_4, .int .i64 x126005_4, .bool x126006_4, .bool x126007_4, .int .i64 x126008_4, .bool x126009_4, .bool x126010_4] 31 (0, 0)) (by (with_reducible repeat (first | refine blk_drewN ?_ _ | refine blk_drew ?_ | refine blk_alloc ?_ _)); exact BK125.out) hb); have n1_ := Aside0.mk (blk_below (g := gb126) (o := .cells #[.bool a1_0, .int .i64 a1_1, .int .i64 a1_2, .int .i64 a1_3, .int .i64 a1_4] 34 (0, 0)) (by (with_reducible repeat (first | refine blk_drewN ?_ _ | refine blk_drew ?_ | refine blk_alloc ?_ _)); exact BK126.out) hb); have n2_ := Aside0.mk (blk_below (g := gb127) (o := .cells #[.int .i64 a2_0, .int .i64 a2_1, .int .i64 a2_2] 23 (0, 0)) (by (with_reducible repeat (first | refine blk_drewN ?_ _ | refine blk_drew ?_ | refine blk_alloc ?_ _)); exact BK127.out) hb); have n3_ := Aside0.mk (blk_below (g := gb128) (o := .cells #[.bool false, .int .i64 0, .int .i64 0, .bool false, .int .i64 0, .int .i64 0, .bool false, .bool false, .int .i64 0, .bool false, .bool false] 31 (0, 0)) (by (with_reducible repeat (first | refine blk_drewN ?_ _ | refine blk_drew ?_ | refine blk_alloc ?_ _)); exact BK128.out) hb); have n4_ := Aside0.mk (below_step (by repeat (first | (with_reducible first | exact HB.out | apply below_alloc | apply pw_below_drewN | apply below_drew1 | refine below_set ?_ GE125.out | refine below_set ?_ GE126.out | refine below_set ?_ GE127.out | refine below_set ?_ GE128.out) | exact HB.out)) hb); clear BK125; clear BK126; clear BK127; clear BK128; clear HB; have BK125 := n0_; have BK126 := n1_; have BK127 := n2_; have BK128 := n3_; have HB := n4_; clear n0_ n1_ n2_ n3_ n4_; (try clear hb); (try clear hb2); (try clear hk); (try clear hi); have hcz33_0 : w32.cell? ⟨gb125, 0, none⟩ = some (.bool x126000_4) := (blk_cell BK125.out 0).trans rfl; have hcz33_1 : w32.cell? ⟨gb125, 1, none⟩ = some (.int .i64 x126001_4) := (blk_cell BK125.out 1).trans rfl; have hcz33_2 : w32.cell? ⟨gb125, 2, none⟩ = some (.int .i64 x126002_4) := (blk_cell BK125.out 2).trans rfl; have hcz33_3 : w32.cell? ⟨gb125, 3, none⟩ = some (.bool x126003_4) := (blk_cell BK125.out 3).trans rfl; have hcz33_4 : w32.cell? ⟨gb125, 4, none⟩ = some (.int .i64 x126004_4) := (blk_cell BK125.out 4).trans rfl; have hcz33_5 : w32.cell? ⟨gb125, 5, none⟩ = some (.int .i64 x126005_4) := (blk_cell BK125.out 5).trans rfl; have hcz33_6 : w32.cell? ⟨gb125, 6, none⟩ = some (.bool x126006_4) := (blk_cell BK125.out 6).trans rfl; have hcz33_7 : w32.cell? ⟨gb125, 7, none⟩ = some (.bool x126007_4) := (blk_cell BK125.out 7).trans rfl; have hcz33_8 : w32.cell? ⟨gb125, 8, none⟩ = some (.int .i64 x126008_4) := (blk_cell BK125.out 8).trans rfl; have hcz33_9 : w32.cell? ⟨gb125, 9, none⟩ = some (.bool x126009_4) := (blk_cell BK125.out 9).trans rfl; have hcz33_10 : w32.cell? ⟨gb125, 10, none⟩ = some (.bool x126010_4) := (blk_cell BK125.out 10).trans rfl; have hfz33_0 := blk_frozen BK125.out 0; have hfz33_1 := blk_frozen BK125.out 1; have hfz33_2 := blk_frozen BK125.out 2; have hfz33_3 := blk_frozen BK125.out 3; have hfz33_4 := blk_frozen BK125.out 4; have hfz33_5 := blk_frozen BK125.out 5; have hfz33_6 := blk_frozen BK125.out 6; have hfz33_7 := blk_frozen BK125.out 7; have hfz33_8 := blk_frozen BK125.out 8; have hfz33_9 := blk_frozen BK125.out 9; have hfz33_10 := blk_frozen BK125.out 10))
          go_meet
          case rel => exact ⟨_, (t140), (t141), (t142), (t143), (t144), (t145), (t146), (t147), (t148), (t149), (t150), H', ⟨by have := HJ4.out; first | omega | exact Nat.le_refl _⟩, ⟨by (with_reducible repeat (first | refine blk_drewN ?_ _ | refine blk_drew ?_ | refine blk_alloc ?_ _)); refine blk_put (cs := #[.bool t140, .int .i64 t141, .int .i64 t142, .bool t143, .int .i64 t144, .int .i64 t145, .bool t146, .bool t147, .int .i64 t148, .bool t149, .bool x126010_4]) ?_ 10 _ rfl; (with_reducible repeat (first | refine blk_drewN ?_ _ | refine blk_drew ?_ | refine blk_alloc ?_ _)); refine blk_put (cs := #[.bool t140, .int .i64 t141, .int .i64 t142, .bool t143, .int .i64 t144, .int .i64 t145, .bool t146, .bool t147, .int .i64 t148, .bool x126009_4, .bool x126010_4]) ?_ 9 _ rfl; (with_reducible repeat (first | refine blk_drewN ?_ _ | refine blk_drew ?_ | refine blk_alloc ?_ _)); refine blk_put (cs := #[.bool t140, .int .i64 t141, .int .i64 t142, .bool t143, .int .i64 t144, .int .i64 t145, .bool t146, .bool t147, .int .i64 x126008_4, .bool x126009_4, .bool x126010_4]) ?_ 8 _ rfl; (with_reducible repeat (first | refine blk_drewN ?_ _ | refine blk_drew ?_ | refine blk_alloc ?_ _)); refine blk_put (cs := #[.bool t140, .int .i64 t141, .int .i64 t142, .bool t143, .int .i64 t144, .int .i64 t145, .bool t146, .bool x126007_4, .int .i64 x126008_4, .bool x126009_4, .bool x126010_4]) ?_ 7 _ rfl; (with_reducible repeat (first | refine blk_drewN ?_ _ | refine blk_drew ?_ | refine blk_alloc ?_ _)); refine blk_put (cs := #[.bool t140, .int .i64 t141, .int .i64 t142, .bool t143, .int .i64 t144, .int .i64 t145, .bool x126006_4, .bool x126007_4, .int .i64 x126008_4, .bool x126009_4, .bool x126010_4]) ?_ 6 _ rfl; (with_reducible repeat (first | refine blk_drewN ?_ _ | refine blk_drew ?_ | refine blk_alloc ?_ _)); refine blk_put (cs := #[.bool t140, .int .i64 t141, .int .i64 t142, .bool t143, .int .i64 t144, .int .i64 x126005_4, .bool x126006_4, .bool x126007_4, .int .i64 x126008_4, .bool x126009_4, .bool x126010_4]) ?_ 5 _ rfl; (with_reducible repeat (first | refine blk_drewN ?_ _ | refine blk_drew ?_ | refine blk_alloc ?_ _)); refine blk_put (cs := #[.bool t140, .int .i64 t141, .int .i64 t142, .bool t143, .int .i64 x126004_4, .int .i64 x126005_4, .bool x126006_4, .bool x126007_4, .int .i64 x126008_4, .bool x126009_4, .bool x126010_4]) ?_ 4 _ rfl; (with_reducible repeat (first | refine blk_drewN ?_ _ | refine blk_drew ?_ | refine blk_alloc ?_ _)); refine blk_put (cs := #[.bool t140, .int .i64 t141, .int .i64 t142, .bool x126003_4, .int .i64 x126004_4, .int .i64 x126005_4, .bool x126006_4, .bool x126007_4, .int .i64 x126008_4, .bool x126009_4, .bool x126010_4]) ?_ 3 _ rfl; (with_reducible repeat (first | refine blk_drewN ?_ _ | refine blk_drew ?_ | refine blk_alloc ?_ _)); refine blk_put (cs := #[.bool t140, .int .i64 t141, .int .i64 x126002_4, .bool x126003_4, .int .i64 x126004_4, .int .i64 x126005_4, .bool x126006_4, .bool x126007_4, .int .i64 x126008_4, .bool x126009_4, .bool x126010_4]) ?_ 2 _ rfl; (with_reducible repeat (first | refine blk_drewN ?_ _ | refine blk_drew ?_ | refine blk_alloc ?_ _)); refine blk_put (cs := #[.bool t140, .int .i64 x126001_4, .int .i64 x126002_4, .bool x126003_4, .int .i64 x126004_4, .int .i64 x126005_4, .bool x126006_4, .bool x126007_4, .int .i64 x126008_4, .bool x126009_4, .bool x126010_4]) ?_ 1 _ rfl; (with_reducible repeat (first | refine blk_drewN ?_ _ | refine blk_drew ?_ | refine blk_alloc ?_ _)); refine blk_put (cs := #[.bool x126000_4, .int .i64 x126001_4, .int .i64 x126002_4, .bool x126003_4, .int .i64 x126004_4, .int .i64 x126005_4, .bool x126006_4, .bool x126007_4, .int .i64 x126008_4, .bool x126009_4, .bool x126010_4]) ?_ 0 _ rfl; (with_reducible repeat (first | refine blk_drewN ?_ _ | refine blk_drew ?_ | refine blk_alloc ?_ _)); exact BK125.out⟩, ⟨by (with_reducible repeat (first | refine blk_drewN ?_ _ | refine blk_drew ?_ | refine blk_alloc ?_ _)); refine blk_far ?_ NB126_125.out _; (with_reducible repeat (first | refine blk_drewN ?_ _ | refine blk_drew ?_ | refine blk_alloc ?_ _)); refine blk_far ?_ NB126_125.out _; (with_reducible repeat (first | refine blk_drewN ?_ _ | refine blk_drew ?_ | refine blk_alloc ?_ _)); refine blk_far ?_ NB126_125.out _; (with_reducible repeat (first | refine blk_drewN ?_ _ | refine blk_drew ?_ | refine blk_alloc ?_ _)); refine blk_far ?_ NB126_125.out _; (with_reducible repeat (first | refine blk_drewN ?_ _ | refine blk_drew ?_ | refine blk_alloc ?_ _)); refine blk_far ?_ NB126_125.out _; (with_reducible repeat (first | refine blk_drewN ?_ _ | refine blk_drew ?_ | refine blk_alloc ?_ _)); refine blk_far ?_ NB126_125.out _; (with_reducible repeat (first | refine blk_drewN ?_ _ | refine blk_drew ?_ | refine blk_alloc ?_ _)); refine blk_far ?_ NB126_125.out _; (with_reducible repeat (first | refine blk_drewN ?_ _ | refine blk_drew ?_ | refine blk_alloc ?_ _)); refine blk_far ?_ NB126_125.out _; (with_reducible repeat (first | refine blk_drewN ?_ _ | refine blk_drew ?_ | refine blk_alloc ?_ _)); refine blk_far ?_ NB126_125.out _; (with_reducible repeat (first | refine blk_drewN ?_ _ | refine blk_drew ?_ | refine blk_alloc ?_ _)); refine blk_far ?_ NB126_125.out _; (with_reducible repeat (first | refine blk_drewN ?_ _ | refine blk_drew ?_ | refine blk_alloc ?_ _)); refine blk_far ?_ NB126_125.out _; (with_reducible repeat (first | refine blk_drewN ?_ _ | refine blk_drew ?_ | refine blk_alloc ?_ _)); exact BK126.out⟩, ⟨by (with_reducible repeat (first | refine blk_drewN ?_ _ | refine blk_drew ?_ | refine blk_alloc ?_ _)); refine blk_far ?_ NB127_125.out _; (with_reducible repeat (first | refine blk_drewN ?_ _ | refine blk_drew ?_ | refine blk_alloc ?_ _)); refine blk_far ?_ NB127_125.out _; (with_reducible repeat (first | refine blk_drewN ?_ _ | refine blk_drew ?_ | refine blk_alloc ?_ _)); refine blk_far ?_ NB127_125.out _; (with_reducible repeat (first | refine blk_drewN ?_ _ | refine blk_drew ?_ | refine blk_alloc ?_ _)); refine blk_far ?_ NB127_125.out _; (with_reducible repeat (first | refine blk_drewN ?_ _ | refine blk_drew ?_ | refine blk_alloc ?_ _)); refine blk_far ?_ NB127_125.out _; (with_reducible repeat (first | refine blk_drewN ?_ _ | refine blk_drew ?_ | refine blk_alloc ?_ _)); refine blk_far ?_ NB127_125.out _; (with_reducible repeat (first | refine blk_drewN ?_ _ | refine blk_drew ?_ | refine blk_alloc ?_ _)); refine blk_far ?_ NB127_125.out _; (with_reducible repeat (first | refine blk_drewN ?_ _ | refine blk_drew ?_ | refine blk_alloc ?_ _)); refine blk_far ?_ NB127_125.out _; (with_reducible repeat (first | refine blk_drewN ?_ _ | refine blk_drew ?_ | refine blk_alloc ?_ _)); refine blk_far ?_ NB127_125.out _; (with_reducible repeat (first | refine blk_drewN ?_ _ | refine blk_drew ?_ | refine blk_alloc ?_ _)); refine blk_far ?_ NB127_125.out _; (with_reducible repeat (first | refine blk_drewN ?_ _ | refine blk_drew ?_ | refine blk_alloc ?_ _)); refine blk_far ?_ NB127_125.out _; (with_reducible repeat (first | refine blk_drewN ?_ _ | refine blk_drew ?_ | refine blk_alloc ?_ _)); exact BK127.out⟩, ⟨by (with_reducible repeat (first | refine blk_drewN ?_ _ | refine blk_drew ?_ | refine blk_alloc ?_ _)); refine blk_far ?_ NB128_125.out _; (with_reducible repeat (first | refine blk_drewN ?_ _ | refine blk_drew ?_ | refine blk_alloc ?_ _)); refine blk_far ?_ NB128_125.out _; (with_reducible repeat (first | refine blk_drewN ?_ _ | refine blk_drew ?_ | refine blk_alloc ?_ _)); refine blk_far ?_ NB128_125.out _; (with_reducible repeat (first | refine blk_drewN ?_ _ | refine blk_drew ?_ | refine blk_alloc ?_ _)); refine blk_far ?_ NB128_125.out _; (with_reducible repeat (first | refine blk_drewN ?_ _ | refine blk_drew ?_ | refine blk_alloc ?_ _)); refine blk_far ?_ NB128_125.out _; (with_reducible repeat (first | refine blk_drewN ?_ _ | refine blk_drew ?_ | refine blk_alloc ?_ _)); refine blk_far ?_ NB128_125.out _; (with_reducible repeat (first | refine blk_drewN ?_ _ | refine blk_drew ?_ | refine blk_alloc ?_ _)); refine blk_far ?_ NB128_125.out _; (with_reducible repeat (first | refine blk_drewN ?_ _ | refine blk_drew ?_ | refine blk_alloc ?_ _)); refine blk_far ?_ NB128_125.out _; (with_reducible repeat (first | refine blk_drewN ?_ _ | refine blk_drew ?_ | refine blk_alloc ?_ _)); refine blk_far ?_ NB128_125.out _; (with_reducible repeat (first | refine blk_drewN ?_ _ | refine blk_drew ?_ | refine blk_alloc ?_ _)); refine blk_far ?_ NB128_125.out _; (with_reducible repeat (first | refine blk_drewN ?_ _ | refine blk_drew ?_ | refine blk_alloc ?_ _)); refine blk_far ?_ NB128_125.out _; (with_reducible repeat (first | refine blk_drewN ?_ _ | refine blk_drew ?_ | refine blk_alloc ?_ _)); exact BK128.out⟩, ⟨by repeat (first | (with_reducible first | exact HB.out | apply below_alloc | apply pw_below_drewN | apply below_drew1 | refine below_set ?_ GE125.out | refine below_set ?_ GE126.out | refine below_set ?_ GE127.out | refine below_set ?_ GE128.out) | exact HB.out)⟩⟩
        · replace c26 := Bool.eq_false_iff.mpr c26
          subst c26
          have H1 : (track_Step.j1 kj4 x126000_4 x126001_4 x126002_4 x126003_4 x126004_4 x126005_4 x126006_4 x126007_4 x126008_4 x126009_4 x126010_4 a1_0 a1_1 a1_2 a1_3 a1_4 a2_0 a2_1 a2_2) = some (r1, r2, r3, r4, r5, r6, r7, r8, r9, r10, r11) := by rw [if_neg (show ¬ (false = true) by decide)] at H; exact H
          clear H
          have H := H1
          clear H1
          have H' := Aside0.mk H
          clear H
          go_wp2
          go_meet
          case rel => exact ⟨_, (x126000_4), (x126001_4), (x126002_4), (x126003_4), (x126004_4), (x126005_4), (x126006_4), (x126007_4), (x126008_4), (x126009_4), (x126010_4), H', ⟨by have := HJ4.out; first | omega | exact Nat.le_refl _⟩, ⟨by (with_reducible repeat (first | refine blk_drewN ?_ _ | refine blk_drew ?_ | refine blk_alloc ?_ _)); exact BK125.out⟩, ⟨by (with_reducible repeat (first | refine blk_drewN ?_ _ | refine blk_drew ?_ | refine blk_alloc ?_ _)); exact BK126.out⟩, ⟨by (with_reducible repeat (first | refine blk_drewN ?_ _ | refine blk_drew ?_ | refine blk_alloc ?_ _)); exact BK127.out⟩, ⟨by (with_reducible repeat (first | refine blk_drewN ?_ _ | refine blk_drew ?_ | refine blk_alloc ?_ _)); exact BK128.out⟩, ⟨by repeat (first | (with_reducible first | exact HB.out | apply below_alloc | apply pw_below_drewN | apply below_drew1 | refine below_set ?_ GE125.out | refine below_set ?_ GE126.out | refine below_set ?_ GE127.out | refine below_set ?_ GE128.out) | exact HB.out)⟩⟩
      case rest =>
        clear HC25
        try clear c1
        try clear c2
        try clear p2
        try clear c3
        try clear c10
        try clear c11
        try clear c12
        try clear c14
        try clear c16
        try clear c17
        try clear c18
        try clear c20
        try clear c21
        try clear c24
        try clear c25
        try clear c26
        try clear c28
        try clear c29
        try clear c30
        try clear hcz13_0
        try clear hcz13_1
        try clear hcz13_2
        try clear hcz13_3
        try clear hcz13_4
        try clear hcz19_0
        try clear hcz19_1
        try clear hcz19_10
        try clear hcz19_2
        try clear hcz19_3
        try clear hcz19_4
        try clear hcz19_5
        try clear hcz19_6
        try clear hcz19_7
        try clear hcz19_8
        try clear hcz19_9
        try clear hcz22_0
        try clear hcz22_1
        try clear hcz22_2
        try clear hcz22_3
        try clear hcz22_4
        try clear hcz24_0
        try clear hcz24_1
        try clear hcz24_10
        try clear hcz24_2
        try clear hcz24_3
        try clear hcz24_4
        try clear hcz24_5
        try clear hcz24_6
        try clear hcz24_7
        try clear hcz24_8
        try clear hcz24_9
        try clear hcz31_0
        try clear hcz31_1
        try clear hcz31_10
        try clear hcz31_2
        try clear hcz31_3
        try clear hcz31_4
        try clear hcz31_5
        try clear hcz31_6
        try clear hcz31_7
        try clear hcz31_8
        try clear hcz31_9
        try clear hcz33_0
        try clear hcz33_1
        try clear hcz33_10
        try clear hcz33_2
        try clear hcz33_3
        try clear hcz33_4
        try clear hcz33_5
        try clear hcz33_6
        try clear hcz33_7
        try clear hcz33_8
        try clear hcz33_9
        try clear hfz13_0
        try clear hfz13_1
        try clear hfz13_2
        try clear hfz13_3
        try clear hfz13_4
        try clear hfz19_0
        try clear hfz19_1
        try clear hfz19_10
        try clear hfz19_2
        try clear hfz19_3
        try clear hfz19_4
        try clear hfz19_5
        try clear hfz19_6
        try clear hfz19_7
        try clear hfz19_8
        try clear hfz19_9
        try clear hfz22_0
        try clear hfz22_1
        try clear hfz22_2
        try clear hfz22_3
        try clear hfz22_4
        try clear hfz24_0
        try clear hfz24_1
        try clear hfz24_10
        try clear hfz24_2
        try clear hfz24_3
        try clear hfz24_4
        try clear hfz24_5
        try clear hfz24_6
        try clear hfz24_7
        try clear hfz24_8
        try clear hfz24_9
        try clear hfz31_0
        try clear hfz31_1
        try clear hfz31_10
        try clear hfz31_2
        try clear hfz31_3
        try clear hfz31_4
        try clear hfz31_5
        try clear hfz31_6
        try clear hfz31_7
        try clear hfz31_8
        try clear hfz31_9
        try clear hfz33_0
        try clear hfz33_1
        try clear hfz33_10
        try clear hfz33_2
        try clear hfz33_3
        try clear hfz33_4
        try clear hfz33_5
        try clear hfz33_6
        try clear hfz33_7
        try clear hfz33_8
        try clear hfz33_9
        try clear p2
        obtain ⟨kq, x126000_24, x126001_24, x126002_24, x126003_24, x126004_24, x126005_24, x126006_24, x126007_24, x126008_24, x126009_24, x126010_24, HA, HJ24, BK125, BK126, BK127, BK128, HB⟩ := hcut
        cases kq with
        | zero => exact absurd HA.out (by simp [track_Step.j1])
        | succ kj24 =>
          have H := HA.out
          clear HA
          simp only [track_Step.j1] at H
          have HC34 := Aside0.mk H
          clear H
          go_upto_region 5 with (fail)
          go_cut [] (fun wc => ∃ (kq : Nat) (x126009_33 : Bool), Aside0 (track_Step.j2 kq x126000_24 x126001_24 x126002_24 x126003_24 x126004_24 x126005_24 x126006_24 x126007_24 x126008_24 x126009_33 x126010_24 a1_0 a1_1 a1_2 a1_3 a1_4 a2_0 a2_1 a2_2 = some (r1, r2, r3, r4, r5, r6, r7, r8, r9, r10, r11)) ∧ Aside0 (kq ≤ kj24) ∧ Aside0 (wc.heap[gb125]? = some (.cells #[.bool x126000_24, .int .i64 x126001_24, .int .i64 x126002_24, .bool x126003_24, .int .i64 x126004_24, .int .i64 x126005_24, .bool x126006_24, .bool x126007_24, .int .i64 x126008_24, .bool x126009_33, .bool x126010_24] 31 (0, 0))) ∧ Aside0 (wc.heap[gb126]? = some (.cells #[.bool a1_0, .int .i64 a1_1, .int .i64 a1_2, .int .i64 a1_3, .int .i64 a1_4] 34 (0, 0))) ∧ Aside0 (wc.heap[gb127]? = some (.cells #[.int .i64 a2_0, .int .i64 a2_1, .int .i64 a2_2] 23 (0, 0))) ∧ Aside0 (wc.heap[gb128]? = some (.cells #[.bool false, .int .i64 0, .int .i64 0, .bool false, .int .i64 0, .int .i64 0, .bool false, .bool false, .int .i64 0, .bool false, .bool false] 31 (0, 0))) ∧ Aside0 (Below w.heap.size w wc))
          case first =>
            have H := HC34.out
            clear HC34
            by_cases c35 : a1_0 = true
            · subst c35
              have H1 : (if x126003_24 = true then (track_Step.j2 kj24 x126000_24 x126001_24 x126002_24 x126003_24 x126004_24 x126005_24 x126006_24 x126007_24 x126008_24 true x126010_24 true a1_1 a1_2 a1_3 a1_4 a2_0 a2_1 a2_2) else (track_Step.j2 kj24 x126000_24 x126001_24 x126002_24 x126003_24 x126004_24 x126005_24 x126006_24 x126007_24 x126008_24 x126006_24 x126010_24 true a1_1 a1_2 a1_3 a1_4 a2_0 a2_1 a2_2)) = some (r1, r2, r3, r4, r5, r6, r7, r8, r9, r10, r11) := by rw [if_pos rfl] at H; exact H
              clear H
              have H := H1
              clear H1
              by_cases c36 : x126003_24 = true
              · subst c36
                have H1 : (track_Step.j2 kj24 x126000_24 x126001_24 x126002_24 true x126004_24 x126005_24 x126006_24 x126007_24 x126008_24 true x126010_24 true a1_1 a1_2 a1_3 a1_4 a2_0 a2_1 a2_2) = some (r1, r2, r3, r4, r5, r6, r7, r8, r9, r10, r11) := by rw [if_pos rfl] at H; exact H
                clear H
                have H := H1
                clear H1
                have H' := Aside0.mk H
                clear H
                have hnb37 := NB126_125.out
                have hnc37 := NB125_126.out
                have hnb38 := NB126_127.out
                have hnc38 := NB127_126.out
                have hnb39 := NB126_128.out
                have hnc39 := NB128_126.out
                have hcz40_0 : wc.cell? ⟨gb126, 0, none⟩ = some (.bool true) := (blk_cell BK126.out 0).trans rfl
                have hcz40_1 : wc.cell? ⟨gb126, 1, none⟩ = some (.int .i64 a1_1) := (blk_cell BK126.out 1).trans rfl
                have hcz40_2 : wc.cell? ⟨gb126, 2, none⟩ = some (.int .i64 a1_2) := (blk_cell BK126.out 2).trans rfl
                have hcz40_3 : wc.cell? ⟨gb126, 3, none⟩ = some (.int .i64 a1_3) := (blk_cell BK126.out 3).trans rfl
                have hcz40_4 : wc.cell? ⟨gb126, 4, none⟩ = some (.int .i64 a1_4) := (blk_cell BK126.out 4).trans rfl
                have hfz40_0 := blk_frozen BK126.out 0
                have hfz40_1 := blk_frozen BK126.out 1
                have hfz40_2 := blk_frozen BK126.out 2
                have hfz40_3 := blk_frozen BK126.out 3
                have hfz40_4 := blk_frozen BK126.out 4
                have hnb41 := NB125_127.out
                have hnc41 := NB127_125.out
                have hnb42 := NB125_128.out
                have hnc42 := NB128_125.out
                have hcz43_0 : wc.cell? ⟨gb125, 0, none⟩ = some (.bool x126000_24) := (blk_cell BK125.out 0).trans rfl
                have hcz43_1 : wc.cell? ⟨gb125, 1, none⟩ = some (.int .i64 x126001_24) := (blk_cell BK125.out 1).trans rfl
                have hcz43_2 : wc.cell? ⟨gb125, 2, none⟩ = some (.int .i64 x126002_24) := (blk_cell BK125.out 2).trans rfl
                have hcz43_3 : wc.cell? ⟨gb125, 3, none⟩ = some (.bool true) := (blk_cell BK125.out 3).trans rfl
                have hcz43_4 : wc.cell? ⟨gb125, 4, none⟩ = some (.int .i64 x126004_24) := (blk_cell BK125.out 4).trans rfl
                have hcz43_5 : wc.cell? ⟨gb125, 5, none⟩ = some (.int .i64 x126005_24) := (blk_cell BK125.out 5).trans rfl
                have hcz43_6 : wc.cell? ⟨gb125, 6, none⟩ = some (.bool x126006_24) := (blk_cell BK125.out 6).trans rfl
                have hcz43_7 : wc.cell? ⟨gb125, 7, none⟩ = some (.bool x126007_24) := (blk_cell BK125.out 7).trans rfl
                have hcz43_8 : wc.cell? ⟨gb125, 8, none⟩ = some (.int .i64 x126008_24) := (blk_cell BK125.out 8).trans rfl
                have hcz43_9 : wc.cell? ⟨gb125, 9, none⟩ = some (.bool x126009_24) := (blk_cell BK125.out 9).trans rfl
                have hcz43_10 : wc.cell? ⟨gb125, 10, none⟩ = some (.bool x126010_24) := (blk_cell BK125.out 10).trans rfl
                have hfz43_0 := blk_frozen BK125.out 0
                have hfz43_1 := blk_frozen BK125.out 1
                have hfz43_2 := blk_frozen BK125.out 2
                have hfz43_3 := blk_frozen BK125.out 3
                have hfz43_4 := blk_frozen BK125.out 4
                have hfz43_5 := blk_frozen BK125.out 5
                have hfz43_6 := blk_frozen BK125.out 6
                have hfz43_7 := blk_frozen BK125.out 7
                have hfz43_8 := blk_frozen BK125.out 8
                have hfz43_9 := blk_frozen BK125.out 9
                have hfz43_10 := blk_frozen BK125.out 10
                go_wp2
                go_meet
                case rel => exact ⟨_, (true), H', ⟨by have := HJ4.out; have := HJ24.out; first | omega | exact Nat.le_refl _⟩, ⟨by (with_reducible repeat (first | refine blk_drewN ?_ _ | refine blk_drew ?_ | refine blk_alloc ?_ _)); refine blk_put (cs := #[.bool x126000_24, .int .i64 x126001_24, .int .i64 x126002_24, .bool true, .int .i64 x126004_24, .int .i64 x126005_24, .bool x126006_24, .bool x126007_24, .int .i64 x126008_24, .bool x126009_24, .bool x126010_24]) ?_ 9 _ rfl; (with_reducible repeat (first | refine blk_drewN ?_ _ | refine blk_drew ?_ | refine blk_alloc ?_ _)); exact BK125.out⟩, ⟨by (with_reducible repeat (first | refine blk_drewN ?_ _ | refine blk_drew ?_ | refine blk_alloc ?_ _)); refine blk_far ?_ NB126_125.out _; (with_reducible repeat (first | refine blk_drewN ?_ _ | refine blk_drew ?_ | refine blk_alloc ?_ _)); exact BK126.out⟩, ⟨by (with_reducible repeat (first | refine blk_drewN ?_ _ | refine blk_drew ?_ | refine blk_alloc ?_ _)); refine blk_far ?_ NB127_125.out _; (with_reducible repeat (first | refine blk_drewN ?_ _ | refine blk_drew ?_ | refine blk_alloc ?_ _)); exact BK127.out⟩, ⟨by (with_reducible repeat (first | refine blk_drewN ?_ _ | refine blk_drew ?_ | refine blk_alloc ?_ _)); refine blk_far ?_ NB128_125.out _; (with_reducible repeat (first | refine blk_drewN ?_ _ | refine blk_drew ?_ | refine blk_alloc ?_ _)); exact BK128.out⟩, ⟨by repeat (first | (with_reducible first | exact HB.out | apply below_alloc | apply pw_below_drewN | apply below_drew1 | refine below_set ?_ GE125.out | refine below_set ?_ GE126.out | refine below_set ?_ GE127.out | refine below_set ?_ GE128.out) | exact HB.out)⟩⟩
              · replace c36 := Bool.eq_false_iff.mpr c36
                subst c36
                have H1 : (track_Step.j2 kj24 x126000_24 x126001_24 x126002_24 false x126004_24 x126005_24 x126006_24 x126007_24 x126008_24 x126006_24 x126010_24 true a1_1 a1_2 a1_3 a1_4 a2_0 a2_1 a2_2) = some (r1, r2, r3, r4, r5, r6, r7, r8, r9, r10, r11) := by rw [if_neg (show ¬ (false = true) by decide)] at H; exact H
                clear H
                have H := H1
                clear H1
                have H' := Aside0.mk H
                clear H
                have hnb44 := NB126_125.out
                have hnc44 := NB125_126.out
                have hnb45 := NB126_127.out
                have hnc45 := NB127_126.out
                have hnb46 := NB126_128.out
                have hnc46 := NB128_126.out
                have hcz47_0 : wc.cell? ⟨gb126, 0, none⟩ = some (.bool true) := (blk_cell BK126.out 0).trans rfl
                have hcz47_1 : wc.cell? ⟨gb126, 1, none⟩ = some (.int .i64 a1_1) := (blk_cell BK126.out 1).trans rfl
                have hcz47_2 : wc.cell? ⟨gb126, 2, none⟩ = some (.int .i64 a1_2) := (blk_cell BK126.out 2).trans rfl
                have hcz47_3 : wc.cell? ⟨gb126, 3, none⟩ = some (.int .i64 a1_3) := (blk_cell BK126.out 3).trans rfl
                have hcz47_4 : wc.cell? ⟨gb126, 4, none⟩ = some (.int .i64 a1_4) := (blk_cell BK126.out 4).trans rfl
                have hfz47_0 := blk_frozen BK126.out 0
                have hfz47_1 := blk_frozen BK126.out 1
                have hfz47_2 := blk_frozen BK126.out 2
                have hfz47_3 := blk_frozen BK126.out 3
                have hfz47_4 := blk_frozen BK126.out 4
                have hnb48 := NB125_127.out
                have hnc48 := NB127_125.out
                have hnb49 := NB125_128.out
                have hnc49 := NB128_125.out
                have hcz50_0 : wc.cell? ⟨gb125, 0, none⟩ = some (.bool x126000_24) := (blk_cell BK125.out 0).trans rfl
                have hcz50_1 : wc.cell? ⟨gb125, 1, none⟩ = some (.int .i64 x126001_24) := (blk_cell BK125.out 1).trans rfl
                have hcz50_2 : wc.cell? ⟨gb125, 2, none⟩ = some (.int .i64 x126002_24) := (blk_cell BK125.out 2).trans rfl
                have hcz50_3 : wc.cell? ⟨gb125, 3, none⟩ = some (.bool false) := (blk_cell BK125.out 3).trans rfl
                have hcz50_4 : wc.cell? ⟨gb125, 4, none⟩ = some (.int .i64 x126004_24) := (blk_cell BK125.out 4).trans rfl
                have hcz50_5 : wc.cell? ⟨gb125, 5, none⟩ = some (.int .i64 x126005_24) := (blk_cell BK125.out 5).trans rfl
                have hcz50_6 : wc.cell? ⟨gb125, 6, none⟩ = some (.bool x126006_24) := (blk_cell BK125.out 6).trans rfl
                have hcz50_7 : wc.cell? ⟨gb125, 7, none⟩ = some (.bool x126007_24) := (blk_cell BK125.out 7).trans rfl
                have hcz50_8 : wc.cell? ⟨gb125, 8, none⟩ = some (.int .i64 x126008_24) := (blk_cell BK125.out 8).trans rfl
                have hcz50_9 : wc.cell? ⟨gb125, 9, none⟩ = some (.bool x126009_24) := (blk_cell BK125.out 9).trans rfl
                have hcz50_10 : wc.cell? ⟨gb125, 10, none⟩ = some (.bool x126010_24) := (blk_cell BK125.out 10).trans rfl
                have hfz50_0 := blk_frozen BK125.out 0
                have hfz50_1 := blk_frozen BK125.out 1
                have hfz50_2 := blk_frozen BK125.out 2
                have hfz50_3 := blk_frozen BK125.out 3
                have hfz50_4 := blk_frozen BK125.out 4
                have hfz50_5 := blk_frozen BK125.out 5
                have hfz50_6 := blk_frozen BK125.out 6
                have hfz50_7 := blk_frozen BK125.out 7
                have hfz50_8 := blk_frozen BK125.out 8
                have hfz50_9 := blk_frozen BK125.out 9
                have hfz50_10 := blk_frozen BK125.out 10
                go_wp2
                go_meet
                case rel => exact ⟨_, (x126006_24), H', ⟨by have := HJ4.out; have := HJ24.out; first | omega | exact Nat.le_refl _⟩, ⟨by (with_reducible repeat (first | refine blk_drewN ?_ _ | refine blk_drew ?_ | refine blk_alloc ?_ _)); refine blk_put (cs := #[.bool x126000_24, .int .i64 x126001_24, .int .i64 x126002_24, .bool false, .int .i64 x126004_24, .int .i64 x126005_24, .bool x126006_24, .bool x126007_24, .int .i64 x126008_24, .bool x126009_24, .bool x126010_24]) ?_ 9 _ rfl; (with_reducible repeat (first | refine blk_drewN ?_ _ | refine blk_drew ?_ | refine blk_alloc ?_ _)); exact BK125.out⟩, ⟨by (with_reducible repeat (first | refine blk_drewN ?_ _ | refine blk_drew ?_ | refine blk_alloc ?_ _)); refine blk_far ?_ NB126_125.out _; (with_reducible repeat (first | refine blk_drewN ?_ _ | refine blk_drew ?_ | refine blk_alloc ?_ _)); exact BK126.out⟩, ⟨by (with_reducible repeat (first | refine blk_drewN ?_ _ | refine blk_drew ?_ | refine blk_alloc ?_ _)); refine blk_far ?_ NB127_125.out _; (with_reducible repeat (first | refine blk_drewN ?_ _ | refine blk_drew ?_ | refine blk_alloc ?_ _)); exact BK127.out⟩, ⟨by (with_reducible repeat (first | refine blk_drewN ?_ _ | refine blk_drew ?_ | refine blk_alloc ?_ _)); refine blk_far ?_ NB128_125.out _; (with_reducible repeat (first | refine blk_drewN ?_ _ | refine blk_drew ?_ | refine blk_alloc ?_ _)); exact BK128.out⟩, ⟨by repeat (first | (with_reducible first | exact HB.out | apply below_alloc | apply pw_below_drewN | apply below_drew1 | refine below_set ?_ GE125.out | refine below_set ?_ GE126.out | refine below_set ?_ GE127.out | refine below_set ?_ GE128.out) | exact HB.out)⟩⟩
            · replace c35 := Bool.eq_false_iff.mpr c35
              subst c35
              have H1 : (track_Step.j2 kj24 x126000_24 x126001_24 x126002_24 x126003_24 x126004_24 x126005_24 x126006_24 x126007_24 x126008_24 true x126010_24 false a1_1 a1_2 a1_3 a1_4 a2_0 a2_1 a2_2) = some (r1, r2, r3, r4, r5, r6, r7, r8, r9, r10, r11) := by rw [if_neg (show ¬ (false = true) by decide)] at H; exact H
              clear H
              have H := H1
              clear H1
              have H' := Aside0.mk H
              clear H
              have hnb51 := NB126_125.out
              have hnc51 := NB125_126.out
              have hnb52 := NB126_127.out
              have hnc52 := NB127_126.out
              have hnb53 := NB126_128.out
              have hnc53 := NB128_126.out
              have hcz54_0 : wc.cell? ⟨gb126, 0, none⟩ = some (.bool false) := (blk_cell BK126.out 0).trans rfl
              have hcz54_1 : wc.cell? ⟨gb126, 1, none⟩ = some (.int .i64 a1_1) := (blk_cell BK126.out 1).trans rfl
              have hcz54_2 : wc.cell? ⟨gb126, 2, none⟩ = some (.int .i64 a1_2) := (blk_cell BK126.out 2).trans rfl
              have hcz54_3 : wc.cell? ⟨gb126, 3, none⟩ = some (.int .i64 a1_3) := (blk_cell BK126.out 3).trans rfl
              have hcz54_4 : wc.cell? ⟨gb126, 4, none⟩ = some (.int .i64 a1_4) := (blk_cell BK126.out 4).trans rfl
              have hfz54_0 := blk_frozen BK126.out 0
              have hfz54_1 := blk_frozen BK126.out 1
              have hfz54_2 := blk_frozen BK126.out 2
              have hfz54_3 := blk_frozen BK126.out 3
              have hfz54_4 := blk_frozen BK126.out 4
              have hnb55 := NB125_127.out
              have hnc55 := NB127_125.out
              have hnb56 := NB125_128.out
              have hnc56 := NB128_125.out
              have hcz57_0 : wc.cell? ⟨gb125, 0, none⟩ = some (.bool x126000_24) := (blk_cell BK125.out 0).trans rfl
              have hcz57_1 : wc.cell? ⟨gb125, 1, none⟩ = some (.int .i64 x126001_24) := (blk_cell BK125.out 1).trans rfl
              have hcz57_2 : wc.cell? ⟨gb125, 2, none⟩ = some (.int .i64 x126002_24) := (blk_cell BK125.out 2).trans rfl
              have hcz57_3 : wc.cell? ⟨gb125, 3, none⟩ = some (.bool x126003_24) := (blk_cell BK125.out 3).trans rfl
              have hcz57_4 : wc.cell? ⟨gb125, 4, none⟩ = some (.int .i64 x126004_24) := (blk_cell BK125.out 4).trans rfl
              have hcz57_5 : wc.cell? ⟨gb125, 5, none⟩ = some (.int .i64 x126005_24) := (blk_cell BK125.out 5).trans rfl
              have hcz57_6 : wc.cell? ⟨gb125, 6, none⟩ = some (.bool x126006_24) := (blk_cell BK125.out 6).trans rfl
              have hcz57_7 : wc.cell? ⟨gb125, 7, none⟩ = some (.bool x126007_24) := (blk_cell BK125.out 7).trans rfl
              have hcz57_8 : wc.cell? ⟨gb125, 8, none⟩ = some (.int .i64 x126008_24) := (blk_cell BK125.out 8).trans rfl
              have hcz57_9 : wc.cell? ⟨gb125, 9, none⟩ = some (.bool x126009_24) := (blk_cell BK125.out 9).trans rfl
              have hcz57_10 : wc.cell? ⟨gb125, 10, none⟩ = some (.bool x126010_24) := (blk_cell BK125.out 10).trans rfl
              have hfz57_0 := blk_frozen BK125.out 0
              have hfz57_1 := blk_frozen BK125.out 1
              have hfz57_2 := blk_frozen BK125.out 2
              have hfz57_3 := blk_frozen BK125.out 3
              have hfz57_4 := blk_frozen BK125.out 4
              have hfz57_5 := blk_frozen BK125.out 5
              have hfz57_6 := blk_frozen BK125.out 6
              have hfz57_7 := blk_frozen BK125.out 7
              have hfz57_8 := blk_frozen BK125.out 8
              have hfz57_9 := blk_frozen BK125.out 9
              have hfz57_10 := blk_frozen BK125.out 10
              go_wp2
              go_meet
              case rel => exact ⟨_, (true), H', ⟨by have := HJ4.out; have := HJ24.out; first | omega | exact Nat.le_refl _⟩, ⟨by (with_reducible repeat (first | refine blk_drewN ?_ _ | refine blk_drew ?_ | refine blk_alloc ?_ _)); refine blk_put (cs := #[.bool x126000_24, .int .i64 x126001_24, .int .i64 x126002_24, .bool x126003_24, .int .i64 x126004_24, .int .i64 x126005_24, .bool x126006_24, .bool x126007_24, .int .i64 x126008_24, .bool x126009_24, .bool x126010_24]) ?_ 9 _ rfl; (with_reducible repeat (first | refine blk_drewN ?_ _ | refine blk_drew ?_ | refine blk_alloc ?_ _)); exact BK125.out⟩, ⟨by (with_reducible repeat (first | refine blk_drewN ?_ _ | refine blk_drew ?_ | refine blk_alloc ?_ _)); refine blk_far ?_ NB126_125.out _; (with_reducible repeat (first | refine blk_drewN ?_ _ | refine blk_drew ?_ | refine blk_alloc ?_ _)); exact BK126.out⟩, ⟨by (with_reducible repeat (first | refine blk_drewN ?_ _ | refine blk_drew ?_ | refine blk_alloc ?_ _)); refine blk_far ?_ NB127_125.out _; (with_reducible repeat (first | refine blk_drewN ?_ _ | refine blk_drew ?_ | refine blk_alloc ?_ _)); exact BK127.out⟩, ⟨by (with_reducible repeat (first | refine blk_drewN ?_ _ | refine blk_drew ?_ | refine blk_alloc ?_ _)); refine blk_far ?_ NB128_125.out _; (with_reducible repeat (first | refine blk_drewN ?_ _ | refine blk_drew ?_ | refine blk_alloc ?_ _)); exact BK128.out⟩, ⟨by repeat (first | (with_reducible first | exact HB.out | apply below_alloc | apply pw_below_drewN | apply below_drew1 | refine below_set ?_ GE125.out | refine below_set ?_ GE126.out | refine below_set ?_ GE127.out | refine below_set ?_ GE128.out) | exact HB.out)⟩⟩
          case rest =>
            clear HC34
            try clear c1
            try clear c2
            try clear p2
            try clear c3
            try clear c4
            try clear c5
            try clear c10
            try clear c11
            try clear c12
            try clear c14
            try clear c16
            try clear c17
            try clear c18
            try clear c20
            try clear c21
            try clear c24
            try clear c25
            try clear c26
            try clear c28
            try clear c29
            try clear c30
            try clear c35
            try clear c36
            try clear c37
            try clear c38
            try clear c39
            try clear c41
            try clear c42
            try clear c44
            try clear c45
            try clear c46
            try clear c48
            try clear c49
            try clear c51
            try clear c52
            try clear c53
            try clear c55
            try clear c56
            try clear hcz13_0
            try clear hcz13_1
            try clear hcz13_2
            try clear hcz13_3
            try clear hcz13_4
            try clear hcz19_0
            try clear hcz19_1
            try clear hcz19_10
            try clear hcz19_2
            try clear hcz19_3
            try clear hcz19_4
            try clear hcz19_5
            try clear hcz19_6
            try clear hcz19_7
            try clear hcz19_8
            try clear hcz19_9
            try clear hcz22_0
            try clear hcz22_1
            try clear hcz22_2
            try clear hcz22_3
            try clear hcz22_4
            try clear hcz24_0
            try clear hcz24_1
            try clear hcz24_10
            try clear hcz24_2
            try clear hcz24_3
            try clear hcz24_4
            try clear hcz24_5
            try clear hcz24_6
            try clear hcz24_7
            try clear hcz24_8
            try clear hcz24_9
            try clear hcz31_0
            try clear hcz31_1
            try clear hcz31_10
            try clear hcz31_2
            try clear hcz31_3
            try clear hcz31_4
            try clear hcz31_5
            try clear hcz31_6
            try clear hcz31_7
            try clear hcz31_8
            try clear hcz31_9
            try clear hcz33_0
            try clear hcz33_1
            try clear hcz33_10
            try clear hcz33_2
            try clear hcz33_3
            try clear hcz33_4
            try clear hcz33_5
            try clear hcz33_6
            try clear hcz33_7
            try clear hcz33_8
            try clear hcz33_9
            try clear hcz40_0
            try clear hcz40_1
            try clear hcz40_2
            try clear hcz40_3
            try clear hcz40_4
            try clear hcz43_0
            try clear hcz43_1
            try clear hcz43_10
            try clear hcz43_2
            try clear hcz43_3
            try clear hcz43_4
            try clear hcz43_5
            try clear hcz43_6
            try clear hcz43_7
            try clear hcz43_8
            try clear hcz43_9
            try clear hcz47_0
            try clear hcz47_1
            try clear hcz47_2
            try clear hcz47_3
            try clear hcz47_4
            try clear hcz50_0
            try clear hcz50_1
            try clear hcz50_10
            try clear hcz50_2
            try clear hcz50_3
            try clear hcz50_4
            try clear hcz50_5
            try clear hcz50_6
            try clear hcz50_7
            try clear hcz50_8
            try clear hcz50_9
            try clear hcz54_0
            try clear hcz54_1
            try clear hcz54_2
            try clear hcz54_3
            try clear hcz54_4
            try clear hcz57_0
            try clear hcz57_1
            try clear hcz57_10
            try clear hcz57_2
            try clear hcz57_3
            try clear hcz57_4
            try clear hcz57_5
            try clear hcz57_6
            try clear hcz57_7
            try clear hcz57_8
            try clear hcz57_9
            try clear hfz13_0
            try clear hfz13_1
            try clear hfz13_2
            try clear hfz13_3
            try clear hfz13_4
            try clear hfz19_0
            try clear hfz19_1
            try clear hfz19_10
            try clear hfz19_2
            try clear hfz19_3
            try clear hfz19_4
            try clear hfz19_5
            try clear hfz19_6
            try clear hfz19_7
            try clear hfz19_8
            try clear hfz19_9
            try clear hfz22_0
            try clear hfz22_1
            try clear hfz22_2
            try clear hfz22_3
            try clear hfz22_4
            try clear hfz24_0
            try clear hfz24_1
            try clear hfz24_10
            try clear hfz24_2
            try clear hfz24_3
            try clear hfz24_4
            try clear hfz24_5
            try clear hfz24_6
            try clear hfz24_7
            try clear hfz24_8
            try clear hfz24_9
            try clear hfz31_0
            try clear hfz31_1
            try clear hfz31_10
            try clear hfz31_2
            try clear hfz31_3
            try clear hfz31_4
            try clear hfz31_5
            try clear hfz31_6
            try clear hfz31_7
            try clear hfz31_8
            try clear hfz31_9
            try clear hfz33_0
            try clear hfz33_1
            try clear hfz33_10
            try clear hfz33_2
            try clear hfz33_3
            try clear hfz33_4
            try clear hfz33_5
            try clear hfz33_6
            try clear hfz33_7
            try clear hfz33_8
            try clear hfz33_9
            try clear hfz40_0
            try clear hfz40_1
            try clear hfz40_2
            try clear hfz40_3
            try clear hfz40_4
            try clear hfz43_0
            try clear hfz43_1
            try clear hfz43_10
            try clear hfz43_2
            try clear hfz43_3
            try clear hfz43_4
            try clear hfz43_5
            try clear hfz43_6
            try clear hfz43_7
            try clear hfz43_8
            try clear hfz43_9
            try clear hfz47_0
            try clear hfz47_1
            try clear hfz47_2
            try clear hfz47_3
            try clear hfz47_4
            try clear hfz50_0
            try clear hfz50_1
            try clear hfz50_10
            try clear hfz50_2
            try clear hfz50_3
            try clear hfz50_4
            try clear hfz50_5
            try clear hfz50_6
            try clear hfz50_7
            try clear hfz50_8
            try clear hfz50_9
            try clear hfz54_0
            try clear hfz54_1
            try clear hfz54_2
            try clear hfz54_3
            try clear hfz54_4
            try clear hfz57_0
            try clear hfz57_1
            try clear hfz57_10
            try clear hfz57_2
            try clear hfz57_3
            try clear hfz57_4
            try clear hfz57_5
            try clear hfz57_6
            try clear hfz57_7
            try clear hfz57_8
            try clear hfz57_9
            try clear p2
            obtain ⟨kq, x126009_33, HA, HJ33, BK125, BK126, BK127, BK128, HB⟩ := hcut
            cases kq with
            | zero => exact absurd HA.out (by simp [track_Step.j2])
            | succ kj33 =>
              have H := HA.out
              clear HA
              simp only [track_Step.j2] at H
              have HC58 := Aside0.mk H
              clear H
              go_upto_region 6 with (fail)
              go_cut [] (fun wc => ∃ (kq : Nat) (x126007_57 : Bool), Aside0 (track_Step.j3 kq x126000_24 x126001_24 x126002_24 x126003_24 x126004_24 x126005_24 x126006_24 x126007_57 x126008_24 x126009_33 x126010_24 a1_0 a1_1 a1_2 a1_3 a1_4 a2_0 a2_1 a2_2 = some (r1, r2, r3, r4, r5, r6, r7, r8, r9, r10, r11)) ∧ Aside0 (kq ≤ kj33) ∧ Aside0 (wc.heap[gb125]? = some (.cells #[.bool x126000_24, .int .i64 x126001_24, .int .i64 x126002_24, .bool x126003_24, .int .i64 x126004_24, .int .i64 x126005_24, .bool x126006_24, .bool x126007_57, .int .i64 x126008_24, .bool x126009_33, .bool x126010_24] 31 (0, 0))) ∧ Aside0 (wc.heap[gb126]? = some (.cells #[.bool a1_0, .int .i64 a1_1, .int .i64 a1_2, .int .i64 a1_3, .int .i64 a1_4] 34 (0, 0))) ∧ Aside0 (wc.heap[gb127]? = some (.cells #[.int .i64 a2_0, .int .i64 a2_1, .int .i64 a2_2] 23 (0, 0))) ∧ Aside0 (wc.heap[gb128]? = some (.cells #[.bool false, .int .i64 0, .int .i64 0, .bool false, .int .i64 0, .int .i64 0, .bool false, .bool false, .int .i64 0, .bool false, .bool false] 31 (0, 0))) ∧ Aside0 (Below w.heap.size w wc))
              case first =>
                have H := HC58.out
                clear HC58
                by_cases c59 : x126009_33 = true
                · subst c59
                  have H1 : (track_Step.j3 kj33 x126000_24 x126001_24 x126002_24 x126003_24 x126004_24 x126005_24 x126006_24 false x126008_24 true x126010_24 a1_0 a1_1 a1_2 a1_3 a1_4 a2_0 a2_1 a2_2) = some (r1, r2, r3, r4, r5, r6, r7, r8, r9, r10, r11) := by rw [if_pos rfl] at H; exact H
                  clear H
                  have H := H1
                  clear H1
                  have H' := Aside0.mk H
                  clear H
                  have hnb60 := NB125_126.out
                  have hnc60 := NB126_125.out
                  have hnb61 := NB125_127.out
                  have hnc61 := NB127_125.out
                  have hnb62 := NB125_128.out
                  have hnc62 := NB128_125.out
                  have hcz63_0 : wc.cell? ⟨gb125, 0, none⟩ = some (.bool x126000_24) := (blk_cell BK125.out 0).trans rfl
                  have hcz63_1 : wc.cell? ⟨gb125, 1, none⟩ = some (.int .i64 x126001_24) := (blk_cell BK125.out 1).trans rfl
                  have hcz63_2 : wc.cell? ⟨gb125, 2, none⟩ = some (.int .i64 x126002_24) := (blk_cell BK125.out 2).trans rfl
                  have hcz63_3 : wc.cell? ⟨gb125, 3, none⟩ = some (.bool x126003_24) := (blk_cell BK125.out 3).trans rfl
                  have hcz63_4 : wc.cell? ⟨gb125, 4, none⟩ = some (.int .i64 x126004_24) := (blk_cell BK125.out 4).trans rfl
                  have hcz63_5 : wc.cell? ⟨gb125, 5, none⟩ = some (.int .i64 x126005_24) := (blk_cell BK125.out 5).trans rfl
                  have hcz63_6 : wc.cell? ⟨gb125, 6, none⟩ = some (.bool x126006_24) := (blk_cell BK125.out 6).trans rfl
                  have hcz63_7 : wc.cell? ⟨gb125, 7, none⟩ = some (.bool x126007_24) := (blk_cell BK125.out 7).trans rfl
                  have hcz63_8 : wc.cell? ⟨gb125, 8, none⟩ = some (.int .i64 x126008_24) := (blk_cell BK125.out 8).trans rfl
                  have hcz63_9 : wc.cell? ⟨gb125, 9, none⟩ = some (.bool true) := (blk_cell BK125.out 9).trans rfl
                  have hcz63_10 : wc.cell? ⟨gb125, 10, none⟩ = some (.bool x126010_24) := (blk_cell BK125.out 10).trans rfl
                  have hfz63_0 := blk_frozen BK125.out 0
                  have hfz63_1 := blk_frozen BK125.out 1
                  have hfz63_2 := blk_frozen BK125.out 2
                  have hfz63_3 := blk_frozen BK125.out 3
                  have hfz63_4 := blk_frozen BK125.out 4
                  have hfz63_5 := blk_frozen BK125.out 5
                  have hfz63_6 := blk_frozen BK125.out 6
                  have hfz63_7 := blk_frozen BK125.out 7
                  have hfz63_8 := blk_frozen BK125.out 8
                  have hfz63_9 := blk_frozen BK125.out 9
                  have hfz63_10 := blk_frozen BK125.out 10
                  go_wp2
                  go_meet
                  case rel => exact ⟨_, (false), H', ⟨by have := HJ4.out; have := HJ24.out; have := HJ33.out; first | omega | exact Nat.le_refl _⟩, ⟨by (with_reducible repeat (first | refine blk_drewN ?_ _ | refine blk_drew ?_ | refine blk_alloc ?_ _)); refine blk_put (cs := #[.bool x126000_24, .int .i64 x126001_24, .int .i64 x126002_24, .bool x126003_24, .int .i64 x126004_24, .int .i64 x126005_24, .bool x126006_24, .bool x126007_24, .int .i64 x126008_24, .bool true, .bool x126010_24]) ?_ 7 _ rfl; (with_reducible repeat (first | refine blk_drewN ?_ _ | refine blk_drew ?_ | refine blk_alloc ?_ _)); exact BK125.out⟩, ⟨by (with_reducible repeat (first | refine blk_drewN ?_ _ | refine blk_drew ?_ | refine blk_alloc ?_ _)); refine blk_far ?_ NB126_125.out _; (with_reducible repeat (first | refine blk_drewN ?_ _ | refine blk_drew ?_ | refine blk_alloc ?_ _)); exact BK126.out⟩, ⟨by (with_reducible repeat (first | refine blk_drewN ?_ _ | refine blk_drew ?_ | refine blk_alloc ?_ _)); refine blk_far ?_ NB127_125.out _; (with_reducible repeat (first | refine blk_drewN ?_ _ | refine blk_drew ?_ | refine blk_alloc ?_ _)); exact BK127.out⟩, ⟨by (with_reducible repeat (first | refine blk_drewN ?_ _ | refine blk_drew ?_ | refine blk_alloc ?_ _)); refine blk_far ?_ NB128_125.out _; (with_reducible repeat (first | refine blk_drewN ?_ _ | refine blk_drew ?_ | refine blk_alloc ?_ _)); exact BK128.out⟩, ⟨by repeat (first | (with_reducible first | exact HB.out | apply below_alloc | apply pw_below_drewN | apply below_drew1 | refine below_set ?_ GE125.out | refine below_set ?_ GE126.out | refine below_set ?_ GE127.out | refine below_set ?_ GE128.out) | exact HB.out)⟩⟩
                · replace c59 := Bool.eq_false_iff.mpr c59
                  subst c59
                  have H1 : ((axle_Clear.f x126000_24 x126001_24 x126002_24 x126003_24).bind fun t151 => (if t151 = true then ((pair_Rest.f x126004_24 x126005_24 x126006_24).bind fun t152 => (track_Step.j3 kj33 x126000_24 x126001_24 x126002_24 x126003_24 x126004_24 x126005_24 x126006_24 t152 x126008_24 false x126010_24 a1_0 a1_1 a1_2 a1_3 a1_4 a2_0 a2_1 a2_2)) else (track_Step.j3 kj33 x126000_24 x126001_24 x126002_24 x126003_24 x126004_24 x126005_24 x126006_24 false x126008_24 false x126010_24 a1_0 a1_1 a1_2 a1_3 a1_4 a2_0 a2_1 a2_2))) = some (r1, r2, r3, r4, r5, r6, r7, r8, r9, r10, r11) := by rw [if_neg (show ¬ (false = true) by decide)] at H; exact H
                  clear H
                  have H := H1
                  clear H1
                  replace H := Option.bind_eq_some_iff.mp H
                  obtain ⟨t151, A640, H⟩ := H
                  replace H : (if t151 = true then ((pair_Rest.f x126004_24 x126005_24 x126006_24).bind fun t152 => (track_Step.j3 kj33 x126000_24 x126001_24 x126002_24 x126003_24 x126004_24 x126005_24 x126006_24 t152 x126008_24 false x126010_24 a1_0 a1_1 a1_2 a1_3 a1_4 a2_0 a2_1 a2_2)) else (track_Step.j3 kj33 x126000_24 x126001_24 x126002_24 x126003_24 x126004_24 x126005_24 x126006_24 false x126008_24 false x126010_24 a1_0 a1_1 a1_2 a1_3 a1_4 a2_0 a2_1 a2_2)) = some (r1, r2, r3, r4, r5, r6, r7, r8, r9, r10, r11) := H
                  have A64 := Aside0.mk A640
                  clear A640
                  by_cases c65 : t151 = true
                  · subst c65
                    have H1 : ((pair_Rest.f x126004_24 x126005_24 x126006_24).bind fun t152 => (track_Step.j3 kj33 x126000_24 x126001_24 x126002_24 x126003_24 x126004_24 x126005_24 x126006_24 t152 x126008_24 false x126010_24 a1_0 a1_1 a1_2 a1_3 a1_4 a2_0 a2_1 a2_2)) = some (r1, r2, r3, r4, r5, r6, r7, r8, r9, r10, r11) := by rw [if_pos rfl] at H; exact H
                    clear H
                    have H := H1
                    clear H1
                    replace H := Option.bind_eq_some_iff.mp H
                    obtain ⟨t152, A660, H⟩ := H
                    replace H : (track_Step.j3 kj33 x126000_24 x126001_24 x126002_24 x126003_24 x126004_24 x126005_24 x126006_24 t152 x126008_24 false x126010_24 a1_0 a1_1 a1_2 a1_3 a1_4 a2_0 a2_1 a2_2) = some (r1, r2, r3, r4, r5, r6, r7, r8, r9, r10, r11) := H
                    have A66 := Aside0.mk A660
                    clear A660
                    have H' := Aside0.mk H
                    clear H
                    have hnb67 := NB125_126.out
                    have hnc67 := NB126_125.out
                    have hnb68 := NB125_127.out
                    have hnc68 := NB127_125.out
                    have hnb69 := NB125_128.out
                    have hnc69 := NB128_125.out
                    have hcz70_0 : wc.cell? ⟨gb125, 0, none⟩ = some (.bool x126000_24) := (blk_cell BK125.out 0).trans rfl
                    have hcz70_1 : wc.cell? ⟨gb125, 1, none⟩ = some (.int .i64 x126001_24) := (blk_cell BK125.out 1).trans rfl
                    have hcz70_2 : wc.cell? ⟨gb125, 2, none⟩ = some (.int .i64 x126002_24) := (blk_cell BK125.out 2).trans rfl
                    have hcz70_3 : wc.cell? ⟨gb125, 3, none⟩ = some (.bool x126003_24) := (blk_cell BK125.out 3).trans rfl
                    have hcz70_4 : wc.cell? ⟨gb125, 4, none⟩ = some (.int .i64 x126004_24) := (blk_cell BK125.out 4).trans rfl
                    have hcz70_5 : wc.cell? ⟨gb125, 5, none⟩ = some (.int .i64 x126005_24) := (blk_cell BK125.out 5).trans rfl
                    have hcz70_6 : wc.cell? ⟨gb125, 6, none⟩ = some (.bool x126006_24) := (blk_cell BK125.out 6).trans rfl
                    have hcz70_7 : wc.cell? ⟨gb125, 7, none⟩ = some (.bool x126007_24) := (blk_cell BK125.out 7).trans rfl
                    have hcz70_8 : wc.cell? ⟨gb125, 8, none⟩ = some (.int .i64 x126008_24) := (blk_cell BK125.out 8).trans rfl
                    have hcz70_9 : wc.cell? ⟨gb125, 9, none⟩ = some (.bool false) := (blk_cell BK125.out 9).trans rfl
                    have hcz70_10 : wc.cell? ⟨gb125, 10, none⟩ = some (.bool x126010_24) := (blk_cell BK125.out 10).trans rfl
                    have hfz70_0 := blk_frozen BK125.out 0
                    have hfz70_1 := blk_frozen BK125.out 1
                    have hfz70_2 := blk_frozen BK125.out 2
                    have hfz70_3 := blk_frozen BK125.out 3
                    have hfz70_4 := blk_frozen BK125.out 4
                    have hfz70_5 := blk_frozen BK125.out 5
                    have hfz70_6 := blk_frozen BK125.out 6
                    have hfz70_7 := blk_frozen BK125.out 7
                    have hfz70_8 := blk_frozen BK125.out 8
                    have hfz70_9 := blk_frozen BK125.out 9
                    have hfz70_10 := blk_frozen BK125.out 10
                    go_wp2_with (first | (go_at_call 26; (with_reducible refine (axle_Clear.calls x126000_24 x126001_24 x126002_24 x126003_24 true _ A64.out).mono ?_); rintro e w71 ⟨rfl, hb⟩; have n0_ := Aside0.mk (blk_below (g := gb125) (o := .cells #[.bool x126000_24, .int .i64 x126001_24, .int .i64 x126002_24, .bool x126003_24, .int .i64 x126004_24, .int .i64 x126005_24, .bool x126006_24, .bool x126007_24, .int .i64 x126008_24, .bool false, .bool x126010_24] 31 (0, 0)) (by (with_reducible repeat (first | refine blk_drewN ?_ _ | refine blk_drew ?_ | refine blk_alloc ?_ _)); exact BK125.out) hb); have n1_ := Aside0.mk (blk_below (g := gb126) (o := .cells #[.bool a1_0, .int .i64 a1_1, .int .i64 a1_2, .int .i64 a1_3, .int .i64 a1_4] 34 (0, 0)) (by (with_reducible repeat (first | refine blk_drewN ?_ _ | refine blk_drew ?_ | refine blk_alloc ?_ _)); exact BK126.out) hb); have n2_ := Aside0.mk (blk_below (g := gb127) (o := .cells #[.int .i64 a2_0, .int .i64 a2_1, .int .i64 a2_2] 23 (0, 0)) (by (with_reducible repeat (first | refine blk_drewN ?_ _ | refine blk_drew ?_ | refine blk_alloc ?_ _)); exact BK127.out) hb); have n3_ := Aside0.mk (blk_below (g := gb128) (o := .cells #[.bool false, .int .i64 0, .int .i64 0, .bool false, .int .i64 0, .int .i64 0, .bool false, .bool false, .int .i64 0, .bool false, .bool false] 31 (0, 0)) (by (with_reducible repeat (first | refine blk_drewN ?_ _ | refine blk_drew ?_ | refine blk_alloc ?_ _)); exact BK128.out) hb); have n4_ := Aside0.mk (below_step (by repeat (first | (with_reducible first | exact HB.out | apply below_alloc | apply pw_below_drewN | apply below_drew1 | refine below_set ?_ GE125.out | refine below_set ?_ GE126.out | refine below_set ?_ GE127.out | refine below_set ?_ GE128.out) | exact HB.out)) hb); clear BK125; clear BK126; clear BK127; clear BK128; clear HB; have BK125 := n0_; have BK126 := n1_; have BK127 := n2_; have BK128 := n3_; have HB := n4_; clear n0_ n1_ n2_ n3_ n4_; (try clear hb); (try clear hb2); (try clear hk); (try clear hi); have hcz72_0 : w71.cell? ⟨gb125, 0, none⟩ = some (.bool x126000_24) := (blk_cell BK125.out 0).trans rfl; have hcz72_1 : w71.cell? ⟨gb125, 1, none⟩ = some (.int .i64 x126001_24) := (blk_cell BK125.out 1).trans rfl; have hcz72_2 : w71.cell? ⟨gb125, 2, none⟩ = some (.int .i64 x126002_24) := (blk_cell BK125.out 2).trans rfl; have hcz72_3 : w71.cell? ⟨gb125, 3, none⟩ = some (.bool x126003_24) := (blk_cell BK125.out 3).trans rfl; have hcz72_4 : w71.cell? ⟨gb125, 4, none⟩ = some (.int .i64 x126004_24) := (blk_cell BK125.out 4).trans rfl; have hcz72_5 : w71.cell? ⟨gb125, 5, none⟩ = some (.int .i64 x126005_24) := (blk_cell BK125.out 5).trans rfl; have hcz72_6 : w71.cell? ⟨gb125, 6, none⟩ = some (.bool x126006_24) := (blk_cell BK125.out 6).trans rfl; have hcz72_7 : w71.cell? ⟨gb125, 7, none⟩ = some (.bool x126007_24) := (blk_cell BK125.out 7).trans rfl; have hcz72_8 : w71.cell? ⟨gb125, 8, none⟩ = some (.int .i64 x126008_24) := (blk_cell BK125.out 8).trans rfl; have hcz72_9 : w71.cell? ⟨gb125, 9, none⟩ = some (.bool false) := (blk_cell BK125.out 9).trans rfl; have hcz72_10 : w71.cell? ⟨gb125, 10, none⟩ = some (.bool x126010_24) := (blk_cell BK125.out 10).trans rfl; have hfz72_0 := blk_frozen BK125.out 0; have hfz72_1 := blk_frozen BK125.out 1; have hfz72_2 := blk_frozen BK125.out 2; have hfz72_3 := blk_frozen BK125.out 3; have hfz72_4 := blk_frozen BK125.out 4; have hfz72_5 := blk_frozen BK125.out 5; have hfz72_6 := blk_frozen BK125.out 6; have hfz72_7 := blk_frozen BK125.out 7; have hfz72_8 := blk_frozen BK125.out 8; have hfz72_9 := blk_frozen BK125.out 9; have hfz72_10 := blk_frozen BK125.out 10) | (go_at_call 27; (with_reducible refine (pair_Rest.calls x126004_24 x126005_24 x126006_24 t152 _ A66.out).mono ?_); rintro e w73 ⟨rfl, hb⟩; have n0_ := Aside0.mk (blk_below (g := gb125) (o := .cells #[.bool x126000_24, .int .i64 x126001_24, .int .i64 x126002_24, .bool x126003_24, .int .i64 x126004_24, .int .i64 x126005_24, .bool x126006_24, .bool x126007_24, .int .i64 x126008_24, .bool false, .bool x126010_24] 31 (0, 0)) (by (with_reducible repeat (first | refine blk_drewN ?_ _ | refine blk_drew ?_ | refine blk_alloc ?_ _)); exact BK125.out) hb); have n1_ := Aside0.mk (blk_below (g := gb126) (o := .cells #[.bool a1_0, .int .i64 a1_1, .int .i64 a1_2, .int .i64 a1_3, .int .i64 a1_4] 34 (0, 0)) (by (with_reducible repeat (first | refine blk_drewN ?_ _ | refine blk_drew ?_ | refine blk_alloc ?_ _)); exact BK126.out) hb); have n2_ := Aside0.mk (blk_below (g := gb127) (o := .cells #[.int .i64 a2_0, .int .i64 a2_1, .int .i64 a2_2] 23 (0, 0)) (by (with_reducible repeat (first | refine blk_drewN ?_ _ | refine blk_drew ?_ | refine blk_alloc ?_ _)); exact BK127.out) hb); have n3_ := Aside0.mk (blk_below (g := gb128) (o := .cells #[.bool false, .int .i64 0, .int .i64 0, .bool false, .int .i64 0, .int .i64 0, .bool false, .bool false, .int .i64 0, .bool false, .bool false] 31 (0, 0)) (by (with_reducible repeat (first | refine blk_drewN ?_ _ | refine blk_drew ?_ | refine blk_alloc ?_ _)); exact BK128.out) hb); have n4_ := Aside0.mk (below_step (by repeat (first | (with_reducible first | exact HB.out | apply below_alloc | apply pw_below_drewN | apply below_drew1 | refine below_set ?_ GE125.out | refine below_set ?_ GE126.out | refine below_set ?_ GE127.out | refine below_set ?_ GE128.out) | exact HB.out)) hb); clear BK125; clear BK126; clear BK127; clear BK128; clear HB; have BK125 := n0_; have BK126 := n1_; have BK127 := n2_; have BK128 := n3_; have HB := n4_; clear n0_ n1_ n2_ n3_ n4_; (try clear hb); (try clear hb2); (try clear hk); (try clear hi); have hcz74_0 : w73.cell? ⟨gb125, 0, none⟩ = some (.bool x126000_24) := (blk_cell BK125.out 0).trans rfl; have hcz74_1 : w73.cell? ⟨gb125, 1, none⟩ = some (.int .i64 x126001_24) := (blk_cell BK125.out 1).trans rfl; have hcz74_2 : w73.cell? ⟨gb125, 2, none⟩ = some (.int .i64 x126002_24) := (blk_cell BK125.out 2).trans rfl; have hcz74_3 : w73.cell? ⟨gb125, 3, none⟩ = some (.bool x126003_24) := (blk_cell BK125.out 3).trans rfl; have hcz74_4 : w73.cell? ⟨gb125, 4, none⟩ = some (.int .i64 x126004_24) := (blk_cell BK125.out 4).trans rfl; have hcz74_5 : w73.cell? ⟨gb125, 5, none⟩ = some (.int .i64 x126005_24) := (blk_cell BK125.out 5).trans rfl; have hcz74_6 : w73.cell? ⟨gb125, 6, none⟩ = some (.bool x126006_24) := (blk_cell BK125.out 6).trans rfl; have hcz74_7 : w73.cell? ⟨gb125, 7, none⟩ = some (.bool x126007_24) := (blk_cell BK125.out 7).trans rfl; have hcz74_8 : w73.cell? ⟨gb125, 8, none⟩ = some (.int .i64 x126008_24) := (blk_cell BK125.out 8).trans rfl; have hcz74_9 : w73.cell? ⟨gb125, 9, none⟩ = some (.bool false) := (blk_cell BK125.out 9).trans rfl; have hcz74_10 : w73.cell? ⟨gb125, 10, none⟩ = some (.bool x126010_24) := (blk_cell BK125.out 10).trans rfl; have hfz74_0 := blk_frozen BK125.out 0; have hfz74_1 := blk_frozen BK125.out 1; have hfz74_2 := blk_frozen BK125.out 2; have hfz74_3 := blk_frozen BK125.out 3; have hfz74_4 := blk_frozen BK125.out 4; have hfz74_5 := blk_frozen BK125.out 5; have hfz74_6 := blk_frozen BK125.out 6; have hfz74_7 := blk_frozen BK125.out 7; have hfz74_8 := blk_frozen BK125.out 8; have hfz74_9 := blk_frozen BK125.out 9; have hfz74_10 := blk_frozen BK125.out 10))
                    go_meet
                    case rel => exact ⟨_, (t152), H', ⟨by have := HJ4.out; have := HJ24.out; have := HJ33.out; first | omega | exact Nat.le_refl _⟩, ⟨by (with_reducible repeat (first | refine blk_drewN ?_ _ | refine blk_drew ?_ | refine blk_alloc ?_ _)); refine blk_put (cs := #[.bool x126000_24, .int .i64 x126001_24, .int .i64 x126002_24, .bool x126003_24, .int .i64 x126004_24, .int .i64 x126005_24, .bool x126006_24, .bool x126007_24, .int .i64 x126008_24, .bool false, .bool x126010_24]) ?_ 7 _ rfl; (with_reducible repeat (first | refine blk_drewN ?_ _ | refine blk_drew ?_ | refine blk_alloc ?_ _)); exact BK125.out⟩, ⟨by (with_reducible repeat (first | refine blk_drewN ?_ _ | refine blk_drew ?_ | refine blk_alloc ?_ _)); refine blk_far ?_ NB126_125.out _; (with_reducible repeat (first | refine blk_drewN ?_ _ | refine blk_drew ?_ | refine blk_alloc ?_ _)); exact BK126.out⟩, ⟨by (with_reducible repeat (first | refine blk_drewN ?_ _ | refine blk_drew ?_ | refine blk_alloc ?_ _)); refine blk_far ?_ NB127_125.out _; (with_reducible repeat (first | refine blk_drewN ?_ _ | refine blk_drew ?_ | refine blk_alloc ?_ _)); exact BK127.out⟩, ⟨by (with_reducible repeat (first | refine blk_drewN ?_ _ | refine blk_drew ?_ | refine blk_alloc ?_ _)); refine blk_far ?_ NB128_125.out _; (with_reducible repeat (first | refine blk_drewN ?_ _ | refine blk_drew ?_ | refine blk_alloc ?_ _)); exact BK128.out⟩, ⟨by repeat (first | (with_reducible first | exact HB.out | apply below_alloc | apply pw_below_drewN | apply below_drew1 | refine below_set ?_ GE125.out | refine below_set ?_ GE126.out | refine below_set ?_ GE127.out | refine below_set ?_ GE128.out) | exact HB.out)⟩⟩
                  · replace c65 := Bool.eq_false_iff.mpr c65
                    subst c65
                    have H1 : (track_Step.j3 kj33 x126000_24 x126001_24 x126002_24 x126003_24 x126004_24 x126005_24 x126006_24 false x126008_24 false x126010_24 a1_0 a1_1 a1_2 a1_3 a1_4 a2_0 a2_1 a2_2) = some (r1, r2, r3, r4, r5, r6, r7, r8, r9, r10, r11) := by rw [if_neg (show ¬ (false = true) by decide)] at H; exact H
                    clear H
                    have H := H1
                    clear H1
                    have H' := Aside0.mk H
                    clear H
                    have hnb75 := NB125_126.out
                    have hnc75 := NB126_125.out
                    have hnb76 := NB125_127.out
                    have hnc76 := NB127_125.out
                    have hnb77 := NB125_128.out
                    have hnc77 := NB128_125.out
                    have hcz78_0 : wc.cell? ⟨gb125, 0, none⟩ = some (.bool x126000_24) := (blk_cell BK125.out 0).trans rfl
                    have hcz78_1 : wc.cell? ⟨gb125, 1, none⟩ = some (.int .i64 x126001_24) := (blk_cell BK125.out 1).trans rfl
                    have hcz78_2 : wc.cell? ⟨gb125, 2, none⟩ = some (.int .i64 x126002_24) := (blk_cell BK125.out 2).trans rfl
                    have hcz78_3 : wc.cell? ⟨gb125, 3, none⟩ = some (.bool x126003_24) := (blk_cell BK125.out 3).trans rfl
                    have hcz78_4 : wc.cell? ⟨gb125, 4, none⟩ = some (.int .i64 x126004_24) := (blk_cell BK125.out 4).trans rfl
                    have hcz78_5 : wc.cell? ⟨gb125, 5, none⟩ = some (.int .i64 x126005_24) := (blk_cell BK125.out 5).trans rfl
                    have hcz78_6 : wc.cell? ⟨gb125, 6, none⟩ = some (.bool x126006_24) := (blk_cell BK125.out 6).trans rfl
                    have hcz78_7 : wc.cell? ⟨gb125, 7, none⟩ = some (.bool x126007_24) := (blk_cell BK125.out 7).trans rfl
                    have hcz78_8 : wc.cell? ⟨gb125, 8, none⟩ = some (.int .i64 x126008_24) := (blk_cell BK125.out 8).trans rfl
                    have hcz78_9 : wc.cell? ⟨gb125, 9, none⟩ = some (.bool false) := (blk_cell BK125.out 9).trans rfl
                    have hcz78_10 : wc.cell? ⟨gb125, 10, none⟩ = some (.bool x126010_24) := (blk_cell BK125.out 10).trans rfl
                    have hfz78_0 := blk_frozen BK125.out 0
                    have hfz78_1 := blk_frozen BK125.out 1
                    have hfz78_2 := blk_frozen BK125.out 2
                    have hfz78_3 := blk_frozen BK125.out 3
                    have hfz78_4 := blk_frozen BK125.out 4
                    have hfz78_5 := blk_frozen BK125.out 5
                    have hfz78_6 := blk_frozen BK125.out 6
                    have hfz78_7 := blk_frozen BK125.out 7
                    have hfz78_8 := blk_frozen BK125.out 8
                    have hfz78_9 := blk_frozen BK125.out 9
                    have hfz78_10 := blk_frozen BK125.out 10
                    go_wp2_with (first | (go_at_call 26; (with_reducible refine (axle_Clear.calls x126000_24 x126001_24 x126002_24 x126003_24 false _ A64.out).mono ?_); rintro e w79 ⟨rfl, hb⟩; have n0_ := Aside0.mk (blk_below (g := gb125) (o := .cells #[.bool x126000_24, .int .i64 x126001_24, .int .i64 x126002_24, .bool x126003_24, .int .i64 x126004_24, .int .i64 x126005_24, .bool x126006_24, .bool x126007_24, .int .i64 x126008_24, .bool false, .bool x126010_24] 31 (0, 0)) (by (with_reducible repeat (first | refine blk_drewN ?_ _ | refine blk_drew ?_ | refine blk_alloc ?_ _)); exact BK125.out) hb); have n1_ := Aside0.mk (blk_below (g := gb126) (o := .cells #[.bool a1_0, .int .i64 a1_1, .int .i64 a1_2, .int .i64 a1_3, .int .i64 a1_4] 34 (0, 0)) (by (with_reducible repeat (first | refine blk_drewN ?_ _ | refine blk_drew ?_ | refine blk_alloc ?_ _)); exact BK126.out) hb); have n2_ := Aside0.mk (blk_below (g := gb127) (o := .cells #[.int .i64 a2_0, .int .i64 a2_1, .int .i64 a2_2] 23 (0, 0)) (by (with_reducible repeat (first | refine blk_drewN ?_ _ | refine blk_drew ?_ | refine blk_alloc ?_ _)); exact BK127.out) hb); have n3_ := Aside0.mk (blk_below (g := gb128) (o := .cells #[.bool false, .int .i64 0, .int .i64 0, .bool false, .int .i64 0, .int .i64 0, .bool false, .bool false, .int .i64 0, .bool false, .bool false] 31 (0, 0)) (by (with_reducible repeat (first | refine blk_drewN ?_ _ | refine blk_drew ?_ | refine blk_alloc ?_ _)); exact BK128.out) hb); have n4_ := Aside0.mk (below_step (by repeat (first | (with_reducible first | exact HB.out | apply below_alloc | apply pw_below_drewN | apply below_drew1 | refine below_set ?_ GE125.out | refine below_set ?_ GE126.out | refine below_set ?_ GE127.out | refine below_set ?_ GE128.out) | exact HB.out)) hb); clear BK125; clear BK126; clear BK127; clear BK128; clear HB; have BK125 := n0_; have BK126 := n1_; have BK127 := n2_; have BK128 := n3_; have HB := n4_; clear n0_ n1_ n2_ n3_ n4_; (try clear hb); (try clear hb2); (try clear hk); (try clear hi); have hcz80_0 : w79.cell? ⟨gb125, 0, none⟩ = some (.bool x126000_24) := (blk_cell BK125.out 0).trans rfl; have hcz80_1 : w79.cell? ⟨gb125, 1, none⟩ = some (.int .i64 x126001_24) := (blk_cell BK125.out 1).trans rfl; have hcz80_2 : w79.cell? ⟨gb125, 2, none⟩ = some (.int .i64 x126002_24) := (blk_cell BK125.out 2).trans rfl; have hcz80_3 : w79.cell? ⟨gb125, 3, none⟩ = some (.bool x126003_24) := (blk_cell BK125.out 3).trans rfl; have hcz80_4 : w79.cell? ⟨gb125, 4, none⟩ = some (.int .i64 x126004_24) := (blk_cell BK125.out 4).trans rfl; have hcz80_5 : w79.cell? ⟨gb125, 5, none⟩ = some (.int .i64 x126005_24) := (blk_cell BK125.out 5).trans rfl; have hcz80_6 : w79.cell? ⟨gb125, 6, none⟩ = some (.bool x126006_24) := (blk_cell BK125.out 6).trans rfl; have hcz80_7 : w79.cell? ⟨gb125, 7, none⟩ = some (.bool x126007_24) := (blk_cell BK125.out 7).trans rfl; have hcz80_8 : w79.cell? ⟨gb125, 8, none⟩ = some (.int .i64 x126008_24) := (blk_cell BK125.out 8).trans rfl; have hcz80_9 : w79.cell? ⟨gb125, 9, none⟩ = some (.bool false) := (blk_cell BK125.out 9).trans rfl; have hcz80_10 : w79.cell? ⟨gb125, 10, none⟩ = some (.bool x126010_24) := (blk_cell BK125.out 10).trans rfl; have hfz80_0 := blk_frozen BK125.out 0; have hfz80_1 := blk_frozen BK125.out 1; have hfz80_2 := blk_frozen BK125.out 2; have hfz80_3 := blk_frozen BK125.out 3; have hfz80_4 := blk_frozen BK125.out 4; have hfz80_5 := blk_frozen BK125.out 5; have hfz80_6 := blk_frozen BK125.out 6; have hfz80_7 := blk_frozen BK125.out 7; have hfz80_8 := blk_frozen BK125.out 8; have hfz80_9 := blk_frozen BK125.out 9; have hfz80_10 := blk_frozen BK125.out 10))
                    go_meet
                    case rel => exact ⟨_, (false), H', ⟨by have := HJ4.out; have := HJ24.out; have := HJ33.out; first | omega | exact Nat.le_refl _⟩, ⟨by (with_reducible repeat (first | refine blk_drewN ?_ _ | refine blk_drew ?_ | refine blk_alloc ?_ _)); refine blk_put (cs := #[.bool x126000_24, .int .i64 x126001_24, .int .i64 x126002_24, .bool x126003_24, .int .i64 x126004_24, .int .i64 x126005_24, .bool x126006_24, .bool x126007_24, .int .i64 x126008_24, .bool false, .bool x126010_24]) ?_ 7 _ rfl; (with_reducible repeat (first | refine blk_drewN ?_ _ | refine blk_drew ?_ | refine blk_alloc ?_ _)); exact BK125.out⟩, ⟨by (with_reducible repeat (first | refine blk_drewN ?_ _ | refine blk_drew ?_ | refine blk_alloc ?_ _)); refine blk_far ?_ NB126_125.out _; (with_reducible repeat (first | refine blk_drewN ?_ _ | refine blk_drew ?_ | refine blk_alloc ?_ _)); exact BK126.out⟩, ⟨by (with_reducible repeat (first | refine blk_drewN ?_ _ | refine blk_drew ?_ | refine blk_alloc ?_ _)); refine blk_far ?_ NB127_125.out _; (with_reducible repeat (first | refine blk_drewN ?_ _ | refine blk_drew ?_ | refine blk_alloc ?_ _)); exact BK127.out⟩, ⟨by (with_reducible repeat (first | refine blk_drewN ?_ _ | refine blk_drew ?_ | refine blk_alloc ?_ _)); refine blk_far ?_ NB128_125.out _; (with_reducible repeat (first | refine blk_drewN ?_ _ | refine blk_drew ?_ | refine blk_alloc ?_ _)); exact BK128.out⟩, ⟨by repeat (first | (with_reducible first | exact HB.out | apply below_alloc | apply pw_below_drewN | apply below_drew1 | refine below_set ?_ GE125.out | refine below_set ?_ GE126.out | refine below_set ?_ GE127.out | refine below_set ?_ GE128.out) | exact HB.out)⟩⟩
              case rest =>
                clear HC58
                try clear c1
                try clear c2
                try clear p2
                try clear c3
                try clear c4
                try clear c5
                try clear c6
                try clear c7
                try clear c10
                try clear c11
                try clear c12
                try clear c14
                try clear c16
                try clear c17
                try clear c18
                try clear c20
                try clear c21
                try clear c24
                try clear c25
                try clear c26
                try clear c28
                try clear c29
                try clear c30
                try clear c35
                try clear c36
                try clear c37
                try clear c38
                try clear c39
                try clear c41
                try clear c42
                try clear c44
                try clear c45
                try clear c46
                try clear c48
                try clear c49
                try clear c51
                try clear c52
                try clear c53
                try clear c55
                try clear c56
                try clear c59
                try clear c60
                try clear c61
                try clear c62
                try clear c65
                try clear c67
                try clear c68
                try clear c69
                try clear c75
                try clear c76
                try clear c77
                try clear hcz13_0
                try clear hcz13_1
                try clear hcz13_2
                try clear hcz13_3
                try clear hcz13_4
                try clear hcz19_0
                try clear hcz19_1
                try clear hcz19_10
                try clear hcz19_2
                try clear hcz19_3
                try clear hcz19_4
                try clear hcz19_5
                try clear hcz19_6
                try clear hcz19_7
                try clear hcz19_8
                try clear hcz19_9
                try clear hcz22_0
                try clear hcz22_1
                try clear hcz22_2
                try clear hcz22_3
                try clear hcz22_4
                try clear hcz24_0
                try clear hcz24_1
                try clear hcz24_10
                try clear hcz24_2
                try clear hcz24_3
                try clear hcz24_4
                try clear hcz24_5
                try clear hcz24_6
                try clear hcz24_7
                try clear hcz24_8
                try clear hcz24_9
                try clear hcz31_0
                try clear hcz31_1
                try clear hcz31_10
                try clear hcz31_2
                try clear hcz31_3
                try clear hcz31_4
                try clear hcz31_5
                try clear hcz31_6
                try clear hcz31_7
                try clear hcz31_8
                try clear hcz31_9
                try clear hcz33_0
                try clear hcz33_1
                try clear hcz33_10
                try clear hcz33_2
                try clear hcz33_3
                try clear hcz33_4
                try clear hcz33_5
                try clear hcz33_6
                try clear hcz33_7
                try clear hcz33_8
                try clear hcz33_9
                try clear hcz40_0
                try clear hcz40_1
                try clear hcz40_2
                try clear hcz40_3
                try clear hcz40_4
                try clear hcz43_0
                try clear hcz43_1
                try clear hcz43_10
                try clear hcz43_2
                try clear hcz43_3
                try clear hcz43_4
                try clear hcz43_5
                try clear hcz43_6
                try clear hcz43_7
                try clear hcz43_8
                try clear hcz43_9
                try clear hcz47_0
                try clear hcz47_1
                try clear hcz47_2
                try clear hcz47_3
                try clear hcz47_4
                try clear hcz50_0
                try clear hcz50_1
                try clear hcz50_10
                try clear hcz50_2
                try clear hcz50_3
                try clear hcz50_4
                try clear hcz50_5
                try clear hcz50_6
                try clear hcz50_7
                try clear hcz50_8
                try clear hcz50_9
                try clear hcz54_0
                try clear hcz54_1
                try clear hcz54_2
                try clear hcz54_3
                try clear hcz54_4
                try clear hcz57_0
                try clear hcz57_1
                try clear hcz57_10
                try clear hcz57_2
                try clear hcz57_3
                try clear hcz57_4
                try clear hcz57_5
                try clear hcz57_6
                try clear hcz57_7
                try clear hcz57_8
                try clear hcz57_9
                try clear hcz63_0
                try clear hcz63_1
                try clear hcz63_10
                try clear hcz63_2
                try clear hcz63_3
                try clear hcz63_4
                try clear hcz63_5
                try clear hcz63_6
                try clear hcz63_7
                try clear hcz63_8
                try clear hcz63_9
                try clear hcz70_0
                try clear hcz70_1
                try clear hcz70_10
                try clear hcz70_2
                try clear hcz70_3
                try clear hcz70_4
                try clear hcz70_5
                try clear hcz70_6
                try clear hcz70_7
                try clear hcz70_8
                try clear hcz70_9
                try clear hcz72_0
                try clear hcz72_1
                try clear hcz72_10
                try clear hcz72_2
                try clear hcz72_3
                try clear hcz72_4
                try clear hcz72_5
                try clear hcz72_6
                try clear hcz72_7
                try clear hcz72_8
                try clear hcz72_9
                try clear hcz74_0
                try clear hcz74_1
                try clear hcz74_10
                try clear hcz74_2
                try clear hcz74_3
                try clear hcz74_4
                try clear hcz74_5
                try clear hcz74_6
                try clear hcz74_7
                try clear hcz74_8
                try clear hcz74_9
                try clear hcz78_0
                try clear hcz78_1
                try clear hcz78_10
                try clear hcz78_2
                try clear hcz78_3
                try clear hcz78_4
                try clear hcz78_5
                try clear hcz78_6
                try clear hcz78_7
                try clear hcz78_8
                try clear hcz78_9
                try clear hcz80_0
                try clear hcz80_1
                try clear hcz80_10
                try clear hcz80_2
                try clear hcz80_3
                try clear hcz80_4
                try clear hcz80_5
                try clear hcz80_6
                try clear hcz80_7
                try clear hcz80_8
                try clear hcz80_9
                try clear hfz13_0
                try clear hfz13_1
                try clear hfz13_2
                try clear hfz13_3
                try clear hfz13_4
                try clear hfz19_0
                try clear hfz19_1
                try clear hfz19_10
                try clear hfz19_2
                try clear hfz19_3
                try clear hfz19_4
                try clear hfz19_5
                try clear hfz19_6
                try clear hfz19_7
                try clear hfz19_8
                try clear hfz19_9
                try clear hfz22_0
                try clear hfz22_1
                try clear hfz22_2
                try clear hfz22_3
                try clear hfz22_4
                try clear hfz24_0
                try clear hfz24_1
                try clear hfz24_10
                try clear hfz24_2
                try clear hfz24_3
                try clear hfz24_4
                try clear hfz24_5
                try clear hfz24_6
                try clear hfz24_7
                try clear hfz24_8
                try clear hfz24_9
                try clear hfz31_0
                try clear hfz31_1
                try clear hfz31_10
                try clear hfz31_2
                try clear hfz31_3
                try clear hfz31_4
                try clear hfz31_5
                try clear hfz31_6
                try clear hfz31_7
                try clear hfz31_8
                try clear hfz31_9
                try clear hfz33_0
                try clear hfz33_1
                try clear hfz33_10
                try clear hfz33_2
                try clear hfz33_3
                try clear hfz33_4
                try clear hfz33_5
                try clear hfz33_6
                try clear hfz33_7
                try clear hfz33_8
                try clear hfz33_9
                try clear hfz40_0
                try clear hfz40_1
                try clear hfz40_2
                try clear hfz40_3
                try clear hfz40_4
                try clear hfz43_0
                try clear hfz43_1
                try clear hfz43_10
                try clear hfz43_2
                try clear hfz43_3
                try clear hfz43_4
                try clear hfz43_5
                try clear hfz43_6
                try clear hfz43_7
                try clear hfz43_8
                try clear hfz43_9
                try clear hfz47_0
                try clear hfz47_1
                try clear hfz47_2
                try clear hfz47_3
                try clear hfz47_4
                try clear hfz50_0
                try clear hfz50_1
                try clear hfz50_10
                try clear hfz50_2
                try clear hfz50_3
                try clear hfz50_4
                try clear hfz50_5
                try clear hfz50_6
                try clear hfz50_7
                try clear hfz50_8
                try clear hfz50_9
                try clear hfz54_0
                try clear hfz54_1
                try clear hfz54_2
                try clear hfz54_3
                try clear hfz54_4
                try clear hfz57_0
                try clear hfz57_1
                try clear hfz57_10
                try clear hfz57_2
                try clear hfz57_3
                try clear hfz57_4
                try clear hfz57_5
                try clear hfz57_6
                try clear hfz57_7
                try clear hfz57_8
                try clear hfz57_9
                try clear hfz63_0
                try clear hfz63_1
                try clear hfz63_10
                try clear hfz63_2
                try clear hfz63_3
                try clear hfz63_4
                try clear hfz63_5
                try clear hfz63_6
                try clear hfz63_7
                try clear hfz63_8
                try clear hfz63_9
                try clear hfz70_0
                try clear hfz70_1
                try clear hfz70_10
                try clear hfz70_2
                try clear hfz70_3
                try clear hfz70_4
                try clear hfz70_5
                try clear hfz70_6
                try clear hfz70_7
                try clear hfz70_8
                try clear hfz70_9
                try clear hfz72_0
                try clear hfz72_1
                try clear hfz72_10
                try clear hfz72_2
                try clear hfz72_3
                try clear hfz72_4
                try clear hfz72_5
                try clear hfz72_6
                try clear hfz72_7
                try clear hfz72_8
                try clear hfz72_9
                try clear hfz74_0
                try clear hfz74_1
                try clear hfz74_10
                try clear hfz74_2
                try clear hfz74_3
                try clear hfz74_4
                try clear hfz74_5
                try clear hfz74_6
                try clear hfz74_7
                try clear hfz74_8
                try clear hfz74_9
                try clear hfz78_0
                try clear hfz78_1
                try clear hfz78_10
                try clear hfz78_2
                try clear hfz78_3
                try clear hfz78_4
                try clear hfz78_5
                try clear hfz78_6
                try clear hfz78_7
                try clear hfz78_8
                try clear hfz78_9
                try clear hfz80_0
                try clear hfz80_1
                try clear hfz80_10
                try clear hfz80_2
                try clear hfz80_3
                try clear hfz80_4
                try clear hfz80_5
                try clear hfz80_6
                try clear hfz80_7
                try clear hfz80_8
                try clear hfz80_9
                try clear p2
                obtain ⟨kq, x126007_57, HA, HJ57, BK125, BK126, BK127, BK128, HB⟩ := hcut
                cases kq with
                | zero => exact absurd HA.out (by simp [track_Step.j3])
                | succ kj57 =>
                  have H := HA.out
                  clear HA
                  simp only [track_Step.j3] at H
                  by_cases c81 : x126007_57 = true
                  · subst c81
                    have H1 : (some (x126000_24, x126001_24, x126002_24, x126003_24, x126004_24, x126005_24, x126006_24, true, 0, x126009_33, false)) = some (r1, r2, r3, r4, r5, r6, r7, r8, r9, r10, r11) := by rw [if_pos rfl] at H; exact H
                    clear H
                    have H := H1
                    clear H1
                    simp only [Option.some.injEq, Prod.mk.injEq] at H
                    obtain ⟨rfl, rfl, rfl, rfl, rfl, rfl, rfl, rfl, rfl, rfl, rfl⟩ := H
                    have hnb82 := NB125_126.out
                    have hnc82 := NB126_125.out
                    have hnb83 := NB125_127.out
                    have hnc83 := NB127_125.out
                    have hnb84 := NB125_128.out
                    have hnc84 := NB128_125.out
                    have hcz85_0 : wc.cell? ⟨gb125, 0, none⟩ = some (.bool x126000_24) := (blk_cell BK125.out 0).trans rfl
                    have hcz85_1 : wc.cell? ⟨gb125, 1, none⟩ = some (.int .i64 x126001_24) := (blk_cell BK125.out 1).trans rfl
                    have hcz85_2 : wc.cell? ⟨gb125, 2, none⟩ = some (.int .i64 x126002_24) := (blk_cell BK125.out 2).trans rfl
                    have hcz85_3 : wc.cell? ⟨gb125, 3, none⟩ = some (.bool x126003_24) := (blk_cell BK125.out 3).trans rfl
                    have hcz85_4 : wc.cell? ⟨gb125, 4, none⟩ = some (.int .i64 x126004_24) := (blk_cell BK125.out 4).trans rfl
                    have hcz85_5 : wc.cell? ⟨gb125, 5, none⟩ = some (.int .i64 x126005_24) := (blk_cell BK125.out 5).trans rfl
                    have hcz85_6 : wc.cell? ⟨gb125, 6, none⟩ = some (.bool x126006_24) := (blk_cell BK125.out 6).trans rfl
                    have hcz85_7 : wc.cell? ⟨gb125, 7, none⟩ = some (.bool true) := (blk_cell BK125.out 7).trans rfl
                    have hcz85_8 : wc.cell? ⟨gb125, 8, none⟩ = some (.int .i64 x126008_24) := (blk_cell BK125.out 8).trans rfl
                    have hcz85_9 : wc.cell? ⟨gb125, 9, none⟩ = some (.bool x126009_33) := (blk_cell BK125.out 9).trans rfl
                    have hcz85_10 : wc.cell? ⟨gb125, 10, none⟩ = some (.bool x126010_24) := (blk_cell BK125.out 10).trans rfl
                    have hfz85_0 := blk_frozen BK125.out 0
                    have hfz85_1 := blk_frozen BK125.out 1
                    have hfz85_2 := blk_frozen BK125.out 2
                    have hfz85_3 := blk_frozen BK125.out 3
                    have hfz85_4 := blk_frozen BK125.out 4
                    have hfz85_5 := blk_frozen BK125.out 5
                    have hfz85_6 := blk_frozen BK125.out 6
                    have hfz85_7 := blk_frozen BK125.out 7
                    have hfz85_8 := blk_frozen BK125.out 8
                    have hfz85_9 := blk_frozen BK125.out 9
                    have hfz85_10 := blk_frozen BK125.out 10
                    have hnb86 := NB128_126.out
                    have hnc86 := NB126_128.out
                    have hnb87 := NB128_127.out
                    have hnc87 := NB127_128.out
                    have hcz88_0 : wc.cell? ⟨gb128, 0, none⟩ = some (.bool false) := (blk_cell BK128.out 0).trans rfl
                    have hcz88_1 : wc.cell? ⟨gb128, 1, none⟩ = some (.int .i64 0) := (blk_cell BK128.out 1).trans rfl
                    have hcz88_2 : wc.cell? ⟨gb128, 2, none⟩ = some (.int .i64 0) := (blk_cell BK128.out 2).trans rfl
                    have hcz88_3 : wc.cell? ⟨gb128, 3, none⟩ = some (.bool false) := (blk_cell BK128.out 3).trans rfl
                    have hcz88_4 : wc.cell? ⟨gb128, 4, none⟩ = some (.int .i64 0) := (blk_cell BK128.out 4).trans rfl
                    have hcz88_5 : wc.cell? ⟨gb128, 5, none⟩ = some (.int .i64 0) := (blk_cell BK128.out 5).trans rfl
                    have hcz88_6 : wc.cell? ⟨gb128, 6, none⟩ = some (.bool false) := (blk_cell BK128.out 6).trans rfl
                    have hcz88_7 : wc.cell? ⟨gb128, 7, none⟩ = some (.bool false) := (blk_cell BK128.out 7).trans rfl
                    have hcz88_8 : wc.cell? ⟨gb128, 8, none⟩ = some (.int .i64 0) := (blk_cell BK128.out 8).trans rfl
                    have hcz88_9 : wc.cell? ⟨gb128, 9, none⟩ = some (.bool false) := (blk_cell BK128.out 9).trans rfl
                    have hcz88_10 : wc.cell? ⟨gb128, 10, none⟩ = some (.bool false) := (blk_cell BK128.out 10).trans rfl
                    have hfz88_0 := blk_frozen BK128.out 0
                    have hfz88_1 := blk_frozen BK128.out 1
                    have hfz88_2 := blk_frozen BK128.out 2
                    have hfz88_3 := blk_frozen BK128.out 3
                    have hfz88_4 := blk_frozen BK128.out 4
                    have hfz88_5 := blk_frozen BK128.out 5
                    have hfz88_6 := blk_frozen BK128.out 6
                    have hfz88_7 := blk_frozen BK128.out 7
                    have hfz88_8 := blk_frozen BK128.out 8
                    have hfz88_9 := blk_frozen BK128.out 9
                    have hfz88_10 := blk_frozen BK128.out 10
                    go_wp2
                    refine bodyPost_ret (results_cell_row rfl _ _ gb128 31 #[.bool x126000_24, .int .i64 x126001_24, .int .i64 x126002_24, .bool x126003_24, .int .i64 x126004_24, .int .i64 x126005_24, .bool x126006_24, .bool true, .int .i64 0, .bool x126009_33, .bool false] (0, 0) _ rfl (by (with_reducible repeat (first | refine blk_drewN ?_ _ | refine blk_drew ?_ | refine blk_alloc ?_ _)); refine blk_put (cs := #[.bool x126000_24, .int .i64 x126001_24, .int .i64 x126002_24, .bool x126003_24, .int .i64 x126004_24, .int .i64 x126005_24, .bool x126006_24, .bool true, .int .i64 0, .bool x126009_33, .bool false]) ?_ 10 _ rfl; (with_reducible repeat (first | refine blk_drewN ?_ _ | refine blk_drew ?_ | refine blk_alloc ?_ _)); refine blk_put (cs := #[.bool x126000_24, .int .i64 x126001_24, .int .i64 x126002_24, .bool x126003_24, .int .i64 x126004_24, .int .i64 x126005_24, .bool x126006_24, .bool true, .int .i64 0, .bool false, .bool false]) ?_ 9 _ rfl; (with_reducible repeat (first | refine blk_drewN ?_ _ | refine blk_drew ?_ | refine blk_alloc ?_ _)); refine blk_put (cs := #[.bool x126000_24, .int .i64 x126001_24, .int .i64 x126002_24, .bool x126003_24, .int .i64 x126004_24, .int .i64 x126005_24, .bool x126006_24, .bool true, .int .i64 0, .bool false, .bool false]) ?_ 8 _ rfl; (with_reducible repeat (first | refine blk_drewN ?_ _ | refine blk_drew ?_ | refine blk_alloc ?_ _)); refine blk_put (cs := #[.bool x126000_24, .int .i64 x126001_24, .int .i64 x126002_24, .bool x126003_24, .int .i64 x126004_24, .int .i64 x126005_24, .bool x126006_24, .bool false, .int .i64 0, .bool false, .bool false]) ?_ 7 _ rfl; (with_reducible repeat (first | refine blk_drewN ?_ _ | refine blk_drew ?_ | refine blk_alloc ?_ _)); refine blk_put (cs := #[.bool x126000_24, .int .i64 x126001_24, .int .i64 x126002_24, .bool x126003_24, .int .i64 x126004_24, .int .i64 x126005_24, .bool false, .bool false, .int .i64 0, .bool false, .bool false]) ?_ 6 _ rfl; (with_reducible repeat (first | refine blk_drewN ?_ _ | refine blk_drew ?_ | refine blk_alloc ?_ _)); refine blk_put (cs := #[.bool x126000_24, .int .i64 x126001_24, .int .i64 x126002_24, .bool x126003_24, .int .i64 x126004_24, .int .i64 0, .bool false, .bool false, .int .i64 0, .bool false, .bool false]) ?_ 5 _ rfl; (with_reducible repeat (first | refine blk_drewN ?_ _ | refine blk_drew ?_ | refine blk_alloc ?_ _)); refine blk_put (cs := #[.bool x126000_24, .int .i64 x126001_24, .int .i64 x126002_24, .bool x126003_24, .int .i64 0, .int .i64 0, .bool false, .bool false, .int .i64 0, .bool false, .bool false]) ?_ 4 _ rfl; (with_reducible repeat (first | refine blk_drewN ?_ _ | refine blk_drew ?_ | refine blk_alloc ?_ _)); refine blk_put (cs := #[.bool x126000_24, .int .i64 x126001_24, .int .i64 x126002_24, .bool false, .int .i64 0, .int .i64 0, .bool false, .bool false, .int .i64 0, .bool false, .bool false]) ?_ 3 _ rfl; (with_reducible repeat (first | refine blk_drewN ?_ _ | refine blk_drew ?_ | refine blk_alloc ?_ _)); refine blk_put (cs := #[.bool x126000_24, .int .i64 x126001_24, .int .i64 0, .bool false, .int .i64 0, .int .i64 0, .bool false, .bool false, .int .i64 0, .bool false, .bool false]) ?_ 2 _ rfl; (with_reducible repeat (first | refine blk_drewN ?_ _ | refine blk_drew ?_ | refine blk_alloc ?_ _)); refine blk_put (cs := #[.bool x126000_24, .int .i64 0, .int .i64 0, .bool false, .int .i64 0, .int .i64 0, .bool false, .bool false, .int .i64 0, .bool false, .bool false]) ?_ 1 _ rfl; (with_reducible repeat (first | refine blk_drewN ?_ _ | refine blk_drew ?_ | refine blk_alloc ?_ _)); refine blk_put (cs := #[.bool false, .int .i64 0, .int .i64 0, .bool false, .int .i64 0, .int .i64 0, .bool false, .bool false, .int .i64 0, .bool false, .bool false]) ?_ 0 _ rfl; (with_reducible repeat (first | refine blk_drewN ?_ _ | refine blk_drew ?_ | refine blk_alloc ?_ _)); refine blk_far ?_ NB128_125.out _; (with_reducible repeat (first | refine blk_drewN ?_ _ | refine blk_drew ?_ | refine blk_alloc ?_ _)); refine blk_far ?_ NB128_125.out _; (with_reducible repeat (first | refine blk_drewN ?_ _ | refine blk_drew ?_ | refine blk_alloc ?_ _)); exact BK128.out) Try.underlying31 rfl (by kernel_rfl)) rfl ?_
                    exact ⟨by first | rfl | (simp [errW_none, errW_some] <;> rfl) | (simp [*, errW_none, errW_some] <;> rfl), by repeat (first | (with_reducible first | exact HB.out | apply below_alloc | apply pw_below_drewN | apply below_drew1 | refine below_set ?_ GE125.out | refine below_set ?_ GE126.out | refine below_set ?_ GE127.out | refine below_set ?_ GE128.out) | exact HB.out)⟩
                  · replace c81 := Bool.eq_false_iff.mpr c81
                    subst c81
                    have H1 : (if a1_3 ≥ 0 then (if a1_3 < 3 then (if a1_3 = 0 then (if x126009_33 = true then (some (x126000_24, x126001_24, x126002_24, x126003_24, x126004_24, x126005_24, x126006_24, false, (mn (mx x126008_24 0) 1073741823) + 1, x126009_33, true)) else (some (x126000_24, x126001_24, x126002_24, x126003_24, x126004_24, x126005_24, x126006_24, false, (mn (mx x126008_24 0) 1073741823) + 1, x126009_33, decide (((mn (mx x126008_24 0) 1073741823) + 1) > a2_0)))) else (if a1_3 = 1 then (if x126009_33 = true then (some (x126000_24, x126001_24, x126002_24, x126003_24, x126004_24, x126005_24, x126006_24, false, (mn (mx x126008_24 0) 1073741823) + 1, x126009_33, true)) else (some (x126000_24, x126001_24, x126002_24, x126003_24, x126004_24, x126005_24, x126006_24, false, (mn (mx x126008_24 0) 1073741823) + 1, x126009_33, decide (((mn (mx x126008_24 0) 1073741823) + 1) > a2_1)))) else (if a1_3 = 2 then (if x126009_33 = true then (some (x126000_24, x126001_24, x126002_24, x126003_24, x126004_24, x126005_24, x126006_24, false, (mn (mx x126008_24 0) 1073741823) + 1, x126009_33, true)) else (some (x126000_24, x126001_24, x126002_24, x126003_24, x126004_24, x126005_24, x126006_24, false, (mn (mx x126008_24 0) 1073741823) + 1, x126009_33, decide (((mn (mx x126008_24 0) 1073741823) + 1) > a2_2)))) else (none)))) else (if x126009_33 = true then (some (x126000_24, x126001_24, x126002_24, x126003_24, x126004_24, x126005_24, x126006_24, false, (mn (mx x126008_24 0) 1073741823) + 1, x126009_33, true)) else (some (x126000_24, x126001_24, x126002_24, x126003_24, x126004_24, x126005_24, x126006_24, false, (mn (mx x126008_24 0) 1073741823) + 1, x126009_33, decide (((mn (mx x126008_24 0) 1073741823) + 1) > 0))))) else (if x126009_33 = true then (some (x126000_24, x126001_24, x126002_24, x126003_24, x126004_24, x126005_24, x126006_24, false, (mn (mx x126008_24 0) 1073741823) + 1, x126009_33, true)) else (some (x126000_24, x126001_24, x126002_24, x126003_24, x126004_24, x126005_24, x126006_24, false, (mn (mx x126008_24 0) 1073741823) + 1, x126009_33, decide (((mn (mx x126008_24 0) 1073741823) + 1) > 0))))) = some (r1, r2, r3, r4, r5, r6, r7, r8, r9, r10, r11) := by rw [if_neg (show ¬ (false = true) by decide)] at H; exact H
                    clear H
                    have H := H1
                    clear H1
                    obtain ⟨ji89, hji89⟩ : ∃ j_ : Int, (mx x126008_24 0) = j_ := ⟨_, rfl⟩
                    replace H : (if a1_3 ≥ 0 then (if a1_3 < 3 then (if a1_3 = 0 then (if x126009_33 = true then (some (x126000_24, x126001_24, x126002_24, x126003_24, x126004_24, x126005_24, x126006_24, false, (mn (ji89) 1073741823) + 1, x126009_33, true)) else (some (x126000_24, x126001_24, x126002_24, x126003_24, x126004_24, x126005_24, x126006_24, false, (mn (ji89) 1073741823) + 1, x126009_33, decide (((mn (ji89) 1073741823) + 1) > a2_0)))) else (if a1_3 = 1 then (if x126009_33 = true then (some (x126000_24, x126001_24, x126002_24, x126003_24, x126004_24, x126005_24, x126006_24, false, (mn (ji89) 1073741823) + 1, x126009_33, true)) else (some (x126000_24, x126001_24, x126002_24, x126003_24, x126004_24, x126005_24, x126006_24, false, (mn (ji89) 1073741823) + 1, x126009_33, decide (((mn (ji89) 1073741823) + 1) > a2_1)))) else (if a1_3 = 2 then (if x126009_33 = true then (some (x126000_24, x126001_24, x126002_24, x126003_24, x126004_24, x126005_24, x126006_24, false, (mn (ji89) 1073741823) + 1, x126009_33, true)) else (some (x126000_24, x126001_24, x126002_24, x126003_24, x126004_24, x126005_24, x126006_24, false, (mn (ji89) 1073741823) + 1, x126009_33, decide (((mn (ji89) 1073741823) + 1) > a2_2)))) else (none)))) else (if x126009_33 = true then (some (x126000_24, x126001_24, x126002_24, x126003_24, x126004_24, x126005_24, x126006_24, false, (mn (ji89) 1073741823) + 1, x126009_33, true)) else (some (x126000_24, x126001_24, x126002_24, x126003_24, x126004_24, x126005_24, x126006_24, false, (mn (ji89) 1073741823) + 1, x126009_33, decide (((mn (ji89) 1073741823) + 1) > 0))))) else (if x126009_33 = true then (some (x126000_24, x126001_24, x126002_24, x126003_24, x126004_24, x126005_24, x126006_24, false, (mn (ji89) 1073741823) + 1, x126009_33, true)) else (some (x126000_24, x126001_24, x126002_24, x126003_24, x126004_24, x126005_24, x126006_24, false, (mn (ji89) 1073741823) + 1, x126009_33, decide (((mn (ji89) 1073741823) + 1) > 0))))) = some (r1, r2, r3, r4, r5, r6, r7, r8, r9, r10, r11) := by first | (rw [hji89] at H; exact H) | (simp only [hji89] at H ⊢; exact H)
                    have hji89_ : (if x126008_24 < 0 then 0 else x126008_24) = ji89 := hji89
                    obtain ⟨ji90, hji90⟩ : ∃ j_ : Int, (mn (ji89) 1073741823) = j_ := ⟨_, rfl⟩
                    replace H : (if a1_3 ≥ 0 then (if a1_3 < 3 then (if a1_3 = 0 then (if x126009_33 = true then (some (x126000_24, x126001_24, x126002_24, x126003_24, x126004_24, x126005_24, x126006_24, false, (ji90) + 1, x126009_33, true)) else (some (x126000_24, x126001_24, x126002_24, x126003_24, x126004_24, x126005_24, x126006_24, false, (ji90) + 1, x126009_33, decide (((ji90) + 1) > a2_0)))) else (if a1_3 = 1 then (if x126009_33 = true then (some (x126000_24, x126001_24, x126002_24, x126003_24, x126004_24, x126005_24, x126006_24, false, (ji90) + 1, x126009_33, true)) else (some (x126000_24, x126001_24, x126002_24, x126003_24, x126004_24, x126005_24, x126006_24, false, (ji90) + 1, x126009_33, decide (((ji90) + 1) > a2_1)))) else (if a1_3 = 2 then (if x126009_33 = true then (some (x126000_24, x126001_24, x126002_24, x126003_24, x126004_24, x126005_24, x126006_24, false, (ji90) + 1, x126009_33, true)) else (some (x126000_24, x126001_24, x126002_24, x126003_24, x126004_24, x126005_24, x126006_24, false, (ji90) + 1, x126009_33, decide (((ji90) + 1) > a2_2)))) else (none)))) else (if x126009_33 = true then (some (x126000_24, x126001_24, x126002_24, x126003_24, x126004_24, x126005_24, x126006_24, false, (ji90) + 1, x126009_33, true)) else (some (x126000_24, x126001_24, x126002_24, x126003_24, x126004_24, x126005_24, x126006_24, false, (ji90) + 1, x126009_33, decide (((ji90) + 1) > 0))))) else (if x126009_33 = true then (some (x126000_24, x126001_24, x126002_24, x126003_24, x126004_24, x126005_24, x126006_24, false, (ji90) + 1, x126009_33, true)) else (some (x126000_24, x126001_24, x126002_24, x126003_24, x126004_24, x126005_24, x126006_24, false, (ji90) + 1, x126009_33, decide (((ji90) + 1) > 0))))) = some (r1, r2, r3, r4, r5, r6, r7, r8, r9, r10, r11) := by first | (rw [hji90] at H; exact H) | (simp only [hji90] at H ⊢; exact H)
                    have hji90_ : (if 1073741823 < (ji89) then 1073741823 else (ji89)) = ji90 := hji90
                    by_cases c91 : a1_3 ≥ 0
                    · rw [if_pos c91] at H
                      have c91b0 : decide (0 ≤ a1_3) = true := decide_eq_true c91
                      clear c91
                      by_cases c92 : a1_3 < 3
                      · rw [if_pos c92] at H
                        have c92b0 : decide (a1_3 < 3) = true := decide_eq_true c92
                        clear c92
                        by_cases c93 : a1_3 = 0
                        · rw [if_pos c93] at H
                          have c93b0 : (a1_3 == 0) = true := beq_iff_eq.mpr c93
                          have c93b1 : (a1_3 != 0) = false := bne_eq_false_iff_eq.mpr c93
                          by_cases c94 : x126009_33 = true
                          · subst c94
                            have H1 : (some (x126000_24, x126001_24, x126002_24, x126003_24, x126004_24, x126005_24, x126006_24, false, (ji90) + 1, true, true)) = some (r1, r2, r3, r4, r5, r6, r7, r8, r9, r10, r11) := by rw [if_pos rfl] at H; exact H
                            clear H
                            have H := H1
                            clear H1
                            simp only [Option.some.injEq, Prod.mk.injEq] at H
                            obtain ⟨rfl, rfl, rfl, rfl, rfl, rfl, rfl, rfl, rfl, rfl, rfl⟩ := H
                            have hnb95 := NB125_126.out
                            have hnc95 := NB126_125.out
                            have hnb96 := NB125_127.out
                            have hnc96 := NB127_125.out
                            have hnb97 := NB125_128.out
                            have hnc97 := NB128_125.out
                            have hcz98_0 : wc.cell? ⟨gb125, 0, none⟩ = some (.bool x126000_24) := (blk_cell BK125.out 0).trans rfl
                            have hcz98_1 : wc.cell? ⟨gb125, 1, none⟩ = some (.int .i64 x126001_24) := (blk_cell BK125.out 1).trans rfl
                            have hcz98_2 : wc.cell? ⟨gb125, 2, none⟩ = some (.int .i64 x126002_24) := (blk_cell BK125.out 2).trans rfl
                            have hcz98_3 : wc.cell? ⟨gb125, 3, none⟩ = some (.bool x126003_24) := (blk_cell BK125.out 3).trans rfl
                            have hcz98_4 : wc.cell? ⟨gb125, 4, none⟩ = some (.int .i64 x126004_24) := (blk_cell BK125.out 4).trans rfl
                            have hcz98_5 : wc.cell? ⟨gb125, 5, none⟩ = some (.int .i64 x126005_24) := (blk_cell BK125.out 5).trans rfl
                            have hcz98_6 : wc.cell? ⟨gb125, 6, none⟩ = some (.bool x126006_24) := (blk_cell BK125.out 6).trans rfl
                            have hcz98_7 : wc.cell? ⟨gb125, 7, none⟩ = some (.bool false) := (blk_cell BK125.out 7).trans rfl
                            have hcz98_8 : wc.cell? ⟨gb125, 8, none⟩ = some (.int .i64 x126008_24) := (blk_cell BK125.out 8).trans rfl
                            have hcz98_9 : wc.cell? ⟨gb125, 9, none⟩ = some (.bool true) := (blk_cell BK125.out 9).trans rfl
                            have hcz98_10 : wc.cell? ⟨gb125, 10, none⟩ = some (.bool x126010_24) := (blk_cell BK125.out 10).trans rfl
                            have hfz98_0 := blk_frozen BK125.out 0
                            have hfz98_1 := blk_frozen BK125.out 1
                            have hfz98_2 := blk_frozen BK125.out 2
                            have hfz98_3 := blk_frozen BK125.out 3
                            have hfz98_4 := blk_frozen BK125.out 4
                            have hfz98_5 := blk_frozen BK125.out 5
                            have hfz98_6 := blk_frozen BK125.out 6
                            have hfz98_7 := blk_frozen BK125.out 7
                            have hfz98_8 := blk_frozen BK125.out 8
                            have hfz98_9 := blk_frozen BK125.out 9
                            have hfz98_10 := blk_frozen BK125.out 10
                            have hnb99 := NB126_127.out
                            have hnc99 := NB127_126.out
                            have hnb100 := NB126_128.out
                            have hnc100 := NB128_126.out
                            have hcz101_0 : wc.cell? ⟨gb126, 0, none⟩ = some (.bool a1_0) := (blk_cell BK126.out 0).trans rfl
                            have hcz101_1 : wc.cell? ⟨gb126, 1, none⟩ = some (.int .i64 a1_1) := (blk_cell BK126.out 1).trans rfl
                            have hcz101_2 : wc.cell? ⟨gb126, 2, none⟩ = some (.int .i64 a1_2) := (blk_cell BK126.out 2).trans rfl
                            have hcz101_3 : wc.cell? ⟨gb126, 3, none⟩ = some (.int .i64 a1_3) := (blk_cell BK126.out 3).trans rfl
                            have hcz101_4 : wc.cell? ⟨gb126, 4, none⟩ = some (.int .i64 a1_4) := (blk_cell BK126.out 4).trans rfl
                            have hfz101_0 := blk_frozen BK126.out 0
                            have hfz101_1 := blk_frozen BK126.out 1
                            have hfz101_2 := blk_frozen BK126.out 2
                            have hfz101_3 := blk_frozen BK126.out 3
                            have hfz101_4 := blk_frozen BK126.out 4
                            have hnb102 := NB127_128.out
                            have hnc102 := NB128_127.out
                            have hcz103_0 : wc.cell? ⟨gb127, 0, none⟩ = some (.int .i64 a2_0) := (blk_cell BK127.out 0).trans rfl
                            have hcz103_1 : wc.cell? ⟨gb127, 1, none⟩ = some (.int .i64 a2_1) := (blk_cell BK127.out 1).trans rfl
                            have hcz103_2 : wc.cell? ⟨gb127, 2, none⟩ = some (.int .i64 a2_2) := (blk_cell BK127.out 2).trans rfl
                            have hfz103_0 := blk_frozen BK127.out 0
                            have hfz103_1 := blk_frozen BK127.out 1
                            have hfz103_2 := blk_frozen BK127.out 2
                            have hcz104_0 : wc.cell? ⟨gb128, 0, none⟩ = some (.bool false) := (blk_cell BK128.out 0).trans rfl
                            have hcz104_1 : wc.cell? ⟨gb128, 1, none⟩ = some (.int .i64 0) := (blk_cell BK128.out 1).trans rfl
                            have hcz104_2 : wc.cell? ⟨gb128, 2, none⟩ = some (.int .i64 0) := (blk_cell BK128.out 2).trans rfl
                            have hcz104_3 : wc.cell? ⟨gb128, 3, none⟩ = some (.bool false) := (blk_cell BK128.out 3).trans rfl
                            have hcz104_4 : wc.cell? ⟨gb128, 4, none⟩ = some (.int .i64 0) := (blk_cell BK128.out 4).trans rfl
                            have hcz104_5 : wc.cell? ⟨gb128, 5, none⟩ = some (.int .i64 0) := (blk_cell BK128.out 5).trans rfl
                            have hcz104_6 : wc.cell? ⟨gb128, 6, none⟩ = some (.bool false) := (blk_cell BK128.out 6).trans rfl
                            have hcz104_7 : wc.cell? ⟨gb128, 7, none⟩ = some (.bool false) := (blk_cell BK128.out 7).trans rfl
                            have hcz104_8 : wc.cell? ⟨gb128, 8, none⟩ = some (.int .i64 0) := (blk_cell BK128.out 8).trans rfl
                            have hcz104_9 : wc.cell? ⟨gb128, 9, none⟩ = some (.bool false) := (blk_cell BK128.out 9).trans rfl
                            have hcz104_10 : wc.cell? ⟨gb128, 10, none⟩ = some (.bool false) := (blk_cell BK128.out 10).trans rfl
                            have hfz104_0 := blk_frozen BK128.out 0
                            have hfz104_1 := blk_frozen BK128.out 1
                            have hfz104_2 := blk_frozen BK128.out 2
                            have hfz104_3 := blk_frozen BK128.out 3
                            have hfz104_4 := blk_frozen BK128.out 4
                            have hfz104_5 := blk_frozen BK128.out 5
                            have hfz104_6 := blk_frozen BK128.out 6
                            have hfz104_7 := blk_frozen BK128.out 7
                            have hfz104_8 := blk_frozen BK128.out 8
                            have hfz104_9 := blk_frozen BK128.out 9
                            have hfz104_10 := blk_frozen BK128.out 10
                            go_wp2
                            refine bodyPost_ret (results_cell_row rfl _ _ gb128 31 #[.bool x126000_24, .int .i64 x126001_24, .int .i64 x126002_24, .bool x126003_24, .int .i64 x126004_24, .int .i64 x126005_24, .bool x126006_24, .bool false, .int .i64 ((ji90) + 1), .bool true, .bool true] (0, 0) _ rfl (by (with_reducible repeat (first | refine blk_drewN ?_ _ | refine blk_drew ?_ | refine blk_alloc ?_ _)); refine blk_put (cs := #[.bool x126000_24, .int .i64 x126001_24, .int .i64 x126002_24, .bool x126003_24, .int .i64 x126004_24, .int .i64 x126005_24, .bool x126006_24, .bool false, .int .i64 ((ji90) + 1), .bool true, .bool false]) ?_ 10 _ rfl; (with_reducible repeat (first | refine blk_drewN ?_ _ | refine blk_drew ?_ | refine blk_alloc ?_ _)); refine blk_put (cs := #[.bool x126000_24, .int .i64 x126001_24, .int .i64 x126002_24, .bool x126003_24, .int .i64 x126004_24, .int .i64 x126005_24, .bool x126006_24, .bool false, .int .i64 ((ji90) + 1), .bool false, .bool false]) ?_ 9 _ rfl; (with_reducible repeat (first | refine blk_drewN ?_ _ | refine blk_drew ?_ | refine blk_alloc ?_ _)); refine blk_put (cs := #[.bool x126000_24, .int .i64 x126001_24, .int .i64 x126002_24, .bool x126003_24, .int .i64 x126004_24, .int .i64 x126005_24, .bool x126006_24, .bool false, .int .i64 0, .bool false, .bool false]) ?_ 8 _ rfl; (with_reducible repeat (first | refine blk_drewN ?_ _ | refine blk_drew ?_ | refine blk_alloc ?_ _)); refine blk_put (cs := #[.bool x126000_24, .int .i64 x126001_24, .int .i64 x126002_24, .bool x126003_24, .int .i64 x126004_24, .int .i64 x126005_24, .bool x126006_24, .bool false, .int .i64 0, .bool false, .bool false]) ?_ 7 _ rfl; (with_reducible repeat (first | refine blk_drewN ?_ _ | refine blk_drew ?_ | refine blk_alloc ?_ _)); refine blk_put (cs := #[.bool x126000_24, .int .i64 x126001_24, .int .i64 x126002_24, .bool x126003_24, .int .i64 x126004_24, .int .i64 x126005_24, .bool false, .bool false, .int .i64 0, .bool false, .bool false]) ?_ 6 _ rfl; (with_reducible repeat (first | refine blk_drewN ?_ _ | refine blk_drew ?_ | refine blk_alloc ?_ _)); refine blk_put (cs := #[.bool x126000_24, .int .i64 x126001_24, .int .i64 x126002_24, .bool x126003_24, .int .i64 x126004_24, .int .i64 0, .bool false, .bool false, .int .i64 0, .bool false, .bool false]) ?_ 5 _ rfl; (with_reducible repeat (first | refine blk_drewN ?_ _ | refine blk_drew ?_ | refine blk_alloc ?_ _)); refine blk_put (cs := #[.bool x126000_24, .int .i64 x126001_24, .int .i64 x126002_24, .bool x126003_24, .int .i64 0, .int .i64 0, .bool false, .bool false, .int .i64 0, .bool false, .bool false]) ?_ 4 _ rfl; (with_reducible repeat (first | refine blk_drewN ?_ _ | refine blk_drew ?_ | refine blk_alloc ?_ _)); refine blk_put (cs := #[.bool x126000_24, .int .i64 x126001_24, .int .i64 x126002_24, .bool false, .int .i64 0, .int .i64 0, .bool false, .bool false, .int .i64 0, .bool false, .bool false]) ?_ 3 _ rfl; (with_reducible repeat (first | refine blk_drewN ?_ _ | refine blk_drew ?_ | refine blk_alloc ?_ _)); refine blk_put (cs := #[.bool x126000_24, .int .i64 x126001_24, .int .i64 0, .bool false, .int .i64 0, .int .i64 0, .bool false, .bool false, .int .i64 0, .bool false, .bool false]) ?_ 2 _ rfl; (with_reducible repeat (first | refine blk_drewN ?_ _ | refine blk_drew ?_ | refine blk_alloc ?_ _)); refine blk_put (cs := #[.bool x126000_24, .int .i64 0, .int .i64 0, .bool false, .int .i64 0, .int .i64 0, .bool false, .bool false, .int .i64 0, .bool false, .bool false]) ?_ 1 _ rfl; (with_reducible repeat (first | refine blk_drewN ?_ _ | refine blk_drew ?_ | refine blk_alloc ?_ _)); refine blk_put (cs := #[.bool false, .int .i64 0, .int .i64 0, .bool false, .int .i64 0, .int .i64 0, .bool false, .bool false, .int .i64 0, .bool false, .bool false]) ?_ 0 _ rfl; (with_reducible repeat (first | refine blk_drewN ?_ _ | refine blk_drew ?_ | refine blk_alloc ?_ _)); refine blk_far ?_ NB128_125.out _; (with_reducible repeat (first | refine blk_drewN ?_ _ | refine blk_drew ?_ | refine blk_alloc ?_ _)); refine blk_far ?_ NB128_125.out _; (with_reducible repeat (first | refine blk_drewN ?_ _ | refine blk_drew ?_ | refine blk_alloc ?_ _)); exact BK128.out) Try.underlying31 rfl (by kernel_rfl)) rfl ?_
                            exact ⟨by first | rfl | (simp [errW_none, errW_some] <;> rfl) | (simp only [← hji89, ← hji90]; first | rfl | (simp [errW_none, errW_some] <;> rfl)) | (simp [*, errW_none, errW_some] <;> rfl), by repeat (first | (with_reducible first | exact HB.out | apply below_alloc | apply pw_below_drewN | apply below_drew1 | refine below_set ?_ GE125.out | refine below_set ?_ GE126.out | refine below_set ?_ GE127.out | refine below_set ?_ GE128.out) | exact HB.out)⟩
                          · replace c94 := Bool.eq_false_iff.mpr c94
                            subst c94
                            have H1 : (some (x126000_24, x126001_24, x126002_24, x126003_24, x126004_24, x126005_24, x126006_24, false, (ji90) + 1, false, decide (((ji90) + 1) > a2_0))) = some (r1, r2, r3, r4, r5, r6, r7, r8, r9, r10, r11) := by rw [if_neg (show ¬ (false = true) by decide)] at H; exact H
                            clear H
                            have H := H1
                            clear H1
                            simp only [Option.some.injEq, Prod.mk.injEq] at H
                            obtain ⟨rfl, rfl, rfl, rfl, rfl, rfl, rfl, rfl, rfl, rfl, rfl⟩ := H
                            have hnb105 := NB125_126.out
                            have hnc105 := NB126_125.out
                            have hnb106 := NB125_127.out
                            have hnc106 := NB127_125.out
                            have hnb107 := NB125_128.out
                            have hnc107 := NB128_125.out
                            have hcz108_0 : wc.cell? ⟨gb125, 0, none⟩ = some (.bool x126000_24) := (blk_cell BK125.out 0).trans rfl
                            have hcz108_1 : wc.cell? ⟨gb125, 1, none⟩ = some (.int .i64 x126001_24) := (blk_cell BK125.out 1).trans rfl
                            have hcz108_2 : wc.cell? ⟨gb125, 2, none⟩ = some (.int .i64 x126002_24) := (blk_cell BK125.out 2).trans rfl
                            have hcz108_3 : wc.cell? ⟨gb125, 3, none⟩ = some (.bool x126003_24) := (blk_cell BK125.out 3).trans rfl
                            have hcz108_4 : wc.cell? ⟨gb125, 4, none⟩ = some (.int .i64 x126004_24) := (blk_cell BK125.out 4).trans rfl
                            have hcz108_5 : wc.cell? ⟨gb125, 5, none⟩ = some (.int .i64 x126005_24) := (blk_cell BK125.out 5).trans rfl
                            have hcz108_6 : wc.cell? ⟨gb125, 6, none⟩ = some (.bool x126006_24) := (blk_cell BK125.out 6).trans rfl
                            have hcz108_7 : wc.cell? ⟨gb125, 7, none⟩ = some (.bool false) := (blk_cell BK125.out 7).trans rfl
                            have hcz108_8 : wc.cell? ⟨gb125, 8, none⟩ = some (.int .i64 x126008_24) := (blk_cell BK125.out 8).trans rfl
                            have hcz108_9 : wc.cell? ⟨gb125, 9, none⟩ = some (.bool false) := (blk_cell BK125.out 9).trans rfl
                            have hcz108_10 : wc.cell? ⟨gb125, 10, none⟩ = some (.bool x126010_24) := (blk_cell BK125.out 10).trans rfl
                            have hfz108_0 := blk_frozen BK125.out 0
                            have hfz108_1 := blk_frozen BK125.out 1
                            have hfz108_2 := blk_frozen BK125.out 2
                            have hfz108_3 := blk_frozen BK125.out 3
                            have hfz108_4 := blk_frozen BK125.out 4
                            have hfz108_5 := blk_frozen BK125.out 5
                            have hfz108_6 := blk_frozen BK125.out 6
                            have hfz108_7 := blk_frozen BK125.out 7
                            have hfz108_8 := blk_frozen BK125.out 8
                            have hfz108_9 := blk_frozen BK125.out 9
                            have hfz108_10 := blk_frozen BK125.out 10
                            have hnb109 := NB126_127.out
                            have hnc109 := NB127_126.out
                            have hnb110 := NB126_128.out
                            have hnc110 := NB128_126.out
                            have hcz111_0 : wc.cell? ⟨gb126, 0, none⟩ = some (.bool a1_0) := (blk_cell BK126.out 0).trans rfl
                            have hcz111_1 : wc.cell? ⟨gb126, 1, none⟩ = some (.int .i64 a1_1) := (blk_cell BK126.out 1).trans rfl
                            have hcz111_2 : wc.cell? ⟨gb126, 2, none⟩ = some (.int .i64 a1_2) := (blk_cell BK126.out 2).trans rfl
                            have hcz111_3 : wc.cell? ⟨gb126, 3, none⟩ = some (.int .i64 a1_3) := (blk_cell BK126.out 3).trans rfl
                            have hcz111_4 : wc.cell? ⟨gb126, 4, none⟩ = some (.int .i64 a1_4) := (blk_cell BK126.out 4).trans rfl
                            have hfz111_0 := blk_frozen BK126.out 0
                            have hfz111_1 := blk_frozen BK126.out 1
                            have hfz111_2 := blk_frozen BK126.out 2
                            have hfz111_3 := blk_frozen BK126.out 3
                            have hfz111_4 := blk_frozen BK126.out 4
                            have hnb112 := NB127_128.out
                            have hnc112 := NB128_127.out
                            have hcz113_0 : wc.cell? ⟨gb127, 0, none⟩ = some (.int .i64 a2_0) := (blk_cell BK127.out 0).trans rfl
                            have hcz113_1 : wc.cell? ⟨gb127, 1, none⟩ = some (.int .i64 a2_1) := (blk_cell BK127.out 1).trans rfl
                            have hcz113_2 : wc.cell? ⟨gb127, 2, none⟩ = some (.int .i64 a2_2) := (blk_cell BK127.out 2).trans rfl
                            have hfz113_0 := blk_frozen BK127.out 0
                            have hfz113_1 := blk_frozen BK127.out 1
                            have hfz113_2 := blk_frozen BK127.out 2
                            have hcz114_0 : wc.cell? ⟨gb128, 0, none⟩ = some (.bool false) := (blk_cell BK128.out 0).trans rfl
                            have hcz114_1 : wc.cell? ⟨gb128, 1, none⟩ = some (.int .i64 0) := (blk_cell BK128.out 1).trans rfl
                            have hcz114_2 : wc.cell? ⟨gb128, 2, none⟩ = some (.int .i64 0) := (blk_cell BK128.out 2).trans rfl
                            have hcz114_3 : wc.cell? ⟨gb128, 3, none⟩ = some (.bool false) := (blk_cell BK128.out 3).trans rfl
                            have hcz114_4 : wc.cell? ⟨gb128, 4, none⟩ = some (.int .i64 0) := (blk_cell BK128.out 4).trans rfl
                            have hcz114_5 : wc.cell? ⟨gb128, 5, none⟩ = some (.int .i64 0) := (blk_cell BK128.out 5).trans rfl
                            have hcz114_6 : wc.cell? ⟨gb128, 6, none⟩ = some (.bool false) := (blk_cell BK128.out 6).trans rfl
                            have hcz114_7 : wc.cell? ⟨gb128, 7, none⟩ = some (.bool false) := (blk_cell BK128.out 7).trans rfl
                            have hcz114_8 : wc.cell? ⟨gb128, 8, none⟩ = some (.int .i64 0) := (blk_cell BK128.out 8).trans rfl
                            have hcz114_9 : wc.cell? ⟨gb128, 9, none⟩ = some (.bool false) := (blk_cell BK128.out 9).trans rfl
                            have hcz114_10 : wc.cell? ⟨gb128, 10, none⟩ = some (.bool false) := (blk_cell BK128.out 10).trans rfl
                            have hfz114_0 := blk_frozen BK128.out 0
                            have hfz114_1 := blk_frozen BK128.out 1
                            have hfz114_2 := blk_frozen BK128.out 2
                            have hfz114_3 := blk_frozen BK128.out 3
                            have hfz114_4 := blk_frozen BK128.out 4
                            have hfz114_5 := blk_frozen BK128.out 5
                            have hfz114_6 := blk_frozen BK128.out 6
                            have hfz114_7 := blk_frozen BK128.out 7
                            have hfz114_8 := blk_frozen BK128.out 8
                            have hfz114_9 := blk_frozen BK128.out 9
                            have hfz114_10 := blk_frozen BK128.out 10
                            go_wp2
                            refine bodyPost_ret (results_cell_row rfl _ _ gb128 31 #[.bool x126000_24, .int .i64 x126001_24, .int .i64 x126002_24, .bool x126003_24, .int .i64 x126004_24, .int .i64 x126005_24, .bool x126006_24, .bool false, .int .i64 ((ji90) + 1), .bool false, .bool (decide (((ji90) + 1) > a2_0))] (0, 0) _ rfl (by (with_reducible repeat (first | refine blk_drewN ?_ _ | refine blk_drew ?_ | refine blk_alloc ?_ _)); refine blk_put (cs := #[.bool x126000_24, .int .i64 x126001_24, .int .i64 x126002_24, .bool x126003_24, .int .i64 x126004_24, .int .i64 x126005_24, .bool x126006_24, .bool false, .int .i64 ((ji90) + 1), .bool false, .bool false]) ?_ 10 _ rfl; (with_reducible repeat (first | refine blk_drewN ?_ _ | refine blk_drew ?_ | refine blk_alloc ?_ _)); refine blk_put (cs := #[.bool x126000_24, .int .i64 x126001_24, .int .i64 x126002_24, .bool x126003_24, .int .i64 x126004_24, .int .i64 x126005_24, .bool x126006_24, .bool false, .int .i64 ((ji90) + 1), .bool false, .bool false]) ?_ 9 _ rfl; (with_reducible repeat (first | refine blk_drewN ?_ _ | refine blk_drew ?_ | refine blk_alloc ?_ _)); refine blk_put (cs := #[.bool x126000_24, .int .i64 x126001_24, .int .i64 x126002_24, .bool x126003_24, .int .i64 x126004_24, .int .i64 x126005_24, .bool x126006_24, .bool false, .int .i64 0, .bool false, .bool false]) ?_ 8 _ rfl; (with_reducible repeat (first | refine blk_drewN ?_ _ | refine blk_drew ?_ | refine blk_alloc ?_ _)); refine blk_put (cs := #[.bool x126000_24, .int .i64 x126001_24, .int .i64 x126002_24, .bool x126003_24, .int .i64 x126004_24, .int .i64 x126005_24, .bool x126006_24, .bool false, .int .i64 0, .bool false, .bool false]) ?_ 7 _ rfl; (with_reducible repeat (first | refine blk_drewN ?_ _ | refine blk_drew ?_ | refine blk_alloc ?_ _)); refine blk_put (cs := #[.bool x126000_24, .int .i64 x126001_24, .int .i64 x126002_24, .bool x126003_24, .int .i64 x126004_24, .int .i64 x126005_24, .bool false, .bool false, .int .i64 0, .bool false, .bool false]) ?_ 6 _ rfl; (with_reducible repeat (first | refine blk_drewN ?_ _ | refine blk_drew ?_ | refine blk_alloc ?_ _)); refine blk_put (cs := #[.bool x126000_24, .int .i64 x126001_24, .int .i64 x126002_24, .bool x126003_24, .int .i64 x126004_24, .int .i64 0, .bool false, .bool false, .int .i64 0, .bool false, .bool false]) ?_ 5 _ rfl; (with_reducible repeat (first | refine blk_drewN ?_ _ | refine blk_drew ?_ | refine blk_alloc ?_ _)); refine blk_put (cs := #[.bool x126000_24, .int .i64 x126001_24, .int .i64 x126002_24, .bool x126003_24, .int .i64 0, .int .i64 0, .bool false, .bool false, .int .i64 0, .bool false, .bool false]) ?_ 4 _ rfl; (with_reducible repeat (first | refine blk_drewN ?_ _ | refine blk_drew ?_ | refine blk_alloc ?_ _)); refine blk_put (cs := #[.bool x126000_24, .int .i64 x126001_24, .int .i64 x126002_24, .bool false, .int .i64 0, .int .i64 0, .bool false, .bool false, .int .i64 0, .bool false, .bool false]) ?_ 3 _ rfl; (with_reducible repeat (first | refine blk_drewN ?_ _ | refine blk_drew ?_ | refine blk_alloc ?_ _)); refine blk_put (cs := #[.bool x126000_24, .int .i64 x126001_24, .int .i64 0, .bool false, .int .i64 0, .int .i64 0, .bool false, .bool false, .int .i64 0, .bool false, .bool false]) ?_ 2 _ rfl; (with_reducible repeat (first | refine blk_drewN ?_ _ | refine blk_drew ?_ | refine blk_alloc ?_ _)); refine blk_put (cs := #[.bool x126000_24, .int .i64 0, .int .i64 0, .bool false, .int .i64 0, .int .i64 0, .bool false, .bool false, .int .i64 0, .bool false, .bool false]) ?_ 1 _ rfl; (with_reducible repeat (first | refine blk_drewN ?_ _ | refine blk_drew ?_ | refine blk_alloc ?_ _)); refine blk_put (cs := #[.bool false, .int .i64 0, .int .i64 0, .bool false, .int .i64 0, .int .i64 0, .bool false, .bool false, .int .i64 0, .bool false, .bool false]) ?_ 0 _ rfl; (with_reducible repeat (first | refine blk_drewN ?_ _ | refine blk_drew ?_ | refine blk_alloc ?_ _)); refine blk_far ?_ NB128_125.out _; (with_reducible repeat (first | refine blk_drewN ?_ _ | refine blk_drew ?_ | refine blk_alloc ?_ _)); refine blk_far ?_ NB128_125.out _; (with_reducible repeat (first | refine blk_drewN ?_ _ | refine blk_drew ?_ | refine blk_alloc ?_ _)); exact BK128.out) Try.underlying31 rfl (by kernel_rfl)) rfl ?_
                            exact ⟨by first | rfl | (simp [errW_none, errW_some] <;> rfl) | (simp only [← hji89, ← hji90]; first | rfl | (simp [errW_none, errW_some] <;> rfl)) | (simp [*, errW_none, errW_some] <;> rfl), by repeat (first | (with_reducible first | exact HB.out | apply below_alloc | apply pw_below_drewN | apply below_drew1 | refine below_set ?_ GE125.out | refine below_set ?_ GE126.out | refine below_set ?_ GE127.out | refine below_set ?_ GE128.out) | exact HB.out)⟩
                        · rw [if_neg c93] at H
                          have c93b0 : (a1_3 == 0) = false := beq_eq_false_iff_ne.mpr c93
                          have c93b1 : (a1_3 != 0) = true := bne_iff_ne.mpr c93
                          by_cases c115 : a1_3 = 1
                          · rw [if_pos c115] at H
                            have c115b0 : (a1_3 == 1) = true := beq_iff_eq.mpr c115
                            have c115b1 : (a1_3 != 1) = false := bne_eq_false_iff_eq.mpr c115
                            by_cases c116 : x126009_33 = true
                            · subst c116
                              have H1 : (some (x126000_24, x126001_24, x126002_24, x126003_24, x126004_24, x126005_24, x126006_24, false, (ji90) + 1, true, true)) = some (r1, r2, r3, r4, r5, r6, r7, r8, r9, r10, r11) := by rw [if_pos rfl] at H; exact H
                              clear H
                              have H := H1
                              clear H1
                              simp only [Option.some.injEq, Prod.mk.injEq] at H
                              obtain ⟨rfl, rfl, rfl, rfl, rfl, rfl, rfl, rfl, rfl, rfl, rfl⟩ := H
                              have hnb117 := NB125_126.out
                              have hnc117 := NB126_125.out
                              have hnb118 := NB125_127.out
                              have hnc118 := NB127_125.out
                              have hnb119 := NB125_128.out
                              have hnc119 := NB128_125.out
                              have hcz120_0 : wc.cell? ⟨gb125, 0, none⟩ = some (.bool x126000_24) := (blk_cell BK125.out 0).trans rfl
                              have hcz120_1 : wc.cell? ⟨gb125, 1, none⟩ = some (.int .i64 x126001_24) := (blk_cell BK125.out 1).trans rfl
                              have hcz120_2 : wc.cell? ⟨gb125, 2, none⟩ = some (.int .i64 x126002_24) := (blk_cell BK125.out 2).trans rfl
                              have hcz120_3 : wc.cell? ⟨gb125, 3, none⟩ = some (.bool x126003_24) := (blk_cell BK125.out 3).trans rfl
                              have hcz120_4 : wc.cell? ⟨gb125, 4, none⟩ = some (.int .i64 x126004_24) := (blk_cell BK125.out 4).trans rfl
                              have hcz120_5 : wc.cell? ⟨gb125, 5, none⟩ = some (.int .i64 x126005_24) := (blk_cell BK125.out 5).trans rfl
                              have hcz120_6 : wc.cell? ⟨gb125, 6, none⟩ = some (.bool x126006_24) := (blk_cell BK125.out 6).trans rfl
                              have hcz120_7 : wc.cell? ⟨gb125, 7, none⟩ = some (.bool false) := (blk_cell BK125.out 7).trans rfl
                              have hcz120_8 : wc.cell? ⟨gb125, 8, none⟩ = some (.int .i64 x126008_24) := (blk_cell BK125.out 8).trans rfl
                              have hcz120_9 : wc.cell? ⟨gb125, 9, none⟩ = some (.bool true) := (blk_cell BK125.out 9).trans rfl
                              have hcz120_10 : wc.cell? ⟨gb125, 10, none⟩ = some (.bool x126010_24) := (blk_cell BK125.out 10).trans rfl
                              have hfz120_0 := blk_frozen BK125.out 0
                              have hfz120_1 := blk_frozen BK125.out 1
                              have hfz120_2 := blk_frozen BK125.out 2
                              have hfz120_3 := blk_frozen BK125.out 3
                              have hfz120_4 := blk_frozen BK125.out 4
                              have hfz120_5 := blk_frozen BK125.out 5
                              have hfz120_6 := blk_frozen BK125.out 6
                              have hfz120_7 := blk_frozen BK125.out 7
                              have hfz120_8 := blk_frozen BK125.out 8
                              have hfz120_9 := blk_frozen BK125.out 9
                              have hfz120_10 := blk_frozen BK125.out 10
                              have hnb121 := NB126_127.out
                              have hnc121 := NB127_126.out
                              have hnb122 := NB126_128.out
                              have hnc122 := NB128_126.out
                              have hcz123_0 : wc.cell? ⟨gb126, 0, none⟩ = some (.bool a1_0) := (blk_cell BK126.out 0).trans rfl
                              have hcz123_1 : wc.cell? ⟨gb126, 1, none⟩ = some (.int .i64 a1_1) := (blk_cell BK126.out 1).trans rfl
                              have hcz123_2 : wc.cell? ⟨gb126, 2, none⟩ = some (.int .i64 a1_2) := (blk_cell BK126.out 2).trans rfl
                              have hcz123_3 : wc.cell? ⟨gb126, 3, none⟩ = some (.int .i64 a1_3) := (blk_cell BK126.out 3).trans rfl
                              have hcz123_4 : wc.cell? ⟨gb126, 4, none⟩ = some (.int .i64 a1_4) := (blk_cell BK126.out 4).trans rfl
                              have hfz123_0 := blk_frozen BK126.out 0
                              have hfz123_1 := blk_frozen BK126.out 1
                              have hfz123_2 := blk_frozen BK126.out 2
                              have hfz123_3 := blk_frozen BK126.out 3
                              have hfz123_4 := blk_frozen BK126.out 4
                              have hnb124 := NB127_128.out
                              have hnc124 := NB128_127.out
                              have hcz125_0 : wc.cell? ⟨gb127, 0, none⟩ = some (.int .i64 a2_0) := (blk_cell BK127.out 0).trans rfl
                              have hcz125_1 : wc.cell? ⟨gb127, 1, none⟩ = some (.int .i64 a2_1) := (blk_cell BK127.out 1).trans rfl
                              have hcz125_2 : wc.cell? ⟨gb127, 2, none⟩ = some (.int .i64 a2_2) := (blk_cell BK127.out 2).trans rfl
                              have hfz125_0 := blk_frozen BK127.out 0
                              have hfz125_1 := blk_frozen BK127.out 1
                              have hfz125_2 := blk_frozen BK127.out 2
                              have hcz126_0 : wc.cell? ⟨gb128, 0, none⟩ = some (.bool false) := (blk_cell BK128.out 0).trans rfl
                              have hcz126_1 : wc.cell? ⟨gb128, 1, none⟩ = some (.int .i64 0) := (blk_cell BK128.out 1).trans rfl
                              have hcz126_2 : wc.cell? ⟨gb128, 2, none⟩ = some (.int .i64 0) := (blk_cell BK128.out 2).trans rfl
                              have hcz126_3 : wc.cell? ⟨gb128, 3, none⟩ = some (.bool false) := (blk_cell BK128.out 3).trans rfl
                              have hcz126_4 : wc.cell? ⟨gb128, 4, none⟩ = some (.int .i64 0) := (blk_cell BK128.out 4).trans rfl
                              have hcz126_5 : wc.cell? ⟨gb128, 5, none⟩ = some (.int .i64 0) := (blk_cell BK128.out 5).trans rfl
                              have hcz126_6 : wc.cell? ⟨gb128, 6, none⟩ = some (.bool false) := (blk_cell BK128.out 6).trans rfl
                              have hcz126_7 : wc.cell? ⟨gb128, 7, none⟩ = some (.bool false) := (blk_cell BK128.out 7).trans rfl
                              have hcz126_8 : wc.cell? ⟨gb128, 8, none⟩ = some (.int .i64 0) := (blk_cell BK128.out 8).trans rfl
                              have hcz126_9 : wc.cell? ⟨gb128, 9, none⟩ = some (.bool false) := (blk_cell BK128.out 9).trans rfl
                              have hcz126_10 : wc.cell? ⟨gb128, 10, none⟩ = some (.bool false) := (blk_cell BK128.out 10).trans rfl
                              have hfz126_0 := blk_frozen BK128.out 0
                              have hfz126_1 := blk_frozen BK128.out 1
                              have hfz126_2 := blk_frozen BK128.out 2
                              have hfz126_3 := blk_frozen BK128.out 3
                              have hfz126_4 := blk_frozen BK128.out 4
                              have hfz126_5 := blk_frozen BK128.out 5
                              have hfz126_6 := blk_frozen BK128.out 6
                              have hfz126_7 := blk_frozen BK128.out 7
                              have hfz126_8 := blk_frozen BK128.out 8
                              have hfz126_9 := blk_frozen BK128.out 9
                              have hfz126_10 := blk_frozen BK128.out 10
                              go_wp2
                              refine bodyPost_ret (results_cell_row rfl _ _ gb128 31 #[.bool x126000_24, .int .i64 x126001_24, .int .i64 x126002_24, .bool x126003_24, .int .i64 x126004_24, .int .i64 x126005_24, .bool x126006_24, .bool false, .int .i64 ((ji90) + 1), .bool true, .bool true] (0, 0) _ rfl (by (with_reducible repeat (first | refine blk_drewN ?_ _ | refine blk_drew ?_ | refine blk_alloc ?_ _)); refine blk_put (cs := #[.bool x126000_24, .int .i64 x126001_24, .int .i64 x126002_24, .bool x126003_24, .int .i64 x126004_24, .int .i64 x126005_24, .bool x126006_24, .bool false, .int .i64 ((ji90) + 1), .bool true, .bool false]) ?_ 10 _ rfl; (with_reducible repeat (first | refine blk_drewN ?_ _ | refine blk_drew ?_ | refine blk_alloc ?_ _)); refine blk_put (cs := #[.bool x126000_24, .int .i64 x126001_24, .int .i64 x126002_24, .bool x126003_24, .int .i64 x126004_24, .int .i64 x126005_24, .bool x126006_24, .bool false, .int .i64 ((ji90) + 1), .bool false, .bool false]) ?_ 9 _ rfl; (with_reducible repeat (first | refine blk_drewN ?_ _ | refine blk_drew ?_ | refine blk_alloc ?_ _)); refine blk_put (cs := #[.bool x126000_24, .int .i64 x126001_24, .int .i64 x126002_24, .bool x126003_24, .int .i64 x126004_24, .int .i64 x126005_24, .bool x126006_24, .bool false, .int .i64 0, .bool false, .bool false]) ?_ 8 _ rfl; (with_reducible repeat (first | refine blk_drewN ?_ _ | refine blk_drew ?_ | refine blk_alloc ?_ _)); refine blk_put (cs := #[.bool x126000_24, .int .i64 x126001_24, .int .i64 x126002_24, .bool x126003_24, .int .i64 x126004_24, .int .i64 x126005_24, .bool x126006_24, .bool false, .int .i64 0, .bool false, .bool false]) ?_ 7 _ rfl; (with_reducible repeat (first | refine blk_drewN ?_ _ | refine blk_drew ?_ | refine blk_alloc ?_ _)); refine blk_put (cs := #[.bool x126000_24, .int .i64 x126001_24, .int .i64 x126002_24, .bool x126003_24, .int .i64 x126004_24, .int .i64 x126005_24, .bool false, .bool false, .int .i64 0, .bool false, .bool false]) ?_ 6 _ rfl; (with_reducible repeat (first | refine blk_drewN ?_ _ | refine blk_drew ?_ | refine blk_alloc ?_ _)); refine blk_put (cs := #[.bool x126000_24, .int .i64 x126001_24, .int .i64 x126002_24, .bool x126003_24, .int .i64 x126004_24, .int .i64 0, .bool false, .bool false, .int .i64 0, .bool false, .bool false]) ?_ 5 _ rfl; (with_reducible repeat (first | refine blk_drewN ?_ _ | refine blk_drew ?_ | refine blk_alloc ?_ _)); refine blk_put (cs := #[.bool x126000_24, .int .i64 x126001_24, .int .i64 x126002_24, .bool x126003_24, .int .i64 0, .int .i64 0, .bool false, .bool false, .int .i64 0, .bool false, .bool false]) ?_ 4 _ rfl; (with_reducible repeat (first | refine blk_drewN ?_ _ | refine blk_drew ?_ | refine blk_alloc ?_ _)); refine blk_put (cs := #[.bool x126000_24, .int .i64 x126001_24, .int .i64 x126002_24, .bool false, .int .i64 0, .int .i64 0, .bool false, .bool false, .int .i64 0, .bool false, .bool false]) ?_ 3 _ rfl; (with_reducible repeat (first | refine blk_drewN ?_ _ | refine blk_drew ?_ | refine blk_alloc ?_ _)); refine blk_put (cs := #[.bool x126000_24, .int .i64 x126001_24, .int .i64 0, .bool false, .int .i64 0, .int .i64 0, .bool false, .bool false, .int .i64 0, .bool false, .bool false]) ?_ 2 _ rfl; (with_reducible repeat (first | refine blk_drewN ?_ _ | refine blk_drew ?_ | refine blk_alloc ?_ _)); refine blk_put (cs := #[.bool x126000_24, .int .i64 0, .int .i64 0, .bool false, .int .i64 0, .int .i64 0, .bool false, .bool false, .int .i64 0, .bool false, .bool false]) ?_ 1 _ rfl; (with_reducible repeat (first | refine blk_drewN ?_ _ | refine blk_drew ?_ | refine blk_alloc ?_ _)); refine blk_put (cs := #[.bool false, .int .i64 0, .int .i64 0, .bool false, .int .i64 0, .int .i64 0, .bool false, .bool false, .int .i64 0, .bool false, .bool false]) ?_ 0 _ rfl; (with_reducible repeat (first | refine blk_drewN ?_ _ | refine blk_drew ?_ | refine blk_alloc ?_ _)); refine blk_far ?_ NB128_125.out _; (with_reducible repeat (first | refine blk_drewN ?_ _ | refine blk_drew ?_ | refine blk_alloc ?_ _)); refine blk_far ?_ NB128_125.out _; (with_reducible repeat (first | refine blk_drewN ?_ _ | refine blk_drew ?_ | refine blk_alloc ?_ _)); exact BK128.out) Try.underlying31 rfl (by kernel_rfl)) rfl ?_
                              exact ⟨by first | rfl | (simp [errW_none, errW_some] <;> rfl) | (simp only [← hji89, ← hji90]; first | rfl | (simp [errW_none, errW_some] <;> rfl)) | (simp [*, errW_none, errW_some] <;> rfl), by repeat (first | (with_reducible first | exact HB.out | apply below_alloc | apply pw_below_drewN | apply below_drew1 | refine below_set ?_ GE125.out | refine below_set ?_ GE126.out | refine below_set ?_ GE127.out | refine below_set ?_ GE128.out) | exact HB.out)⟩
                            · replace c116 := Bool.eq_false_iff.mpr c116
                              subst c116
                              have H1 : (some (x126000_24, x126001_24, x126002_24, x126003_24, x126004_24, x126005_24, x126006_24, false, (ji90) + 1, false, decide (((ji90) + 1) > a2_1))) = some (r1, r2, r3, r4, r5, r6, r7, r8, r9, r10, r11) := by rw [if_neg (show ¬ (false = true) by decide)] at H; exact H
                              clear H
                              have H := H1
                              clear H1
                              simp only [Option.some.injEq, Prod.mk.injEq] at H
                              obtain ⟨rfl, rfl, rfl, rfl, rfl, rfl, rfl, rfl, rfl, rfl, rfl⟩ := H
                              have hnb127 := NB125_126.out
                              have hnc127 := NB126_125.out
                              have hnb128 := NB125_127.out
                              have hnc128 := NB127_125.out
                              have hnb129 := NB125_128.out
                              have hnc129 := NB128_125.out
                              have hcz130_0 : wc.cell? ⟨gb125, 0, none⟩ = some (.bool x126000_24) := (blk_cell BK125.out 0).trans rfl
                              have hcz130_1 : wc.cell? ⟨gb125, 1, none⟩ = some (.int .i64 x126001_24) := (blk_cell BK125.out 1).trans rfl
                              have hcz130_2 : wc.cell? ⟨gb125, 2, none⟩ = some (.int .i64 x126002_24) := (blk_cell BK125.out 2).trans rfl
                              have hcz130_3 : wc.cell? ⟨gb125, 3, none⟩ = some (.bool x126003_24) := (blk_cell BK125.out 3).trans rfl
                              have hcz130_4 : wc.cell? ⟨gb125, 4, none⟩ = some (.int .i64 x126004_24) := (blk_cell BK125.out 4).trans rfl
                              have hcz130_5 : wc.cell? ⟨gb125, 5, none⟩ = some (.int .i64 x126005_24) := (blk_cell BK125.out 5).trans rfl
                              have hcz130_6 : wc.cell? ⟨gb125, 6, none⟩ = some (.bool x126006_24) := (blk_cell BK125.out 6).trans rfl
                              have hcz130_7 : wc.cell? ⟨gb125, 7, none⟩ = some (.bool false) := (blk_cell BK125.out 7).trans rfl
                              have hcz130_8 : wc.cell? ⟨gb125, 8, none⟩ = some (.int .i64 x126008_24) := (blk_cell BK125.out 8).trans rfl
                              have hcz130_9 : wc.cell? ⟨gb125, 9, none⟩ = some (.bool false) := (blk_cell BK125.out 9).trans rfl
                              have hcz130_10 : wc.cell? ⟨gb125, 10, none⟩ = some (.bool x126010_24) := (blk_cell BK125.out 10).trans rfl
                              have hfz130_0 := blk_frozen BK125.out 0
                              have hfz130_1 := blk_frozen BK125.out 1
                              have hfz130_2 := blk_frozen BK125.out 2
                              have hfz130_3 := blk_frozen BK125.out 3
                              have hfz130_4 := blk_frozen BK125.out 4
                              have hfz130_5 := blk_frozen BK125.out 5
                              have hfz130_6 := blk_frozen BK125.out 6
                              have hfz130_7 := blk_frozen BK125.out 7
                              have hfz130_8 := blk_frozen BK125.out 8
                              have hfz130_9 := blk_frozen BK125.out 9
                              have hfz130_10 := blk_frozen BK125.out 10
                              have hnb131 := NB126_127.out
                              have hnc131 := NB127_126.out
                              have hnb132 := NB126_128.out
                              have hnc132 := NB128_126.out
                              have hcz133_0 : wc.cell? ⟨gb126, 0, none⟩ = some (.bool a1_0) := (blk_cell BK126.out 0).trans rfl
                              have hcz133_1 : wc.cell? ⟨gb126, 1, none⟩ = some (.int .i64 a1_1) := (blk_cell BK126.out 1).trans rfl
                              have hcz133_2 : wc.cell? ⟨gb126, 2, none⟩ = some (.int .i64 a1_2) := (blk_cell BK126.out 2).trans rfl
                              have hcz133_3 : wc.cell? ⟨gb126, 3, none⟩ = some (.int .i64 a1_3) := (blk_cell BK126.out 3).trans rfl
                              have hcz133_4 : wc.cell? ⟨gb126, 4, none⟩ = some (.int .i64 a1_4) := (blk_cell BK126.out 4).trans rfl
                              have hfz133_0 := blk_frozen BK126.out 0
                              have hfz133_1 := blk_frozen BK126.out 1
                              have hfz133_2 := blk_frozen BK126.out 2
                              have hfz133_3 := blk_frozen BK126.out 3
                              have hfz133_4 := blk_frozen BK126.out 4
                              have hnb134 := NB127_128.out
                              have hnc134 := NB128_127.out
                              have hcz135_0 : wc.cell? ⟨gb127, 0, none⟩ = some (.int .i64 a2_0) := (blk_cell BK127.out 0).trans rfl
                              have hcz135_1 : wc.cell? ⟨gb127, 1, none⟩ = some (.int .i64 a2_1) := (blk_cell BK127.out 1).trans rfl
                              have hcz135_2 : wc.cell? ⟨gb127, 2, none⟩ = some (.int .i64 a2_2) := (blk_cell BK127.out 2).trans rfl
                              have hfz135_0 := blk_frozen BK127.out 0
                              have hfz135_1 := blk_frozen BK127.out 1
                              have hfz135_2 := blk_frozen BK127.out 2
                              have hcz136_0 : wc.cell? ⟨gb128, 0, none⟩ = some (.bool false) := (blk_cell BK128.out 0).trans rfl
                              have hcz136_1 : wc.cell? ⟨gb128, 1, none⟩ = some (.int .i64 0) := (blk_cell BK128.out 1).trans rfl
                              have hcz136_2 : wc.cell? ⟨gb128, 2, none⟩ = some (.int .i64 0) := (blk_cell BK128.out 2).trans rfl
                              have hcz136_3 : wc.cell? ⟨gb128, 3, none⟩ = some (.bool false) := (blk_cell BK128.out 3).trans rfl
                              have hcz136_4 : wc.cell? ⟨gb128, 4, none⟩ = some (.int .i64 0) := (blk_cell BK128.out 4).trans rfl
                              have hcz136_5 : wc.cell? ⟨gb128, 5, none⟩ = some (.int .i64 0) := (blk_cell BK128.out 5).trans rfl
                              have hcz136_6 : wc.cell? ⟨gb128, 6, none⟩ = some (.bool false) := (blk_cell BK128.out 6).trans rfl
                              have hcz136_7 : wc.cell? ⟨gb128, 7, none⟩ = some (.bool false) := (blk_cell BK128.out 7).trans rfl
                              have hcz136_8 : wc.cell? ⟨gb128, 8, none⟩ = some (.int .i64 0) := (blk_cell BK128.out 8).trans rfl
                              have hcz136_9 : wc.cell? ⟨gb128, 9, none⟩ = some (.bool false) := (blk_cell BK128.out 9).trans rfl
                              have hcz136_10 : wc.cell? ⟨gb128, 10, none⟩ = some (.bool false) := (blk_cell BK128.out 10).trans rfl
                              have hfz136_0 := blk_frozen BK128.out 0
                              have hfz136_1 := blk_frozen BK128.out 1
                              have hfz136_2 := blk_frozen BK128.out 2
                              have hfz136_3 := blk_frozen BK128.out 3
                              have hfz136_4 := blk_frozen BK128.out 4
                              have hfz136_5 := blk_frozen BK128.out 5
                              have hfz136_6 := blk_frozen BK128.out 6
                              have hfz136_7 := blk_frozen BK128.out 7
                              have hfz136_8 := blk_frozen BK128.out 8
                              have hfz136_9 := blk_frozen BK128.out 9
                              have hfz136_10 := blk_frozen BK128.out 10
                              go_wp2
                              refine bodyPost_ret (results_cell_row rfl _ _ gb128 31 #[.bool x126000_24, .int .i64 x126001_24, .int .i64 x126002_24, .bool x126003_24, .int .i64 x126004_24, .int .i64 x126005_24, .bool x126006_24, .bool false, .int .i64 ((ji90) + 1), .bool false, .bool (decide (((ji90) + 1) > a2_1))] (0, 0) _ rfl (by (with_reducible repeat (first | refine blk_drewN ?_ _ | refine blk_drew ?_ | refine blk_alloc ?_ _)); refine blk_put (cs := #[.bool x126000_24, .int .i64 x126001_24, .int .i64 x126002_24, .bool x126003_24, .int .i64 x126004_24, .int .i64 x126005_24, .bool x126006_24, .bool false, .int .i64 ((ji90) + 1), .bool false, .bool false]) ?_ 10 _ rfl; (with_reducible repeat (first | refine blk_drewN ?_ _ | refine blk_drew ?_ | refine blk_alloc ?_ _)); refine blk_put (cs := #[.bool x126000_24, .int .i64 x126001_24, .int .i64 x126002_24, .bool x126003_24, .int .i64 x126004_24, .int .i64 x126005_24, .bool x126006_24, .bool false, .int .i64 ((ji90) + 1), .bool false, .bool false]) ?_ 9 _ rfl; (with_reducible repeat (first | refine blk_drewN ?_ _ | refine blk_drew ?_ | refine blk_alloc ?_ _)); refine blk_put (cs := #[.bool x126000_24, .int .i64 x126001_24, .int .i64 x126002_24, .bool x126003_24, .int .i64 x126004_24, .int .i64 x126005_24, .bool x126006_24, .bool false, .int .i64 0, .bool false, .bool false]) ?_ 8 _ rfl; (with_reducible repeat (first | refine blk_drewN ?_ _ | refine blk_drew ?_ | refine blk_alloc ?_ _)); refine blk_put (cs := #[.bool x126000_24, .int .i64 x126001_24, .int .i64 x126002_24, .bool x126003_24, .int .i64 x126004_24, .int .i64 x126005_24, .bool x126006_24, .bool false, .int .i64 0, .bool false, .bool false]) ?_ 7 _ rfl; (with_reducible repeat (first | refine blk_drewN ?_ _ | refine blk_drew ?_ | refine blk_alloc ?_ _)); refine blk_put (cs := #[.bool x126000_24, .int .i64 x126001_24, .int .i64 x126002_24, .bool x126003_24, .int .i64 x126004_24, .int .i64 x126005_24, .bool false, .bool false, .int .i64 0, .bool false, .bool false]) ?_ 6 _ rfl; (with_reducible repeat (first | refine blk_drewN ?_ _ | refine blk_drew ?_ | refine blk_alloc ?_ _)); refine blk_put (cs := #[.bool x126000_24, .int .i64 x126001_24, .int .i64 x126002_24, .bool x126003_24, .int .i64 x126004_24, .int .i64 0, .bool false, .bool false, .int .i64 0, .bool false, .bool false]) ?_ 5 _ rfl; (with_reducible repeat (first | refine blk_drewN ?_ _ | refine blk_drew ?_ | refine blk_alloc ?_ _)); refine blk_put (cs := #[.bool x126000_24, .int .i64 x126001_24, .int .i64 x126002_24, .bool x126003_24, .int .i64 0, .int .i64 0, .bool false, .bool false, .int .i64 0, .bool false, .bool false]) ?_ 4 _ rfl; (with_reducible repeat (first | refine blk_drewN ?_ _ | refine blk_drew ?_ | refine blk_alloc ?_ _)); refine blk_put (cs := #[.bool x126000_24, .int .i64 x126001_24, .int .i64 x126002_24, .bool false, .int .i64 0, .int .i64 0, .bool false, .bool false, .int .i64 0, .bool false, .bool false]) ?_ 3 _ rfl; (with_reducible repeat (first | refine blk_drewN ?_ _ | refine blk_drew ?_ | refine blk_alloc ?_ _)); refine blk_put (cs := #[.bool x126000_24, .int .i64 x126001_24, .int .i64 0, .bool false, .int .i64 0, .int .i64 0, .bool false, .bool false, .int .i64 0, .bool false, .bool false]) ?_ 2 _ rfl; (with_reducible repeat (first | refine blk_drewN ?_ _ | refine blk_drew ?_ | refine blk_alloc ?_ _)); refine blk_put (cs := #[.bool x126000_24, .int .i64 0, .int .i64 0, .bool false, .int .i64 0, .int .i64 0, .bool false, .bool false, .int .i64 0, .bool false, .bool false]) ?_ 1 _ rfl; (with_reducible repeat (first | refine blk_drewN ?_ _ | refine blk_drew ?_ | refine blk_alloc ?_ _)); refine blk_put (cs := #[.bool false, .int .i64 0, .int .i64 0, .bool false, .int .i64 0, .int .i64 0, .bool false, .bool false, .int .i64 0, .bool false, .bool false]) ?_ 0 _ rfl; (with_reducible repeat (first | refine blk_drewN ?_ _ | refine blk_drew ?_ | refine blk_alloc ?_ _)); refine blk_far ?_ NB128_125.out _; (with_reducible repeat (first | refine blk_drewN ?_ _ | refine blk_drew ?_ | refine blk_alloc ?_ _)); refine blk_far ?_ NB128_125.out _; (with_reducible repeat (first | refine blk_drewN ?_ _ | refine blk_drew ?_ | refine blk_alloc ?_ _)); exact BK128.out) Try.underlying31 rfl (by kernel_rfl)) rfl ?_
                              exact ⟨by first | rfl | (simp [errW_none, errW_some] <;> rfl) | (simp only [← hji89, ← hji90]; first | rfl | (simp [errW_none, errW_some] <;> rfl)) | (simp [*, errW_none, errW_some] <;> rfl), by repeat (first | (with_reducible first | exact HB.out | apply below_alloc | apply pw_below_drewN | apply below_drew1 | refine below_set ?_ GE125.out | refine below_set ?_ GE126.out | refine below_set ?_ GE127.out | refine below_set ?_ GE128.out) | exact HB.out)⟩
                          · rw [if_neg c115] at H
                            have c115b0 : (a1_3 == 1) = false := beq_eq_false_iff_ne.mpr c115
                            have c115b1 : (a1_3 != 1) = true := bne_iff_ne.mpr c115
                            by_cases c137 : a1_3 = 2
                            · rw [if_pos c137] at H
                              have c137b0 : (a1_3 == 2) = true := beq_iff_eq.mpr c137
                              have c137b1 : (a1_3 != 2) = false := bne_eq_false_iff_eq.mpr c137
                              by_cases c138 : x126009_33 = true
                              · subst c138
                                have H1 : (some (x126000_24, x126001_24, x126002_24, x126003_24, x126004_24, x126005_24, x126006_24, false, (ji90) + 1, true, true)) = some (r1, r2, r3, r4, r5, r6, r7, r8, r9, r10, r11) := by rw [if_pos rfl] at H; exact H
                                clear H
                                have H := H1
                                clear H1
                                simp only [Option.some.injEq, Prod.mk.injEq] at H
                                obtain ⟨rfl, rfl, rfl, rfl, rfl, rfl, rfl, rfl, rfl, rfl, rfl⟩ := H
                                have hnb139 := NB125_126.out
                                have hnc139 := NB126_125.out
                                have hnb140 := NB125_127.out
                                have hnc140 := NB127_125.out
                                have hnb141 := NB125_128.out
                                have hnc141 := NB128_125.out
                                have hcz142_0 : wc.cell? ⟨gb125, 0, none⟩ = some (.bool x126000_24) := (blk_cell BK125.out 0).trans rfl
                                have hcz142_1 : wc.cell? ⟨gb125, 1, none⟩ = some (.int .i64 x126001_24) := (blk_cell BK125.out 1).trans rfl
                                have hcz142_2 : wc.cell? ⟨gb125, 2, none⟩ = some (.int .i64 x126002_24) := (blk_cell BK125.out 2).trans rfl
                                have hcz142_3 : wc.cell? ⟨gb125, 3, none⟩ = some (.bool x126003_24) := (blk_cell BK125.out 3).trans rfl
                                have hcz142_4 : wc.cell? ⟨gb125, 4, none⟩ = some (.int .i64 x126004_24) := (blk_cell BK125.out 4).trans rfl
                                have hcz142_5 : wc.cell? ⟨gb125, 5, none⟩ = some (.int .i64 x126005_24) := (blk_cell BK125.out 5).trans rfl
                                have hcz142_6 : wc.cell? ⟨gb125, 6, none⟩ = some (.bool x126006_24) := (blk_cell BK125.out 6).trans rfl
                                have hcz142_7 : wc.cell? ⟨gb125, 7, none⟩ = some (.bool false) := (blk_cell BK125.out 7).trans rfl
                                have hcz142_8 : wc.cell? ⟨gb125, 8, none⟩ = some (.int .i64 x126008_24) := (blk_cell BK125.out 8).trans rfl
                                have hcz142_9 : wc.cell? ⟨gb125, 9, none⟩ = some (.bool true) := (blk_cell BK125.out 9).trans rfl
                                have hcz142_10 : wc.cell? ⟨gb125, 10, none⟩ = some (.bool x126010_24) := (blk_cell BK125.out 10).trans rfl
                                have hfz142_0 := blk_frozen BK125.out 0
                                have hfz142_1 := blk_frozen BK125.out 1
                                have hfz142_2 := blk_frozen BK125.out 2
                                have hfz142_3 := blk_frozen BK125.out 3
                                have hfz142_4 := blk_frozen BK125.out 4
                                have hfz142_5 := blk_frozen BK125.out 5
                                have hfz142_6 := blk_frozen BK125.out 6
                                have hfz142_7 := blk_frozen BK125.out 7
                                have hfz142_8 := blk_frozen BK125.out 8
                                have hfz142_9 := blk_frozen BK125.out 9
                                have hfz142_10 := blk_frozen BK125.out 10
                                have hnb143 := NB126_127.out
                                have hnc143 := NB127_126.out
                                have hnb144 := NB126_128.out
                                have hnc144 := NB128_126.out
                                have hcz145_0 : wc.cell? ⟨gb126, 0, none⟩ = some (.bool a1_0) := (blk_cell BK126.out 0).trans rfl
                                have hcz145_1 : wc.cell? ⟨gb126, 1, none⟩ = some (.int .i64 a1_1) := (blk_cell BK126.out 1).trans rfl
                                have hcz145_2 : wc.cell? ⟨gb126, 2, none⟩ = some (.int .i64 a1_2) := (blk_cell BK126.out 2).trans rfl
                                have hcz145_3 : wc.cell? ⟨gb126, 3, none⟩ = some (.int .i64 a1_3) := (blk_cell BK126.out 3).trans rfl
                                have hcz145_4 : wc.cell? ⟨gb126, 4, none⟩ = some (.int .i64 a1_4) := (blk_cell BK126.out 4).trans rfl
                                have hfz145_0 := blk_frozen BK126.out 0
                                have hfz145_1 := blk_frozen BK126.out 1
                                have hfz145_2 := blk_frozen BK126.out 2
                                have hfz145_3 := blk_frozen BK126.out 3
                                have hfz145_4 := blk_frozen BK126.out 4
                                have hnb146 := NB127_128.out
                                have hnc146 := NB128_127.out
                                have hcz147_0 : wc.cell? ⟨gb127, 0, none⟩ = some (.int .i64 a2_0) := (blk_cell BK127.out 0).trans rfl
                                have hcz147_1 : wc.cell? ⟨gb127, 1, none⟩ = some (.int .i64 a2_1) := (blk_cell BK127.out 1).trans rfl
                                have hcz147_2 : wc.cell? ⟨gb127, 2, none⟩ = some (.int .i64 a2_2) := (blk_cell BK127.out 2).trans rfl
                                have hfz147_0 := blk_frozen BK127.out 0
                                have hfz147_1 := blk_frozen BK127.out 1
                                have hfz147_2 := blk_frozen BK127.out 2
                                have hcz148_0 : wc.cell? ⟨gb128, 0, none⟩ = some (.bool false) := (blk_cell BK128.out 0).trans rfl
                                have hcz148_1 : wc.cell? ⟨gb128, 1, none⟩ = some (.int .i64 0) := (blk_cell BK128.out 1).trans rfl
                                have hcz148_2 : wc.cell? ⟨gb128, 2, none⟩ = some (.int .i64 0) := (blk_cell BK128.out 2).trans rfl
                                have hcz148_3 : wc.cell? ⟨gb128, 3, none⟩ = some (.bool false) := (blk_cell BK128.out 3).trans rfl
                                have hcz148_4 : wc.cell? ⟨gb128, 4, none⟩ = some (.int .i64 0) := (blk_cell BK128.out 4).trans rfl
                                have hcz148_5 : wc.cell? ⟨gb128, 5, none⟩ = some (.int .i64 0) := (blk_cell BK128.out 5).trans rfl
                                have hcz148_6 : wc.cell? ⟨gb128, 6, none⟩ = some (.bool false) := (blk_cell BK128.out 6).trans rfl
                                have hcz148_7 : wc.cell? ⟨gb128, 7, none⟩ = some (.bool false) := (blk_cell BK128.out 7).trans rfl
                                have hcz148_8 : wc.cell? ⟨gb128, 8, none⟩ = some (.int .i64 0) := (blk_cell BK128.out 8).trans rfl
                                have hcz148_9 : wc.cell? ⟨gb128, 9, none⟩ = some (.bool false) := (blk_cell BK128.out 9).trans rfl
                                have hcz148_10 : wc.cell? ⟨gb128, 10, none⟩ = some (.bool false) := (blk_cell BK128.out 10).trans rfl
                                have hfz148_0 := blk_frozen BK128.out 0
                                have hfz148_1 := blk_frozen BK128.out 1
                                have hfz148_2 := blk_frozen BK128.out 2
                                have hfz148_3 := blk_frozen BK128.out 3
                                have hfz148_4 := blk_frozen BK128.out 4
                                have hfz148_5 := blk_frozen BK128.out 5
                                have hfz148_6 := blk_frozen BK128.out 6
                                have hfz148_7 := blk_frozen BK128.out 7
                                have hfz148_8 := blk_frozen BK128.out 8
                                have hfz148_9 := blk_frozen BK128.out 9
                                have hfz148_10 := blk_frozen BK128.out 10
                                go_wp2
                                refine bodyPost_ret (results_cell_row rfl _ _ gb128 31 #[.bool x126000_24, .int .i64 x126001_24, .int .i64 x126002_24, .bool x126003_24, .int .i64 x126004_24, .int .i64 x126005_24, .bool x126006_24, .bool false, .int .i64 ((ji90) + 1), .bool true, .bool true] (0, 0) _ rfl (by (with_reducible repeat (first | refine blk_drewN ?_ _ | refine blk_drew ?_ | refine blk_alloc ?_ _)); refine blk_put (cs := #[.bool x126000_24, .int .i64 x126001_24, .int .i64 x126002_24, .bool x126003_24, .int .i64 x126004_24, .int .i64 x126005_24, .bool x126006_24, .bool false, .int .i64 ((ji90) + 1), .bool true, .bool false]) ?_ 10 _ rfl; (with_reducible repeat (first | refine blk_drewN ?_ _ | refine blk_drew ?_ | refine blk_alloc ?_ _)); refine blk_put (cs := #[.bool x126000_24, .int .i64 x126001_24, .int .i64 x126002_24, .bool x126003_24, .int .i64 x126004_24, .int .i64 x126005_24, .bool x126006_24, .bool false, .int .i64 ((ji90) + 1), .bool false, .bool false]) ?_ 9 _ rfl; (with_reducible repeat (first | refine blk_drewN ?_ _ | refine blk_drew ?_ | refine blk_alloc ?_ _)); refine blk_put (cs := #[.bool x126000_24, .int .i64 x126001_24, .int .i64 x126002_24, .bool x126003_24, .int .i64 x126004_24, .int .i64 x126005_24, .bool x126006_24, .bool false, .int .i64 0, .bool false, .bool false]) ?_ 8 _ rfl; (with_reducible repeat (first | refine blk_drewN ?_ _ | refine blk_drew ?_ | refine blk_alloc ?_ _)); refine blk_put (cs := #[.bool x126000_24, .int .i64 x126001_24, .int .i64 x126002_24, .bool x126003_24, .int .i64 x126004_24, .int .i64 x126005_24, .bool x126006_24, .bool false, .int .i64 0, .bool false, .bool false]) ?_ 7 _ rfl; (with_reducible repeat (first | refine blk_drewN ?_ _ | refine blk_drew ?_ | refine blk_alloc ?_ _)); refine blk_put (cs := #[.bool x126000_24, .int .i64 x126001_24, .int .i64 x126002_24, .bool x126003_24, .int .i64 x126004_24, .int .i64 x126005_24, .bool false, .bool false, .int .i64 0, .bool false, .bool false]) ?_ 6 _ rfl; (with_reducible repeat (first | refine blk_drewN ?_ _ | refine blk_drew ?_ | refine blk_alloc ?_ _)); refine blk_put (cs := #[.bool x126000_24, .int .i64 x126001_24, .int .i64 x126002_24, .bool x126003_24, .int .i64 x126004_24, .int .i64 0, .bool false, .bool false, .int .i64 0, .bool false, .bool false]) ?_ 5 _ rfl; (with_reducible repeat (first | refine blk_drewN ?_ _ | refine blk_drew ?_ | refine blk_alloc ?_ _)); refine blk_put (cs := #[.bool x126000_24, .int .i64 x126001_24, .int .i64 x126002_24, .bool x126003_24, .int .i64 0, .int .i64 0, .bool false, .bool false, .int .i64 0, .bool false, .bool false]) ?_ 4 _ rfl; (with_reducible repeat (first | refine blk_drewN ?_ _ | refine blk_drew ?_ | refine blk_alloc ?_ _)); refine blk_put (cs := #[.bool x126000_24, .int .i64 x126001_24, .int .i64 x126002_24, .bool false, .int .i64 0, .int .i64 0, .bool false, .bool false, .int .i64 0, .bool false, .bool false]) ?_ 3 _ rfl; (with_reducible repeat (first | refine blk_drewN ?_ _ | refine blk_drew ?_ | refine blk_alloc ?_ _)); refine blk_put (cs := #[.bool x126000_24, .int .i64 x126001_24, .int .i64 0, .bool false, .int .i64 0, .int .i64 0, .bool false, .bool false, .int .i64 0, .bool false, .bool false]) ?_ 2 _ rfl; (with_reducible repeat (first | refine blk_drewN ?_ _ | refine blk_drew ?_ | refine blk_alloc ?_ _)); refine blk_put (cs := #[.bool x126000_24, .int .i64 0, .int .i64 0, .bool false, .int .i64 0, .int .i64 0, .bool false, .bool false, .int .i64 0, .bool false, .bool false]) ?_ 1 _ rfl; (with_reducible repeat (first | refine blk_drewN ?_ _ | refine blk_drew ?_ | refine blk_alloc ?_ _)); refine blk_put (cs := #[.bool false, .int .i64 0, .int .i64 0, .bool false, .int .i64 0, .int .i64 0, .bool false, .bool false, .int .i64 0, .bool false, .bool false]) ?_ 0 _ rfl; (with_reducible repeat (first | refine blk_drewN ?_ _ | refine blk_drew ?_ | refine blk_alloc ?_ _)); refine blk_far ?_ NB128_125.out _; (with_reducible repeat (first | refine blk_drewN ?_ _ | refine blk_drew ?_ | refine blk_alloc ?_ _)); refine blk_far ?_ NB128_125.out _; (with_reducible repeat (first | refine blk_drewN ?_ _ | refine blk_drew ?_ | refine blk_alloc ?_ _)); exact BK128.out) Try.underlying31 rfl (by kernel_rfl)) rfl ?_
                                exact ⟨by first | rfl | (simp [errW_none, errW_some] <;> rfl) | (simp only [← hji89, ← hji90]; first | rfl | (simp [errW_none, errW_some] <;> rfl)) | (simp [*, errW_none, errW_some] <;> rfl), by repeat (first | (with_reducible first | exact HB.out | apply below_alloc | apply pw_below_drewN | apply below_drew1 | refine below_set ?_ GE125.out | refine below_set ?_ GE126.out | refine below_set ?_ GE127.out | refine below_set ?_ GE128.out) | exact HB.out)⟩
                              · replace c138 := Bool.eq_false_iff.mpr c138
                                subst c138
                                have H1 : (some (x126000_24, x126001_24, x126002_24, x126003_24, x126004_24, x126005_24, x126006_24, false, (ji90) + 1, false, decide (((ji90) + 1) > a2_2))) = some (r1, r2, r3, r4, r5, r6, r7, r8, r9, r10, r11) := by rw [if_neg (show ¬ (false = true) by decide)] at H; exact H
                                clear H
                                have H := H1
                                clear H1
                                simp only [Option.some.injEq, Prod.mk.injEq] at H
                                obtain ⟨rfl, rfl, rfl, rfl, rfl, rfl, rfl, rfl, rfl, rfl, rfl⟩ := H
                                have hnb149 := NB125_126.out
                                have hnc149 := NB126_125.out
                                have hnb150 := NB125_127.out
                                have hnc150 := NB127_125.out
                                have hnb151 := NB125_128.out
                                have hnc151 := NB128_125.out
                                have hcz152_0 : wc.cell? ⟨gb125, 0, none⟩ = some (.bool x126000_24) := (blk_cell BK125.out 0).trans rfl
                                have hcz152_1 : wc.cell? ⟨gb125, 1, none⟩ = some (.int .i64 x126001_24) := (blk_cell BK125.out 1).trans rfl
                                have hcz152_2 : wc.cell? ⟨gb125, 2, none⟩ = some (.int .i64 x126002_24) := (blk_cell BK125.out 2).trans rfl
                                have hcz152_3 : wc.cell? ⟨gb125, 3, none⟩ = some (.bool x126003_24) := (blk_cell BK125.out 3).trans rfl
                                have hcz152_4 : wc.cell? ⟨gb125, 4, none⟩ = some (.int .i64 x126004_24) := (blk_cell BK125.out 4).trans rfl
                                have hcz152_5 : wc.cell? ⟨gb125, 5, none⟩ = some (.int .i64 x126005_24) := (blk_cell BK125.out 5).trans rfl
                                have hcz152_6 : wc.cell? ⟨gb125, 6, none⟩ = some (.bool x126006_24) := (blk_cell BK125.out 6).trans rfl
                                have hcz152_7 : wc.cell? ⟨gb125, 7, none⟩ = some (.bool false) := (blk_cell BK125.out 7).trans rfl
                                have hcz152_8 : wc.cell? ⟨gb125, 8, none⟩ = some (.int .i64 x126008_24) := (blk_cell BK125.out 8).trans rfl
                                have hcz152_9 : wc.cell? ⟨gb125, 9, none⟩ = some (.bool false) := (blk_cell BK125.out 9).trans rfl
                                have hcz152_10 : wc.cell? ⟨gb125, 10, none⟩ = some (.bool x126010_24) := (blk_cell BK125.out 10).trans rfl
                                have hfz152_0 := blk_frozen BK125.out 0
                                have hfz152_1 := blk_frozen BK125.out 1
                                have hfz152_2 := blk_frozen BK125.out 2
                                have hfz152_3 := blk_frozen BK125.out 3
                                have hfz152_4 := blk_frozen BK125.out 4
                                have hfz152_5 := blk_frozen BK125.out 5
                                have hfz152_6 := blk_frozen BK125.out 6
                                have hfz152_7 := blk_frozen BK125.out 7
                                have hfz152_8 := blk_frozen BK125.out 8
                                have hfz152_9 := blk_frozen BK125.out 9
                                have hfz152_10 := blk_frozen BK125.out 10
                                have hnb153 := NB126_127.out
                                have hnc153 := NB127_126.out
                                have hnb154 := NB126_128.out
                                have hnc154 := NB128_126.out
                                have hcz155_0 : wc.cell? ⟨gb126, 0, none⟩ = some (.bool a1_0) := (blk_cell BK126.out 0).trans rfl
                                have hcz155_1 : wc.cell? ⟨gb126, 1, none⟩ = some (.int .i64 a1_1) := (blk_cell BK126.out 1).trans rfl
                                have hcz155_2 : wc.cell? ⟨gb126, 2, none⟩ = some (.int .i64 a1_2) := (blk_cell BK126.out 2).trans rfl
                                have hcz155_3 : wc.cell? ⟨gb126, 3, none⟩ = some (.int .i64 a1_3) := (blk_cell BK126.out 3).trans rfl
                                have hcz155_4 : wc.cell? ⟨gb126, 4, none⟩ = some (.int .i64 a1_4) := (blk_cell BK126.out 4).trans rfl
                                have hfz155_0 := blk_frozen BK126.out 0
                                have hfz155_1 := blk_frozen BK126.out 1
                                have hfz155_2 := blk_frozen BK126.out 2
                                have hfz155_3 := blk_frozen BK126.out 3
                                have hfz155_4 := blk_frozen BK126.out 4
                                have hnb156 := NB127_128.out
                                have hnc156 := NB128_127.out
                                have hcz157_0 : wc.cell? ⟨gb127, 0, none⟩ = some (.int .i64 a2_0) := (blk_cell BK127.out 0).trans rfl
                                have hcz157_1 : wc.cell? ⟨gb127, 1, none⟩ = some (.int .i64 a2_1) := (blk_cell BK127.out 1).trans rfl
                                have hcz157_2 : wc.cell? ⟨gb127, 2, none⟩ = some (.int .i64 a2_2) := (blk_cell BK127.out 2).trans rfl
                                have hfz157_0 := blk_frozen BK127.out 0
                                have hfz157_1 := blk_frozen BK127.out 1
                                have hfz157_2 := blk_frozen BK127.out 2
                                have hcz158_0 : wc.cell? ⟨gb128, 0, none⟩ = some (.bool false) := (blk_cell BK128.out 0).trans rfl
                                have hcz158_1 : wc.cell? ⟨gb128, 1, none⟩ = some (.int .i64 0) := (blk_cell BK128.out 1).trans rfl
                                have hcz158_2 : wc.cell? ⟨gb128, 2, none⟩ = some (.int .i64 0) := (blk_cell BK128.out 2).trans rfl
                                have hcz158_3 : wc.cell? ⟨gb128, 3, none⟩ = some (.bool false) := (blk_cell BK128.out 3).trans rfl
                                have hcz158_4 : wc.cell? ⟨gb128, 4, none⟩ = some (.int .i64 0) := (blk_cell BK128.out 4).trans rfl
                                have hcz158_5 : wc.cell? ⟨gb128, 5, none⟩ = some (.int .i64 0) := (blk_cell BK128.out 5).trans rfl
                                have hcz158_6 : wc.cell? ⟨gb128, 6, none⟩ = some (.bool false) := (blk_cell BK128.out 6).trans rfl
                                have hcz158_7 : wc.cell? ⟨gb128, 7, none⟩ = some (.bool false) := (blk_cell BK128.out 7).trans rfl
                                have hcz158_8 : wc.cell? ⟨gb128, 8, none⟩ = some (.int .i64 0) := (blk_cell BK128.out 8).trans rfl
                                have hcz158_9 : wc.cell? ⟨gb128, 9, none⟩ = some (.bool false) := (blk_cell BK128.out 9).trans rfl
                                have hcz158_10 : wc.cell? ⟨gb128, 10, none⟩ = some (.bool false) := (blk_cell BK128.out 10).trans rfl
                                have hfz158_0 := blk_frozen BK128.out 0
                                have hfz158_1 := blk_frozen BK128.out 1
                                have hfz158_2 := blk_frozen BK128.out 2
                                have hfz158_3 := blk_frozen BK128.out 3
                                have hfz158_4 := blk_frozen BK128.out 4
                                have hfz158_5 := blk_frozen BK128.out 5
                                have hfz158_6 := blk_frozen BK128.out 6
                                have hfz158_7 := blk_frozen BK128.out 7
                                have hfz158_8 := blk_frozen BK128.out 8
                                have hfz158_9 := blk_frozen BK128.out 9
                                have hfz158_10 := blk_frozen BK128.out 10
                                go_wp2
                                refine bodyPost_ret (results_cell_row rfl _ _ gb128 31 #[.bool x126000_24, .int .i64 x126001_24, .int .i64 x126002_24, .bool x126003_24, .int .i64 x126004_24, .int .i64 x126005_24, .bool x126006_24, .bool false, .int .i64 ((ji90) + 1), .bool false, .bool (decide (((ji90) + 1) > a2_2))] (0, 0) _ rfl (by (with_reducible repeat (first | refine blk_drewN ?_ _ | refine blk_drew ?_ | refine blk_alloc ?_ _)); refine blk_put (cs := #[.bool x126000_24, .int .i64 x126001_24, .int .i64 x126002_24, .bool x126003_24, .int .i64 x126004_24, .int .i64 x126005_24, .bool x126006_24, .bool false, .int .i64 ((ji90) + 1), .bool false, .bool false]) ?_ 10 _ rfl; (with_reducible repeat (first | refine blk_drewN ?_ _ | refine blk_drew ?_ | refine blk_alloc ?_ _)); refine blk_put (cs := #[.bool x126000_24, .int .i64 x126001_24, .int .i64 x126002_24, .bool x126003_24, .int .i64 x126004_24, .int .i64 x126005_24, .bool x126006_24, .bool false, .int .i64 ((ji90) + 1), .bool false, .bool false]) ?_ 9 _ rfl; (with_reducible repeat (first | refine blk_drewN ?_ _ | refine blk_drew ?_ | refine blk_alloc ?_ _)); refine blk_put (cs := #[.bool x126000_24, .int .i64 x126001_24, .int .i64 x126002_24, .bool x126003_24, .int .i64 x126004_24, .int .i64 x126005_24, .bool x126006_24, .bool false, .int .i64 0, .bool false, .bool false]) ?_ 8 _ rfl; (with_reducible repeat (first | refine blk_drewN ?_ _ | refine blk_drew ?_ | refine blk_alloc ?_ _)); refine blk_put (cs := #[.bool x126000_24, .int .i64 x126001_24, .int .i64 x126002_24, .bool x126003_24, .int .i64 x126004_24, .int .i64 x126005_24, .bool x126006_24, .bool false, .int .i64 0, .bool false, .bool false]) ?_ 7 _ rfl; (with_reducible repeat (first | refine blk_drewN ?_ _ | refine blk_drew ?_ | refine blk_alloc ?_ _)); refine blk_put (cs := #[.bool x126000_24, .int .i64 x126001_24, .int .i64 x126002_24, .bool x126003_24, .int .i64 x126004_24, .int .i64 x126005_24, .bool false, .bool false, .int .i64 0, .bool false, .bool false]) ?_ 6 _ rfl; (with_reducible repeat (first | refine blk_drewN ?_ _ | refine blk_drew ?_ | refine blk_alloc ?_ _)); refine blk_put (cs := #[.bool x126000_24, .int .i64 x126001_24, .int .i64 x126002_24, .bool x126003_24, .int .i64 x126004_24, .int .i64 0, .bool false, .bool false, .int .i64 0, .bool false, .bool false]) ?_ 5 _ rfl; (with_reducible repeat (first | refine blk_drewN ?_ _ | refine blk_drew ?_ | refine blk_alloc ?_ _)); refine blk_put (cs := #[.bool x126000_24, .int .i64 x126001_24, .int .i64 x126002_24, .bool x126003_24, .int .i64 0, .int .i64 0, .bool false, .bool false, .int .i64 0, .bool false, .bool false]) ?_ 4 _ rfl; (with_reducible repeat (first | refine blk_drewN ?_ _ | refine blk_drew ?_ | refine blk_alloc ?_ _)); refine blk_put (cs := #[.bool x126000_24, .int .i64 x126001_24, .int .i64 x126002_24, .bool false, .int .i64 0, .int .i64 0, .bool false, .bool false, .int .i64 0, .bool false, .bool false]) ?_ 3 _ rfl; (with_reducible repeat (first | refine blk_drewN ?_ _ | refine blk_drew ?_ | refine blk_alloc ?_ _)); refine blk_put (cs := #[.bool x126000_24, .int .i64 x126001_24, .int .i64 0, .bool false, .int .i64 0, .int .i64 0, .bool false, .bool false, .int .i64 0, .bool false, .bool false]) ?_ 2 _ rfl; (with_reducible repeat (first | refine blk_drewN ?_ _ | refine blk_drew ?_ | refine blk_alloc ?_ _)); refine blk_put (cs := #[.bool x126000_24, .int .i64 0, .int .i64 0, .bool false, .int .i64 0, .int .i64 0, .bool false, .bool false, .int .i64 0, .bool false, .bool false]) ?_ 1 _ rfl; (with_reducible repeat (first | refine blk_drewN ?_ _ | refine blk_drew ?_ | refine blk_alloc ?_ _)); refine blk_put (cs := #[.bool false, .int .i64 0, .int .i64 0, .bool false, .int .i64 0, .int .i64 0, .bool false, .bool false, .int .i64 0, .bool false, .bool false]) ?_ 0 _ rfl; (with_reducible repeat (first | refine blk_drewN ?_ _ | refine blk_drew ?_ | refine blk_alloc ?_ _)); refine blk_far ?_ NB128_125.out _; (with_reducible repeat (first | refine blk_drewN ?_ _ | refine blk_drew ?_ | refine blk_alloc ?_ _)); refine blk_far ?_ NB128_125.out _; (with_reducible repeat (first | refine blk_drewN ?_ _ | refine blk_drew ?_ | refine blk_alloc ?_ _)); exact BK128.out) Try.underlying31 rfl (by kernel_rfl)) rfl ?_
                                exact ⟨by first | rfl | (simp [errW_none, errW_some] <;> rfl) | (simp only [← hji89, ← hji90]; first | rfl | (simp [errW_none, errW_some] <;> rfl)) | (simp [*, errW_none, errW_some] <;> rfl), by repeat (first | (with_reducible first | exact HB.out | apply below_alloc | apply pw_below_drewN | apply below_drew1 | refine below_set ?_ GE125.out | refine below_set ?_ GE126.out | refine below_set ?_ GE127.out | refine below_set ?_ GE128.out) | exact HB.out)⟩
                            · rw [if_neg c137] at H
                              exact absurd H (by simp)
                      · rw [if_neg c92] at H
                        have c92b0 : decide (a1_3 < 3) = false := decide_eq_false c92
                        clear c92
                        by_cases c159 : x126009_33 = true
                        · subst c159
                          have H1 : (some (x126000_24, x126001_24, x126002_24, x126003_24, x126004_24, x126005_24, x126006_24, false, (ji90) + 1, true, true)) = some (r1, r2, r3, r4, r5, r6, r7, r8, r9, r10, r11) := by rw [if_pos rfl] at H; exact H
                          clear H
                          have H := H1
                          clear H1
                          simp only [Option.some.injEq, Prod.mk.injEq] at H
                          obtain ⟨rfl, rfl, rfl, rfl, rfl, rfl, rfl, rfl, rfl, rfl, rfl⟩ := H
                          have hnb160 := NB125_126.out
                          have hnc160 := NB126_125.out
                          have hnb161 := NB125_127.out
                          have hnc161 := NB127_125.out
                          have hnb162 := NB125_128.out
                          have hnc162 := NB128_125.out
                          have hcz163_0 : wc.cell? ⟨gb125, 0, none⟩ = some (.bool x126000_24) := (blk_cell BK125.out 0).trans rfl
                          have hcz163_1 : wc.cell? ⟨gb125, 1, none⟩ = some (.int .i64 x126001_24) := (blk_cell BK125.out 1).trans rfl
                          have hcz163_2 : wc.cell? ⟨gb125, 2, none⟩ = some (.int .i64 x126002_24) := (blk_cell BK125.out 2).trans rfl
                          have hcz163_3 : wc.cell? ⟨gb125, 3, none⟩ = some (.bool x126003_24) := (blk_cell BK125.out 3).trans rfl
                          have hcz163_4 : wc.cell? ⟨gb125, 4, none⟩ = some (.int .i64 x126004_24) := (blk_cell BK125.out 4).trans rfl
                          have hcz163_5 : wc.cell? ⟨gb125, 5, none⟩ = some (.int .i64 x126005_24) := (blk_cell BK125.out 5).trans rfl
                          have hcz163_6 : wc.cell? ⟨gb125, 6, none⟩ = some (.bool x126006_24) := (blk_cell BK125.out 6).trans rfl
                          have hcz163_7 : wc.cell? ⟨gb125, 7, none⟩ = some (.bool false) := (blk_cell BK125.out 7).trans rfl
                          have hcz163_8 : wc.cell? ⟨gb125, 8, none⟩ = some (.int .i64 x126008_24) := (blk_cell BK125.out 8).trans rfl
                          have hcz163_9 : wc.cell? ⟨gb125, 9, none⟩ = some (.bool true) := (blk_cell BK125.out 9).trans rfl
                          have hcz163_10 : wc.cell? ⟨gb125, 10, none⟩ = some (.bool x126010_24) := (blk_cell BK125.out 10).trans rfl
                          have hfz163_0 := blk_frozen BK125.out 0
                          have hfz163_1 := blk_frozen BK125.out 1
                          have hfz163_2 := blk_frozen BK125.out 2
                          have hfz163_3 := blk_frozen BK125.out 3
                          have hfz163_4 := blk_frozen BK125.out 4
                          have hfz163_5 := blk_frozen BK125.out 5
                          have hfz163_6 := blk_frozen BK125.out 6
                          have hfz163_7 := blk_frozen BK125.out 7
                          have hfz163_8 := blk_frozen BK125.out 8
                          have hfz163_9 := blk_frozen BK125.out 9
                          have hfz163_10 := blk_frozen BK125.out 10
                          have hnb164 := NB126_127.out
                          have hnc164 := NB127_126.out
                          have hnb165 := NB126_128.out
                          have hnc165 := NB128_126.out
                          have hcz166_0 : wc.cell? ⟨gb126, 0, none⟩ = some (.bool a1_0) := (blk_cell BK126.out 0).trans rfl
                          have hcz166_1 : wc.cell? ⟨gb126, 1, none⟩ = some (.int .i64 a1_1) := (blk_cell BK126.out 1).trans rfl
                          have hcz166_2 : wc.cell? ⟨gb126, 2, none⟩ = some (.int .i64 a1_2) := (blk_cell BK126.out 2).trans rfl
                          have hcz166_3 : wc.cell? ⟨gb126, 3, none⟩ = some (.int .i64 a1_3) := (blk_cell BK126.out 3).trans rfl
                          have hcz166_4 : wc.cell? ⟨gb126, 4, none⟩ = some (.int .i64 a1_4) := (blk_cell BK126.out 4).trans rfl
                          have hfz166_0 := blk_frozen BK126.out 0
                          have hfz166_1 := blk_frozen BK126.out 1
                          have hfz166_2 := blk_frozen BK126.out 2
                          have hfz166_3 := blk_frozen BK126.out 3
                          have hfz166_4 := blk_frozen BK126.out 4
                          have hnb167 := NB128_127.out
                          have hnc167 := NB127_128.out
                          have hcz168_0 : wc.cell? ⟨gb128, 0, none⟩ = some (.bool false) := (blk_cell BK128.out 0).trans rfl
                          have hcz168_1 : wc.cell? ⟨gb128, 1, none⟩ = some (.int .i64 0) := (blk_cell BK128.out 1).trans rfl
                          have hcz168_2 : wc.cell? ⟨gb128, 2, none⟩ = some (.int .i64 0) := (blk_cell BK128.out 2).trans rfl
                          have hcz168_3 : wc.cell? ⟨gb128, 3, none⟩ = some (.bool false) := (blk_cell BK128.out 3).trans rfl
                          have hcz168_4 : wc.cell? ⟨gb128, 4, none⟩ = some (.int .i64 0) := (blk_cell BK128.out 4).trans rfl
                          have hcz168_5 : wc.cell? ⟨gb128, 5, none⟩ = some (.int .i64 0) := (blk_cell BK128.out 5).trans rfl
                          have hcz168_6 : wc.cell? ⟨gb128, 6, none⟩ = some (.bool false) := (blk_cell BK128.out 6).trans rfl
                          have hcz168_7 : wc.cell? ⟨gb128, 7, none⟩ = some (.bool false) := (blk_cell BK128.out 7).trans rfl
                          have hcz168_8 : wc.cell? ⟨gb128, 8, none⟩ = some (.int .i64 0) := (blk_cell BK128.out 8).trans rfl
                          have hcz168_9 : wc.cell? ⟨gb128, 9, none⟩ = some (.bool false) := (blk_cell BK128.out 9).trans rfl
                          have hcz168_10 : wc.cell? ⟨gb128, 10, none⟩ = some (.bool false) := (blk_cell BK128.out 10).trans rfl
                          have hfz168_0 := blk_frozen BK128.out 0
                          have hfz168_1 := blk_frozen BK128.out 1
                          have hfz168_2 := blk_frozen BK128.out 2
                          have hfz168_3 := blk_frozen BK128.out 3
                          have hfz168_4 := blk_frozen BK128.out 4
                          have hfz168_5 := blk_frozen BK128.out 5
                          have hfz168_6 := blk_frozen BK128.out 6
                          have hfz168_7 := blk_frozen BK128.out 7
                          have hfz168_8 := blk_frozen BK128.out 8
                          have hfz168_9 := blk_frozen BK128.out 9
                          have hfz168_10 := blk_frozen BK128.out 10
                          go_wp2
                          refine bodyPost_ret (results_cell_row rfl _ _ gb128 31 #[.bool x126000_24, .int .i64 x126001_24, .int .i64 x126002_24, .bool x126003_24, .int .i64 x126004_24, .int .i64 x126005_24, .bool x126006_24, .bool false, .int .i64 ((ji90) + 1), .bool true, .bool true] (0, 0) _ rfl (by (with_reducible repeat (first | refine blk_drewN ?_ _ | refine blk_drew ?_ | refine blk_alloc ?_ _)); refine blk_put (cs := #[.bool x126000_24, .int .i64 x126001_24, .int .i64 x126002_24, .bool x126003_24, .int .i64 x126004_24, .int .i64 x126005_24, .bool x126006_24, .bool false, .int .i64 ((ji90) + 1), .bool true, .bool false]) ?_ 10 _ rfl; (with_reducible repeat (first | refine blk_drewN ?_ _ | refine blk_drew ?_ | refine blk_alloc ?_ _)); refine blk_put (cs := #[.bool x126000_24, .int .i64 x126001_24, .int .i64 x126002_24, .bool x126003_24, .int .i64 x126004_24, .int .i64 x126005_24, .bool x126006_24, .bool false, .int .i64 ((ji90) + 1), .bool false, .bool false]) ?_ 9 _ rfl; (with_reducible repeat (first | refine blk_drewN ?_ _ | refine blk_drew ?_ | refine blk_alloc ?_ _)); refine blk_put (cs := #[.bool x126000_24, .int .i64 x126001_24, .int .i64 x126002_24, .bool x126003_24, .int .i64 x126004_24, .int .i64 x126005_24, .bool x126006_24, .bool false, .int .i64 0, .bool false, .bool false]) ?_ 8 _ rfl; (with_reducible repeat (first | refine blk_drewN ?_ _ | refine blk_drew ?_ | refine blk_alloc ?_ _)); refine blk_put (cs := #[.bool x126000_24, .int .i64 x126001_24, .int .i64 x126002_24, .bool x126003_24, .int .i64 x126004_24, .int .i64 x126005_24, .bool x126006_24, .bool false, .int .i64 0, .bool false, .bool false]) ?_ 7 _ rfl; (with_reducible repeat (first | refine blk_drewN ?_ _ | refine blk_drew ?_ | refine blk_alloc ?_ _)); refine blk_put (cs := #[.bool x126000_24, .int .i64 x126001_24, .int .i64 x126002_24, .bool x126003_24, .int .i64 x126004_24, .int .i64 x126005_24, .bool false, .bool false, .int .i64 0, .bool false, .bool false]) ?_ 6 _ rfl; (with_reducible repeat (first | refine blk_drewN ?_ _ | refine blk_drew ?_ | refine blk_alloc ?_ _)); refine blk_put (cs := #[.bool x126000_24, .int .i64 x126001_24, .int .i64 x126002_24, .bool x126003_24, .int .i64 x126004_24, .int .i64 0, .bool false, .bool false, .int .i64 0, .bool false, .bool false]) ?_ 5 _ rfl; (with_reducible repeat (first | refine blk_drewN ?_ _ | refine blk_drew ?_ | refine blk_alloc ?_ _)); refine blk_put (cs := #[.bool x126000_24, .int .i64 x126001_24, .int .i64 x126002_24, .bool x126003_24, .int .i64 0, .int .i64 0, .bool false, .bool false, .int .i64 0, .bool false, .bool false]) ?_ 4 _ rfl; (with_reducible repeat (first | refine blk_drewN ?_ _ | refine blk_drew ?_ | refine blk_alloc ?_ _)); refine blk_put (cs := #[.bool x126000_24, .int .i64 x126001_24, .int .i64 x126002_24, .bool false, .int .i64 0, .int .i64 0, .bool false, .bool false, .int .i64 0, .bool false, .bool false]) ?_ 3 _ rfl; (with_reducible repeat (first | refine blk_drewN ?_ _ | refine blk_drew ?_ | refine blk_alloc ?_ _)); refine blk_put (cs := #[.bool x126000_24, .int .i64 x126001_24, .int .i64 0, .bool false, .int .i64 0, .int .i64 0, .bool false, .bool false, .int .i64 0, .bool false, .bool false]) ?_ 2 _ rfl; (with_reducible repeat (first | refine blk_drewN ?_ _ | refine blk_drew ?_ | refine blk_alloc ?_ _)); refine blk_put (cs := #[.bool x126000_24, .int .i64 0, .int .i64 0, .bool false, .int .i64 0, .int .i64 0, .bool false, .bool false, .int .i64 0, .bool false, .bool false]) ?_ 1 _ rfl; (with_reducible repeat (first | refine blk_drewN ?_ _ | refine blk_drew ?_ | refine blk_alloc ?_ _)); refine blk_put (cs := #[.bool false, .int .i64 0, .int .i64 0, .bool false, .int .i64 0, .int .i64 0, .bool false, .bool false, .int .i64 0, .bool false, .bool false]) ?_ 0 _ rfl; (with_reducible repeat (first | refine blk_drewN ?_ _ | refine blk_drew ?_ | refine blk_alloc ?_ _)); refine blk_far ?_ NB128_125.out _; (with_reducible repeat (first | refine blk_drewN ?_ _ | refine blk_drew ?_ | refine blk_alloc ?_ _)); refine blk_far ?_ NB128_125.out _; (with_reducible repeat (first | refine blk_drewN ?_ _ | refine blk_drew ?_ | refine blk_alloc ?_ _)); exact BK128.out) Try.underlying31 rfl (by kernel_rfl)) rfl ?_
                          exact ⟨by first | rfl | (simp [errW_none, errW_some] <;> rfl) | (simp only [← hji89, ← hji90]; first | rfl | (simp [errW_none, errW_some] <;> rfl)) | (simp [*, errW_none, errW_some] <;> rfl), by repeat (first | (with_reducible first | exact HB.out | apply below_alloc | apply pw_below_drewN | apply below_drew1 | refine below_set ?_ GE125.out | refine below_set ?_ GE126.out | refine below_set ?_ GE127.out | refine below_set ?_ GE128.out) | exact HB.out)⟩
                        · replace c159 := Bool.eq_false_iff.mpr c159
                          subst c159
                          have H1 : (some (x126000_24, x126001_24, x126002_24, x126003_24, x126004_24, x126005_24, x126006_24, false, (ji90) + 1, false, decide (((ji90) + 1) > 0))) = some (r1, r2, r3, r4, r5, r6, r7, r8, r9, r10, r11) := by rw [if_neg (show ¬ (false = true) by decide)] at H; exact H
                          clear H
                          have H := H1
                          clear H1
                          simp only [Option.some.injEq, Prod.mk.injEq] at H
                          obtain ⟨rfl, rfl, rfl, rfl, rfl, rfl, rfl, rfl, rfl, rfl, rfl⟩ := H
                          have hnb169 := NB125_126.out
                          have hnc169 := NB126_125.out
                          have hnb170 := NB125_127.out
                          have hnc170 := NB127_125.out
                          have hnb171 := NB125_128.out
                          have hnc171 := NB128_125.out
                          have hcz172_0 : wc.cell? ⟨gb125, 0, none⟩ = some (.bool x126000_24) := (blk_cell BK125.out 0).trans rfl
                          have hcz172_1 : wc.cell? ⟨gb125, 1, none⟩ = some (.int .i64 x126001_24) := (blk_cell BK125.out 1).trans rfl
                          have hcz172_2 : wc.cell? ⟨gb125, 2, none⟩ = some (.int .i64 x126002_24) := (blk_cell BK125.out 2).trans rfl
                          have hcz172_3 : wc.cell? ⟨gb125, 3, none⟩ = some (.bool x126003_24) := (blk_cell BK125.out 3).trans rfl
                          have hcz172_4 : wc.cell? ⟨gb125, 4, none⟩ = some (.int .i64 x126004_24) := (blk_cell BK125.out 4).trans rfl
                          have hcz172_5 : wc.cell? ⟨gb125, 5, none⟩ = some (.int .i64 x126005_24) := (blk_cell BK125.out 5).trans rfl
                          have hcz172_6 : wc.cell? ⟨gb125, 6, none⟩ = some (.bool x126006_24) := (blk_cell BK125.out 6).trans rfl
                          have hcz172_7 : wc.cell? ⟨gb125, 7, none⟩ = some (.bool false) := (blk_cell BK125.out 7).trans rfl
                          have hcz172_8 : wc.cell? ⟨gb125, 8, none⟩ = some (.int .i64 x126008_24) := (blk_cell BK125.out 8).trans rfl
                          have hcz172_9 : wc.cell? ⟨gb125, 9, none⟩ = some (.bool false) := (blk_cell BK125.out 9).trans rfl
                          have hcz172_10 : wc.cell? ⟨gb125, 10, none⟩ = some (.bool x126010_24) := (blk_cell BK125.out 10).trans rfl
                          have hfz172_0 := blk_frozen BK125.out 0
                          have hfz172_1 := blk_frozen BK125.out 1
                          have hfz172_2 := blk_frozen BK125.out 2
                          have hfz172_3 := blk_frozen BK125.out 3
                          have hfz172_4 := blk_frozen BK125.out 4
                          have hfz172_5 := blk_frozen BK125.out 5
                          have hfz172_6 := blk_frozen BK125.out 6
                          have hfz172_7 := blk_frozen BK125.out 7
                          have hfz172_8 := blk_frozen BK125.out 8
                          have hfz172_9 := blk_frozen BK125.out 9
                          have hfz172_10 := blk_frozen BK125.out 10
                          have hnb173 := NB126_127.out
                          have hnc173 := NB127_126.out
                          have hnb174 := NB126_128.out
                          have hnc174 := NB128_126.out
                          have hcz175_0 : wc.cell? ⟨gb126, 0, none⟩ = some (.bool a1_0) := (blk_cell BK126.out 0).trans rfl
                          have hcz175_1 : wc.cell? ⟨gb126, 1, none⟩ = some (.int .i64 a1_1) := (blk_cell BK126.out 1).trans rfl
                          have hcz175_2 : wc.cell? ⟨gb126, 2, none⟩ = some (.int .i64 a1_2) := (blk_cell BK126.out 2).trans rfl
                          have hcz175_3 : wc.cell? ⟨gb126, 3, none⟩ = some (.int .i64 a1_3) := (blk_cell BK126.out 3).trans rfl
                          have hcz175_4 : wc.cell? ⟨gb126, 4, none⟩ = some (.int .i64 a1_4) := (blk_cell BK126.out 4).trans rfl
                          have hfz175_0 := blk_frozen BK126.out 0
                          have hfz175_1 := blk_frozen BK126.out 1
                          have hfz175_2 := blk_frozen BK126.out 2
                          have hfz175_3 := blk_frozen BK126.out 3
                          have hfz175_4 := blk_frozen BK126.out 4
                          have hnb176 := NB128_127.out
                          have hnc176 := NB127_128.out
                          have hcz177_0 : wc.cell? ⟨gb128, 0, none⟩ = some (.bool false) := (blk_cell BK128.out 0).trans rfl
                          have hcz177_1 : wc.cell? ⟨gb128, 1, none⟩ = some (.int .i64 0) := (blk_cell BK128.out 1).trans rfl
                          have hcz177_2 : wc.cell? ⟨gb128, 2, none⟩ = some (.int .i64 0) := (blk_cell BK128.out 2).trans rfl
                          have hcz177_3 : wc.cell? ⟨gb128, 3, none⟩ = some (.bool false) := (blk_cell BK128.out 3).trans rfl
                          have hcz177_4 : wc.cell? ⟨gb128, 4, none⟩ = some (.int .i64 0) := (blk_cell BK128.out 4).trans rfl
                          have hcz177_5 : wc.cell? ⟨gb128, 5, none⟩ = some (.int .i64 0) := (blk_cell BK128.out 5).trans rfl
                          have hcz177_6 : wc.cell? ⟨gb128, 6, none⟩ = some (.bool false) := (blk_cell BK128.out 6).trans rfl
                          have hcz177_7 : wc.cell? ⟨gb128, 7, none⟩ = some (.bool false) := (blk_cell BK128.out 7).trans rfl
                          have hcz177_8 : wc.cell? ⟨gb128, 8, none⟩ = some (.int .i64 0) := (blk_cell BK128.out 8).trans rfl
                          have hcz177_9 : wc.cell? ⟨gb128, 9, none⟩ = some (.bool false) := (blk_cell BK128.out 9).trans rfl
                          have hcz177_10 : wc.cell? ⟨gb128, 10, none⟩ = some (.bool false) := (blk_cell BK128.out 10).trans rfl
                          have hfz177_0 := blk_frozen BK128.out 0
                          have hfz177_1 := blk_frozen BK128.out 1
                          have hfz177_2 := blk_frozen BK128.out 2
                          have hfz177_3 := blk_frozen BK128.out 3
                          have hfz177_4 := blk_frozen BK128.out 4
                          have hfz177_5 := blk_frozen BK128.out 5
                          have hfz177_6 := blk_frozen BK128.out 6
                          have hfz177_7 := blk_frozen BK128.out 7
                          have hfz177_8 := blk_frozen BK128.out 8
                          have hfz177_9 := blk_frozen BK128.out 9
                          have hfz177_10 := blk_frozen BK128.out 10
                          go_wp2
                          refine bodyPost_ret (results_cell_row rfl _ _ gb128 31 #[.bool x126000_24, .int .i64 x126001_24, .int .i64 x126002_24, .bool x126003_24, .int .i64 x126004_24, .int .i64 x126005_24, .bool x126006_24, .bool false, .int .i64 ((ji90) + 1), .bool false, .bool (decide (((ji90) + 1) > 0))] (0, 0) _ rfl (by (with_reducible repeat (first | refine blk_drewN ?_ _ | refine blk_drew ?_ | refine blk_alloc ?_ _)); refine blk_put (cs := #[.bool x126000_24, .int .i64 x126001_24, .int .i64 x126002_24, .bool x126003_24, .int .i64 x126004_24, .int .i64 x126005_24, .bool x126006_24, .bool false, .int .i64 ((ji90) + 1), .bool false, .bool false]) ?_ 10 _ rfl; (with_reducible repeat (first | refine blk_drewN ?_ _ | refine blk_drew ?_ | refine blk_alloc ?_ _)); refine blk_put (cs := #[.bool x126000_24, .int .i64 x126001_24, .int .i64 x126002_24, .bool x126003_24, .int .i64 x126004_24, .int .i64 x126005_24, .bool x126006_24, .bool false, .int .i64 ((ji90) + 1), .bool false, .bool false]) ?_ 9 _ rfl; (with_reducible repeat (first | refine blk_drewN ?_ _ | refine blk_drew ?_ | refine blk_alloc ?_ _)); refine blk_put (cs := #[.bool x126000_24, .int .i64 x126001_24, .int .i64 x126002_24, .bool x126003_24, .int .i64 x126004_24, .int .i64 x126005_24, .bool x126006_24, .bool false, .int .i64 0, .bool false, .bool false]) ?_ 8 _ rfl; (with_reducible repeat (first | refine blk_drewN ?_ _ | refine blk_drew ?_ | refine blk_alloc ?_ _)); refine blk_put (cs := #[.bool x126000_24, .int .i64 x126001_24, .int .i64 x126002_24, .bool x126003_24, .int .i64 x126004_24, .int .i64 x126005_24, .bool x126006_24, .bool false, .int .i64 0, .bool false, .bool false]) ?_ 7 _ rfl; (with_reducible repeat (first | refine blk_drewN ?_ _ | refine blk_drew ?_ | refine blk_alloc ?_ _)); refine blk_put (cs := #[.bool x126000_24, .int .i64 x126001_24, .int .i64 x126002_24, .bool x126003_24, .int .i64 x126004_24, .int .i64 x126005_24, .bool false, .bool false, .int .i64 0, .bool false, .bool false]) ?_ 6 _ rfl; (with_reducible repeat (first | refine blk_drewN ?_ _ | refine blk_drew ?_ | refine blk_alloc ?_ _)); refine blk_put (cs := #[.bool x126000_24, .int .i64 x126001_24, .int .i64 x126002_24, .bool x126003_24, .int .i64 x126004_24, .int .i64 0, .bool false, .bool false, .int .i64 0, .bool false, .bool false]) ?_ 5 _ rfl; (with_reducible repeat (first | refine blk_drewN ?_ _ | refine blk_drew ?_ | refine blk_alloc ?_ _)); refine blk_put (cs := #[.bool x126000_24, .int .i64 x126001_24, .int .i64 x126002_24, .bool x126003_24, .int .i64 0, .int .i64 0, .bool false, .bool false, .int .i64 0, .bool false, .bool false]) ?_ 4 _ rfl; (with_reducible repeat (first | refine blk_drewN ?_ _ | refine blk_drew ?_ | refine blk_alloc ?_ _)); refine blk_put (cs := #[.bool x126000_24, .int .i64 x126001_24, .int .i64 x126002_24, .bool false, .int .i64 0, .int .i64 0, .bool false, .bool false, .int .i64 0, .bool false, .bool false]) ?_ 3 _ rfl; (with_reducible repeat (first | refine blk_drewN ?_ _ | refine blk_drew ?_ | refine blk_alloc ?_ _)); refine blk_put (cs := #[.bool x126000_24, .int .i64 x126001_24, .int .i64 0, .bool false, .int .i64 0, .int .i64 0, .bool false, .bool false, .int .i64 0, .bool false, .bool false]) ?_ 2 _ rfl; (with_reducible repeat (first | refine blk_drewN ?_ _ | refine blk_drew ?_ | refine blk_alloc ?_ _)); refine blk_put (cs := #[.bool x126000_24, .int .i64 0, .int .i64 0, .bool false, .int .i64 0, .int .i64 0, .bool false, .bool false, .int .i64 0, .bool false, .bool false]) ?_ 1 _ rfl; (with_reducible repeat (first | refine blk_drewN ?_ _ | refine blk_drew ?_ | refine blk_alloc ?_ _)); refine blk_put (cs := #[.bool false, .int .i64 0, .int .i64 0, .bool false, .int .i64 0, .int .i64 0, .bool false, .bool false, .int .i64 0, .bool false, .bool false]) ?_ 0 _ rfl; (with_reducible repeat (first | refine blk_drewN ?_ _ | refine blk_drew ?_ | refine blk_alloc ?_ _)); refine blk_far ?_ NB128_125.out _; (with_reducible repeat (first | refine blk_drewN ?_ _ | refine blk_drew ?_ | refine blk_alloc ?_ _)); refine blk_far ?_ NB128_125.out _; (with_reducible repeat (first | refine blk_drewN ?_ _ | refine blk_drew ?_ | refine blk_alloc ?_ _)); exact BK128.out) Try.underlying31 rfl (by kernel_rfl)) rfl ?_
                          exact ⟨by first | rfl | (simp [errW_none, errW_some] <;> rfl) | (simp only [← hji89, ← hji90]; first | rfl | (simp [errW_none, errW_some] <;> rfl)) | (simp [*, errW_none, errW_some] <;> rfl), by repeat (first | (with_reducible first | exact HB.out | apply below_alloc | apply pw_below_drewN | apply below_drew1 | refine below_set ?_ GE125.out | refine below_set ?_ GE126.out | refine below_set ?_ GE127.out | refine below_set ?_ GE128.out) | exact HB.out)⟩
                    · rw [if_neg c91] at H
                      have c91b0 : decide (0 ≤ a1_3) = false := decide_eq_false c91
                      clear c91
                      by_cases c178 : x126009_33 = true
                      · subst c178
                        have H1 : (some (x126000_24, x126001_24, x126002_24, x126003_24, x126004_24, x126005_24, x126006_24, false, (ji90) + 1, true, true)) = some (r1, r2, r3, r4, r5, r6, r7, r8, r9, r10, r11) := by rw [if_pos rfl] at H; exact H
                        clear H
                        have H := H1
                        clear H1
                        simp only [Option.some.injEq, Prod.mk.injEq] at H
                        obtain ⟨rfl, rfl, rfl, rfl, rfl, rfl, rfl, rfl, rfl, rfl, rfl⟩ := H
                        have hnb179 := NB125_126.out
                        have hnc179 := NB126_125.out
                        have hnb180 := NB125_127.out
                        have hnc180 := NB127_125.out
                        have hnb181 := NB125_128.out
                        have hnc181 := NB128_125.out
                        have hcz182_0 : wc.cell? ⟨gb125, 0, none⟩ = some (.bool x126000_24) := (blk_cell BK125.out 0).trans rfl
                        have hcz182_1 : wc.cell? ⟨gb125, 1, none⟩ = some (.int .i64 x126001_24) := (blk_cell BK125.out 1).trans rfl
                        have hcz182_2 : wc.cell? ⟨gb125, 2, none⟩ = some (.int .i64 x126002_24) := (blk_cell BK125.out 2).trans rfl
                        have hcz182_3 : wc.cell? ⟨gb125, 3, none⟩ = some (.bool x126003_24) := (blk_cell BK125.out 3).trans rfl
                        have hcz182_4 : wc.cell? ⟨gb125, 4, none⟩ = some (.int .i64 x126004_24) := (blk_cell BK125.out 4).trans rfl
                        have hcz182_5 : wc.cell? ⟨gb125, 5, none⟩ = some (.int .i64 x126005_24) := (blk_cell BK125.out 5).trans rfl
                        have hcz182_6 : wc.cell? ⟨gb125, 6, none⟩ = some (.bool x126006_24) := (blk_cell BK125.out 6).trans rfl
                        have hcz182_7 : wc.cell? ⟨gb125, 7, none⟩ = some (.bool false) := (blk_cell BK125.out 7).trans rfl
                        have hcz182_8 : wc.cell? ⟨gb125, 8, none⟩ = some (.int .i64 x126008_24) := (blk_cell BK125.out 8).trans rfl
                        have hcz182_9 : wc.cell? ⟨gb125, 9, none⟩ = some (.bool true) := (blk_cell BK125.out 9).trans rfl
                        have hcz182_10 : wc.cell? ⟨gb125, 10, none⟩ = some (.bool x126010_24) := (blk_cell BK125.out 10).trans rfl
                        have hfz182_0 := blk_frozen BK125.out 0
                        have hfz182_1 := blk_frozen BK125.out 1
                        have hfz182_2 := blk_frozen BK125.out 2
                        have hfz182_3 := blk_frozen BK125.out 3
                        have hfz182_4 := blk_frozen BK125.out 4
                        have hfz182_5 := blk_frozen BK125.out 5
                        have hfz182_6 := blk_frozen BK125.out 6
                        have hfz182_7 := blk_frozen BK125.out 7
                        have hfz182_8 := blk_frozen BK125.out 8
                        have hfz182_9 := blk_frozen BK125.out 9
                        have hfz182_10 := blk_frozen BK125.out 10
                        have hnb183 := NB126_127.out
                        have hnc183 := NB127_126.out
                        have hnb184 := NB126_128.out
                        have hnc184 := NB128_126.out
                        have hcz185_0 : wc.cell? ⟨gb126, 0, none⟩ = some (.bool a1_0) := (blk_cell BK126.out 0).trans rfl
                        have hcz185_1 : wc.cell? ⟨gb126, 1, none⟩ = some (.int .i64 a1_1) := (blk_cell BK126.out 1).trans rfl
                        have hcz185_2 : wc.cell? ⟨gb126, 2, none⟩ = some (.int .i64 a1_2) := (blk_cell BK126.out 2).trans rfl
                        have hcz185_3 : wc.cell? ⟨gb126, 3, none⟩ = some (.int .i64 a1_3) := (blk_cell BK126.out 3).trans rfl
                        have hcz185_4 : wc.cell? ⟨gb126, 4, none⟩ = some (.int .i64 a1_4) := (blk_cell BK126.out 4).trans rfl
                        have hfz185_0 := blk_frozen BK126.out 0
                        have hfz185_1 := blk_frozen BK126.out 1
                        have hfz185_2 := blk_frozen BK126.out 2
                        have hfz185_3 := blk_frozen BK126.out 3
                        have hfz185_4 := blk_frozen BK126.out 4
                        have hnb186 := NB128_127.out
                        have hnc186 := NB127_128.out
                        have hcz187_0 : wc.cell? ⟨gb128, 0, none⟩ = some (.bool false) := (blk_cell BK128.out 0).trans rfl
                        have hcz187_1 : wc.cell? ⟨gb128, 1, none⟩ = some (.int .i64 0) := (blk_cell BK128.out 1).trans rfl
                        have hcz187_2 : wc.cell? ⟨gb128, 2, none⟩ = some (.int .i64 0) := (blk_cell BK128.out 2).trans rfl
                        have hcz187_3 : wc.cell? ⟨gb128, 3, none⟩ = some (.bool false) := (blk_cell BK128.out 3).trans rfl
                        have hcz187_4 : wc.cell? ⟨gb128, 4, none⟩ = some (.int .i64 0) := (blk_cell BK128.out 4).trans rfl
                        have hcz187_5 : wc.cell? ⟨gb128, 5, none⟩ = some (.int .i64 0) := (blk_cell BK128.out 5).trans rfl
                        have hcz187_6 : wc.cell? ⟨gb128, 6, none⟩ = some (.bool false) := (blk_cell BK128.out 6).trans rfl
                        have hcz187_7 : wc.cell? ⟨gb128, 7, none⟩ = some (.bool false) := (blk_cell BK128.out 7).trans rfl
                        have hcz187_8 : wc.cell? ⟨gb128, 8, none⟩ = some (.int .i64 0) := (blk_cell BK128.out 8).trans rfl
                        have hcz187_9 : wc.cell? ⟨gb128, 9, none⟩ = some (.bool false) := (blk_cell BK128.out 9).trans rfl
                        have hcz187_10 : wc.cell? ⟨gb128, 10, none⟩ = some (.bool false) := (blk_cell BK128.out 10).trans rfl
                        have hfz187_0 := blk_frozen BK128.out 0
                        have hfz187_1 := blk_frozen BK128.out 1
                        have hfz187_2 := blk_frozen BK128.out 2
                        have hfz187_3 := blk_frozen BK128.out 3
                        have hfz187_4 := blk_frozen BK128.out 4
                        have hfz187_5 := blk_frozen BK128.out 5
                        have hfz187_6 := blk_frozen BK128.out 6
                        have hfz187_7 := blk_frozen BK128.out 7
                        have hfz187_8 := blk_frozen BK128.out 8
                        have hfz187_9 := blk_frozen BK128.out 9
                        have hfz187_10 := blk_frozen BK128.out 10
                        go_wp2
                        refine bodyPost_ret (results_cell_row rfl _ _ gb128 31 #[.bool x126000_24, .int .i64 x126001_24, .int .i64 x126002_24, .bool x126003_24, .int .i64 x126004_24, .int .i64 x126005_24, .bool x126006_24, .bool false, .int .i64 ((ji90) + 1), .bool true, .bool true] (0, 0) _ rfl (by (with_reducible repeat (first | refine blk_drewN ?_ _ | refine blk_drew ?_ | refine blk_alloc ?_ _)); refine blk_put (cs := #[.bool x126000_24, .int .i64 x126001_24, .int .i64 x126002_24, .bool x126003_24, .int .i64 x126004_24, .int .i64 x126005_24, .bool x126006_24, .bool false, .int .i64 ((ji90) + 1), .bool true, .bool false]) ?_ 10 _ rfl; (with_reducible repeat (first | refine blk_drewN ?_ _ | refine blk_drew ?_ | refine blk_alloc ?_ _)); refine blk_put (cs := #[.bool x126000_24, .int .i64 x126001_24, .int .i64 x126002_24, .bool x126003_24, .int .i64 x126004_24, .int .i64 x126005_24, .bool x126006_24, .bool false, .int .i64 ((ji90) + 1), .bool false, .bool false]) ?_ 9 _ rfl; (with_reducible repeat (first | refine blk_drewN ?_ _ | refine blk_drew ?_ | refine blk_alloc ?_ _)); refine blk_put (cs := #[.bool x126000_24, .int .i64 x126001_24, .int .i64 x126002_24, .bool x126003_24, .int .i64 x126004_24, .int .i64 x126005_24, .bool x126006_24, .bool false, .int .i64 0, .bool false, .bool false]) ?_ 8 _ rfl; (with_reducible repeat (first | refine blk_drewN ?_ _ | refine blk_drew ?_ | refine blk_alloc ?_ _)); refine blk_put (cs := #[.bool x126000_24, .int .i64 x126001_24, .int .i64 x126002_24, .bool x126003_24, .int .i64 x126004_24, .int .i64 x126005_24, .bool x126006_24, .bool false, .int .i64 0, .bool false, .bool false]) ?_ 7 _ rfl; (with_reducible repeat (first | refine blk_drewN ?_ _ | refine blk_drew ?_ | refine blk_alloc ?_ _)); refine blk_put (cs := #[.bool x126000_24, .int .i64 x126001_24, .int .i64 x126002_24, .bool x126003_24, .int .i64 x126004_24, .int .i64 x126005_24, .bool false, .bool false, .int .i64 0, .bool false, .bool false]) ?_ 6 _ rfl; (with_reducible repeat (first | refine blk_drewN ?_ _ | refine blk_drew ?_ | refine blk_alloc ?_ _)); refine blk_put (cs := #[.bool x126000_24, .int .i64 x126001_24, .int .i64 x126002_24, .bool x126003_24, .int .i64 x126004_24, .int .i64 0, .bool false, .bool false, .int .i64 0, .bool false, .bool false]) ?_ 5 _ rfl; (with_reducible repeat (first | refine blk_drewN ?_ _ | refine blk_drew ?_ | refine blk_alloc ?_ _)); refine blk_put (cs := #[.bool x126000_24, .int .i64 x126001_24, .int .i64 x126002_24, .bool x126003_24, .int .i64 0, .int .i64 0, .bool false, .bool false, .int .i64 0, .bool false, .bool false]) ?_ 4 _ rfl; (with_reducible repeat (first | refine blk_drewN ?_ _ | refine blk_drew ?_ | refine blk_alloc ?_ _)); refine blk_put (cs := #[.bool x126000_24, .int .i64 x126001_24, .int .i64 x126002_24, .bool false, .int .i64 0, .int .i64 0, .bool false, .bool false, .int .i64 0, .bool false, .bool false]) ?_ 3 _ rfl; (with_reducible repeat (first | refine blk_drewN ?_ _ | refine blk_drew ?_ | refine blk_alloc ?_ _)); refine blk_put (cs := #[.bool x126000_24, .int .i64 x126001_24, .int .i64 0, .bool false, .int .i64 0, .int .i64 0, .bool false, .bool false, .int .i64 0, .bool false, .bool false]) ?_ 2 _ rfl; (with_reducible repeat (first | refine blk_drewN ?_ _ | refine blk_drew ?_ | refine blk_alloc ?_ _)); refine blk_put (cs := #[.bool x126000_24, .int .i64 0, .int .i64 0, .bool false, .int .i64 0, .int .i64 0, .bool false, .bool false, .int .i64 0, .bool false, .bool false]) ?_ 1 _ rfl; (with_reducible repeat (first | refine blk_drewN ?_ _ | refine blk_drew ?_ | refine blk_alloc ?_ _)); refine blk_put (cs := #[.bool false, .int .i64 0, .int .i64 0, .bool false, .int .i64 0, .int .i64 0, .bool false, .bool false, .int .i64 0, .bool false, .bool false]) ?_ 0 _ rfl; (with_reducible repeat (first | refine blk_drewN ?_ _ | refine blk_drew ?_ | refine blk_alloc ?_ _)); refine blk_far ?_ NB128_125.out _; (with_reducible repeat (first | refine blk_drewN ?_ _ | refine blk_drew ?_ | refine blk_alloc ?_ _)); refine blk_far ?_ NB128_125.out _; (with_reducible repeat (first | refine blk_drewN ?_ _ | refine blk_drew ?_ | refine blk_alloc ?_ _)); exact BK128.out) Try.underlying31 rfl (by kernel_rfl)) rfl ?_
                        exact ⟨by first | rfl | (simp [errW_none, errW_some] <;> rfl) | (simp only [← hji89, ← hji90]; first | rfl | (simp [errW_none, errW_some] <;> rfl)) | (simp [*, errW_none, errW_some] <;> rfl), by repeat (first | (with_reducible first | exact HB.out | apply below_alloc | apply pw_below_drewN | apply below_drew1 | refine below_set ?_ GE125.out | refine below_set ?_ GE126.out | refine below_set ?_ GE127.out | refine below_set ?_ GE128.out) | exact HB.out)⟩
                      · replace c178 := Bool.eq_false_iff.mpr c178
                        subst c178
                        have H1 : (some (x126000_24, x126001_24, x126002_24, x126003_24, x126004_24, x126005_24, x126006_24, false, (ji90) + 1, false, decide (((ji90) + 1) > 0))) = some (r1, r2, r3, r4, r5, r6, r7, r8, r9, r10, r11) := by rw [if_neg (show ¬ (false = true) by decide)] at H; exact H
                        clear H
                        have H := H1
                        clear H1
                        simp only [Option.some.injEq, Prod.mk.injEq] at H
                        obtain ⟨rfl, rfl, rfl, rfl, rfl, rfl, rfl, rfl, rfl, rfl, rfl⟩ := H
                        have hnb188 := NB125_126.out
                        have hnc188 := NB126_125.out
                        have hnb189 := NB125_127.out
                        have hnc189 := NB127_125.out
                        have hnb190 := NB125_128.out
                        have hnc190 := NB128_125.out
                        have hcz191_0 : wc.cell? ⟨gb125, 0, none⟩ = some (.bool x126000_24) := (blk_cell BK125.out 0).trans rfl
                        have hcz191_1 : wc.cell? ⟨gb125, 1, none⟩ = some (.int .i64 x126001_24) := (blk_cell BK125.out 1).trans rfl
                        have hcz191_2 : wc.cell? ⟨gb125, 2, none⟩ = some (.int .i64 x126002_24) := (blk_cell BK125.out 2).trans rfl
                        have hcz191_3 : wc.cell? ⟨gb125, 3, none⟩ = some (.bool x126003_24) := (blk_cell BK125.out 3).trans rfl
                        have hcz191_4 : wc.cell? ⟨gb125, 4, none⟩ = some (.int .i64 x126004_24) := (blk_cell BK125.out 4).trans rfl
                        have hcz191_5 : wc.cell? ⟨gb125, 5, none⟩ = some (.int .i64 x126005_24) := (blk_cell BK125.out 5).trans rfl
                        have hcz191_6 : wc.cell? ⟨gb125, 6, none⟩ = some (.bool x126006_24) := (blk_cell BK125.out 6).trans rfl
                        have hcz191_7 : wc.cell? ⟨gb125, 7, none⟩ = some (.bool false) := (blk_cell BK125.out 7).trans rfl
                        have hcz191_8 : wc.cell? ⟨gb125, 8, none⟩ = some (.int .i64 x126008_24) := (blk_cell BK125.out 8).trans rfl
                        have hcz191_9 : wc.cell? ⟨gb125, 9, none⟩ = some (.bool false) := (blk_cell BK125.out 9).trans rfl
                        have hcz191_10 : wc.cell? ⟨gb125, 10, none⟩ = some (.bool x126010_24) := (blk_cell BK125.out 10).trans rfl
                        have hfz191_0 := blk_frozen BK125.out 0
                        have hfz191_1 := blk_frozen BK125.out 1
                        have hfz191_2 := blk_frozen BK125.out 2
                        have hfz191_3 := blk_frozen BK125.out 3
                        have hfz191_4 := blk_frozen BK125.out 4
                        have hfz191_5 := blk_frozen BK125.out 5
                        have hfz191_6 := blk_frozen BK125.out 6
                        have hfz191_7 := blk_frozen BK125.out 7
                        have hfz191_8 := blk_frozen BK125.out 8
                        have hfz191_9 := blk_frozen BK125.out 9
                        have hfz191_10 := blk_frozen BK125.out 10
                        have hnb192 := NB126_127.out
                        have hnc192 := NB127_126.out
                        have hnb193 := NB126_128.out
                        have hnc193 := NB128_126.out
                        have hcz194_0 : wc.cell? ⟨gb126, 0, none⟩ = some (.bool a1_0) := (blk_cell BK126.out 0).trans rfl
                        have hcz194_1 : wc.cell? ⟨gb126, 1, none⟩ = some (.int .i64 a1_1) := (blk_cell BK126.out 1).trans rfl
                        have hcz194_2 : wc.cell? ⟨gb126, 2, none⟩ = some (.int .i64 a1_2) := (blk_cell BK126.out 2).trans rfl
                        have hcz194_3 : wc.cell? ⟨gb126, 3, none⟩ = some (.int .i64 a1_3) := (blk_cell BK126.out 3).trans rfl
                        have hcz194_4 : wc.cell? ⟨gb126, 4, none⟩ = some (.int .i64 a1_4) := (blk_cell BK126.out 4).trans rfl
                        have hfz194_0 := blk_frozen BK126.out 0
                        have hfz194_1 := blk_frozen BK126.out 1
                        have hfz194_2 := blk_frozen BK126.out 2
                        have hfz194_3 := blk_frozen BK126.out 3
                        have hfz194_4 := blk_frozen BK126.out 4
                        have hnb195 := NB128_127.out
                        have hnc195 := NB127_128.out
                        have hcz196_0 : wc.cell? ⟨gb128, 0, none⟩ = some (.bool false) := (blk_cell BK128.out 0).trans rfl
                        have hcz196_1 : wc.cell? ⟨gb128, 1, none⟩ = some (.int .i64 0) := (blk_cell BK128.out 1).trans rfl
                        have hcz196_2 : wc.cell? ⟨gb128, 2, none⟩ = some (.int .i64 0) := (blk_cell BK128.out 2).trans rfl
                        have hcz196_3 : wc.cell? ⟨gb128, 3, none⟩ = some (.bool false) := (blk_cell BK128.out 3).trans rfl
                        have hcz196_4 : wc.cell? ⟨gb128, 4, none⟩ = some (.int .i64 0) := (blk_cell BK128.out 4).trans rfl
                        have hcz196_5 : wc.cell? ⟨gb128, 5, none⟩ = some (.int .i64 0) := (blk_cell BK128.out 5).trans rfl
                        have hcz196_6 : wc.cell? ⟨gb128, 6, none⟩ = some (.bool false) := (blk_cell BK128.out 6).trans rfl
                        have hcz196_7 : wc.cell? ⟨gb128, 7, none⟩ = some (.bool false) := (blk_cell BK128.out 7).trans rfl
                        have hcz196_8 : wc.cell? ⟨gb128, 8, none⟩ = some (.int .i64 0) := (blk_cell BK128.out 8).trans rfl
                        have hcz196_9 : wc.cell? ⟨gb128, 9, none⟩ = some (.bool false) := (blk_cell BK128.out 9).trans rfl
                        have hcz196_10 : wc.cell? ⟨gb128, 10, none⟩ = some (.bool false) := (blk_cell BK128.out 10).trans rfl
                        have hfz196_0 := blk_frozen BK128.out 0
                        have hfz196_1 := blk_frozen BK128.out 1
                        have hfz196_2 := blk_frozen BK128.out 2
                        have hfz196_3 := blk_frozen BK128.out 3
                        have hfz196_4 := blk_frozen BK128.out 4
                        have hfz196_5 := blk_frozen BK128.out 5
                        have hfz196_6 := blk_frozen BK128.out 6
                        have hfz196_7 := blk_frozen BK128.out 7
                        have hfz196_8 := blk_frozen BK128.out 8
                        have hfz196_9 := blk_frozen BK128.out 9
                        have hfz196_10 := blk_frozen BK128.out 10
                        go_wp2
                        refine bodyPost_ret (results_cell_row rfl _ _ gb128 31 #[.bool x126000_24, .int .i64 x126001_24, .int .i64 x126002_24, .bool x126003_24, .int .i64 x126004_24, .int .i64 x126005_24, .bool x126006_24, .bool false, .int .i64 ((ji90) + 1), .bool false, .bool (decide (((ji90) + 1) > 0))] (0, 0) _ rfl (by (with_reducible repeat (first | refine blk_drewN ?_ _ | refine blk_drew ?_ | refine blk_alloc ?_ _)); refine blk_put (cs := #[.bool x126000_24, .int .i64 x126001_24, .int .i64 x126002_24, .bool x126003_24, .int .i64 x126004_24, .int .i64 x126005_24, .bool x126006_24, .bool false, .int .i64 ((ji90) + 1), .bool false, .bool false]) ?_ 10 _ rfl; (with_reducible repeat (first | refine blk_drewN ?_ _ | refine blk_drew ?_ | refine blk_alloc ?_ _)); refine blk_put (cs := #[.bool x126000_24, .int .i64 x126001_24, .int .i64 x126002_24, .bool x126003_24, .int .i64 x126004_24, .int .i64 x126005_24, .bool x126006_24, .bool false, .int .i64 ((ji90) + 1), .bool false, .bool false]) ?_ 9 _ rfl; (with_reducible repeat (first | refine blk_drewN ?_ _ | refine blk_drew ?_ | refine blk_alloc ?_ _)); refine blk_put (cs := #[.bool x126000_24, .int .i64 x126001_24, .int .i64 x126002_24, .bool x126003_24, .int .i64 x126004_24, .int .i64 x126005_24, .bool x126006_24, .bool false, .int .i64 0, .bool false, .bool false]) ?_ 8 _ rfl; (with_reducible repeat (first | refine blk_drewN ?_ _ | refine blk_drew ?_ | refine blk_alloc ?_ _)); refine blk_put (cs := #[.bool x126000_24, .int .i64 x126001_24, .int .i64 x126002_24, .bool x126003_24, .int .i64 x126004_24, .int .i64 x126005_24, .bool x126006_24, .bool false, .int .i64 0, .bool false, .bool false]) ?_ 7 _ rfl; (with_reducible repeat (first | refine blk_drewN ?_ _ | refine blk_drew ?_ | refine blk_alloc ?_ _)); refine blk_put (cs := #[.bool x126000_24, .int .i64 x126001_24, .int .i64 x126002_24, .bool x126003_24, .int .i64 x126004_24, .int .i64 x126005_24, .bool false, .bool false, .int .i64 0, .bool false, .bool false]) ?_ 6 _ rfl; (with_reducible repeat (first | refine blk_drewN ?_ _ | refine blk_drew ?_ | refine blk_alloc ?_ _)); refine blk_put (cs := #[.bool x126000_24, .int .i64 x126001_24, .int .i64 x126002_24, .bool x126003_24, .int .i64 x126004_24, .int .i64 0, .bool false, .bool false, .int .i64 0, .bool false, .bool false]) ?_ 5 _ rfl; (with_reducible repeat (first | refine blk_drewN ?_ _ | refine blk_drew ?_ | refine blk_alloc ?_ _)); refine blk_put (cs := #[.bool x126000_24, .int .i64 x126001_24, .int .i64 x126002_24, .bool x126003_24, .int .i64 0, .int .i64 0, .bool false, .bool false, .int .i64 0, .bool false, .bool false]) ?_ 4 _ rfl; (with_reducible repeat (first | refine blk_drewN ?_ _ | refine blk_drew ?_ | refine blk_alloc ?_ _)); refine blk_put (cs := #[.bool x126000_24, .int .i64 x126001_24, .int .i64 x126002_24, .bool false, .int .i64 0, .int .i64 0, .bool false, .bool false, .int .i64 0, .bool false, .bool false]) ?_ 3 _ rfl; (with_reducible repeat (first | refine blk_drewN ?_ _ | refine blk_drew ?_ | refine blk_alloc ?_ _)); refine blk_put (cs := #[.bool x126000_24, .int .i64 x126001_24, .int .i64 0, .bool false, .int .i64 0, .int .i64 0, .bool false, .bool false, .int .i64 0, .bool false, .bool false]) ?_ 2 _ rfl; (with_reducible repeat (first | refine blk_drewN ?_ _ | refine blk_drew ?_ | refine blk_alloc ?_ _)); refine blk_put (cs := #[.bool x126000_24, .int .i64 0, .int .i64 0, .bool false, .int .i64 0, .int .i64 0, .bool false, .bool false, .int .i64 0, .bool false, .bool false]) ?_ 1 _ rfl; (with_reducible repeat (first | refine blk_drewN ?_ _ | refine blk_drew ?_ | refine blk_alloc ?_ _)); refine blk_put (cs := #[.bool false, .int .i64 0, .int .i64 0, .bool false, .int .i64 0, .int .i64 0, .bool false, .bool false, .int .i64 0, .bool false, .bool false]) ?_ 0 _ rfl; (with_reducible repeat (first | refine blk_drewN ?_ _ | refine blk_drew ?_ | refine blk_alloc ?_ _)); refine blk_far ?_ NB128_125.out _; (with_reducible repeat (first | refine blk_drewN ?_ _ | refine blk_drew ?_ | refine blk_alloc ?_ _)); refine blk_far ?_ NB128_125.out _; (with_reducible repeat (first | refine blk_drewN ?_ _ | refine blk_drew ?_ | refine blk_alloc ?_ _)); exact BK128.out) Try.underlying31 rfl (by kernel_rfl)) rfl ?_
                        exact ⟨by first | rfl | (simp [errW_none, errW_some] <;> rfl) | (simp only [← hji89, ← hji90]; first | rfl | (simp [errW_none, errW_some] <;> rfl)) | (simp [*, errW_none, errW_some] <;> rfl), by repeat (first | (with_reducible first | exact HB.out | apply below_alloc | apply pw_below_drewN | apply below_drew1 | refine below_set ?_ GE125.out | refine below_set ?_ GE126.out | refine below_set ?_ GE127.out | refine below_set ?_ GE128.out) | exact HB.out)⟩

end Go.Proofs.Ytnmcnailgdcmoaa.B
