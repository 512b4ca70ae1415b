/- Each function's own law: what the call answers, as a plain Lean function; a text that a program of this session wrote. -/
import Derived.Test.YtnmcnailgdcmoaaBx0
import Derived.Test.YtnmcnailgdcmoaaBx1
import Derived.Test.YtnmcnailgdcmoaaBx2
import Derived.Test.YtnmcnailgdcmoaaBx4
import Derived.Test.YtnmcnailgdcmoaaHandSmall12
namespace Go.Proofs.Ytnmcnailgdcmoaa.B
open Go.RowKit Go.Proofs.YtnmcnailgdcmoaaW.PrintWords Go.Proofs.YtnmcnailgdcmoaaW.PrintLast Go.Proofs.YtnmcnailgdcmoaaW.PrintMore
attribute [local go_sem] max2_int min2_int max_two min_two max_three min_three max_four min_four   -- for this text's walks alone
set_option linter.unusedVariables false
set_option linter.unusedSimpArgs false

attribute [local go_sem high] eqA27 eqA29
-- NOT PRINTED: function 5 (crossbucklaw12_TrackResets)

/-! ### crossbucklaw12_TrackStale: function 6 -/
mutual
def crossbucklaw12_TrackStale.j0 : Nat → Int → Bool → Bool → Bool → Int → Int → Bool → Int → Int → Bool → Bool → Int → Bool → Bool → Bool → Int → Int → Int → Int → Int → Int → Int → Option (Bool)
  | 0, _, _, _, _, _, _, _, _, _, _, _, _, _, _, _, _, _, _, _, _, _, _ => none
  | k + 1, x3, x9, x18, x256000, x256001, x256002, x256003, x256004, x256005, x256006, x256007, x256008, x256009, x256010, x257000, x257001, x257002, x257003, x257004, x258000, x258001, x258002 => if x18 = true then (some x9) else (crossbucklaw12_TrackStale.l0 k x3 x9 0 x256000 x256001 x256002 x256003 x256004 x256005 x256006 x256007 x256008 x256009 x256010 false x257001 x257002 x257003 x257004 x258000 x258001 x258002 x256000 x256001 x256002 x256003 x256004 x256005 x256006 x256007 x256008 x256009 x256010)
def crossbucklaw12_TrackStale.l0 : Nat → Int → Bool → Int → Bool → Int → Int → Bool → Int → Int → Bool → Bool → Int → Bool → Bool → Bool → Int → Int → Int → Int → Int → Int → Int → Bool → Int → Int → Bool → Int → Int → Bool → Bool → Int → Bool → Bool → Option (Bool)
  | 0, _, _, _, _, _, _, _, _, _, _, _, _, _, _, _, _, _, _, _, _, _, _, _, _, _, _, _, _, _, _, _, _, _ => none
  | k + 1, x3, x9, x11, x256000, x256001, x256002, x256003, x256004, x256005, x256006, x256007, x256008, x256009, x256010, x257000, x257001, x257002, x257003, x257004, x258000, x258001, x258002, x260000, x260001, x260002, x260003, x260004, x260005, x260006, x260007, x260008, x260009, x260010 => if x11 < x3 then ((track_Step.f k x260000 x260001 x260002 x260003 x260004 x260005 x260006 x260007 x260008 x260009 x260010 x257000 x257001 x257002 x257003 x257004 x258000 x258001 x258002 false).bind fun bt260 => (crossbucklaw12_TrackStale.l0 k x3 x9 (wrap64 (x11 + 1)) x256000 x256001 x256002 x256003 x256004 x256005 x256006 x256007 x256008 x256009 x256010 x257000 x257001 x257002 x257003 x257004 x258000 x258001 x258002 bt260.1 bt260.2.1 bt260.2.2.1 bt260.2.2.2.1 bt260.2.2.2.2.1 bt260.2.2.2.2.2.1 bt260.2.2.2.2.2.2.1 bt260.2.2.2.2.2.2.2.1 bt260.2.2.2.2.2.2.2.2.1 bt260.2.2.2.2.2.2.2.2.2.1 bt260.2.2.2.2.2.2.2.2.2.2)) else (if x9 = true then (if (x260000 == x256000 && (x260001 == x256001 && (x260002 == x256002 && (x260003 == x256003)))) = true then (if (x260004 == x256004 && (x260005 == x256005 && (x260006 == x256006))) = true then (if x260009 = true then (if x260010 = true then (if x260007 = true then (some false) else (some (decide (x260008 ≥ x3)))) else (some false)) else (some false)) else (some false)) else (some false)) else (some false))
end
def crossbucklaw12_TrackStale.f (k : Nat) (a0_0 : Bool) (a0_1 : Int) (a0_2 : Int) (a0_3 : Bool) (a0_4 : Int) (a0_5 : Int) (a0_6 : Bool) (a0_7 : Bool) (a0_8 : Int) (a0_9 : Bool) (a0_10 : Bool) (a1_0 : Bool) (a1_1 : Int) (a1_2 : Int) (a1_3 : Int) (a1_4 : Int) (a2_0 : Int) (a2_1 : Int) (a2_2 : Int) (a3 : Int) : Option (Bool) := (crossbucklaw12_small.f).bind fun t258 => (if a3 < 1 then (crossbucklaw12_TrackStale.j0 k a3 t258 true a0_0 a0_1 a0_2 a0_3 a0_4 a0_5 a0_6 a0_7 a0_8 a0_9 a0_10 a1_0 a1_1 a1_2 a1_3 a1_4 a2_0 a2_1 a2_2) else (crossbucklaw12_TrackStale.j0 k a3 t258 (decide (a3 > 200)) a0_0 a0_1 a0_2 a0_3 a0_4 a0_5 a0_6 a0_7 a0_8 a0_9 a0_10 a1_0 a1_1 a1_2 a1_3 a1_4 a2_0 a2_1 a2_2))
theorem crossbucklaw12_TrackStale.mono_l : ∀ k, (∀ y0 y1 y2 y3 y4 y5 y6 y7 y8 y9 y10 y11 y12 y13 y14 y15 y16 y17 y18 y19 y20 y21, LeO (crossbucklaw12_TrackStale.j0 k y0 y1 y2 y3 y4 y5 y6 y7 y8 y9 y10 y11 y12 y13 y14 y15 y16 y17 y18 y19 y20 y21) (crossbucklaw12_TrackStale.j0 (k + 1) y0 y1 y2 y3 y4 y5 y6 y7 y8 y9 y10 y11 y12 y13 y14 y15 y16 y17 y18 y19 y20 y21)) ∧ (∀ y0 y1 y2 y3 y4 y5 y6 y7 y8 y9 y10 y11 y12 y13 y14 y15 y16 y17 y18 y19 y20 y21 y22 y23 y24 y25 y26 y27 y28 y29 y30 y31 y32, LeO (crossbucklaw12_TrackStale.l0 k y0 y1 y2 y3 y4 y5 y6 y7 y8 y9 y10 y11 y12 y13 y14 y15 y16 y17 y18 y19 y20 y21 y22 y23 y24 y25 y26 y27 y28 y29 y30 y31 y32) (crossbucklaw12_TrackStale.l0 (k + 1) y0 y1 y2 y3 y4 y5 y6 y7 y8 y9 y10 y11 y12 y13 y14 y15 y16 y17 y18 y19 y20 y21 y22 y23 y24 y25 y26 y27 y28 y29 y30 y31 y32))
  | 0 => ⟨fun _ _ _ _ _ _ _ _ _ _ _ _ _ _ _ _ _ _ _ _ _ _ r h => by simp [crossbucklaw12_TrackStale.j0] at h, fun _ _ _ _ _ _ _ _ _ _ _ _ _ _ _ _ _ _ _ _ _ _ _ _ _ _ _ _ _ _ _ _ _ r h => by simp [crossbucklaw12_TrackStale.l0] at h⟩
  | k + 1 => by
    obtain ⟨ih0, ih1⟩ := crossbucklaw12_TrackStale.mono_l k
    refine ⟨?_, ?_⟩
    · intro y0 y1 y2 y3 y4 y5 y6 y7 y8 y9 y10 y11 y12 y13 y14 y15 y16 y17 y18 y19 y20 y21
      unfold crossbucklaw12_TrackStale.j0
      repeat' first
      | (with_reducible exact ih0 _ _ _ _ _ _ _ _ _ _ _ _ _ _ _ _ _ _ _ _ _ _)
      | (with_reducible exact ih1 _ _ _ _ _ _ _ _ _ _ _ _ _ _ _ _ _ _ _ _ _ _ _ _ _ _ _ _ _ _ _ _ _)
      | (with_reducible exact track_Step.mono _ _ _ _ _ _ _ _ _ _ _ _ _ _ _ _ _ _ _ _ _)
      | (with_reducible exact LeO.refl _)
      | (with_reducible exact LeO.none _)
      | (with_reducible refine LeO.ite ?_ ?_)
      | (with_reducible refine LeO.bind ?_ (fun _ => ?_))
      | exact ih0 _ _ _ _ _ _ _ _ _ _ _ _ _ _ _ _ _ _ _ _ _ _
      | exact ih1 _ _ _ _ _ _ _ _ _ _ _ _ _ _ _ _ _ _ _ _ _ _ _ _ _ _ _ _ _ _ _ _ _
      | exact track_Step.mono _ _ _ _ _ _ _ _ _ _ _ _ _ _ _ _ _ _ _ _ _
      | exact LeO.none _
      | refine LeO.ite ?_ ?_
      | refine LeO.bind ?_ (fun _ => ?_)
    · intro y0 y1 y2 y3 y4 y5 y6 y7 y8 y9 y10 y11 y12 y13 y14 y15 y16 y17 y18 y19 y20 y21 y22 y23 y24 y25 y26 y27 y28 y29 y30 y31 y32
      unfold crossbucklaw12_TrackStale.l0
      repeat' first
      | (with_reducible exact ih0 _ _ _ _ _ _ _ _ _ _ _ _ _ _ _ _ _ _ _ _ _ _)
      | (with_reducible exact ih1 _ _ _ _ _ _ _ _ _ _ _ _ _ _ _ _ _ _ _ _ _ _ _ _ _ _ _ _ _ _ _ _ _)
      | (with_reducible exact track_Step.mono _ _ _ _ _ _ _ _ _ _ _ _ _ _ _ _ _ _ _ _ _)
      | (with_reducible exact LeO.refl _)
      | (with_reducible exact LeO.none _)
      | (with_reducible refine LeO.ite ?_ ?_)
      | (with_reducible refine LeO.bind ?_ (fun _ => ?_))
      | exact ih0 _ _ _ _ _ _ _ _ _ _ _ _ _ _ _ _ _ _ _ _ _ _
      | exact ih1 _ _ _ _ _ _ _ _ _ _ _ _ _ _ _ _ _ _ _ _ _ _ _ _ _ _ _ _ _ _ _ _ _
      | exact track_Step.mono _ _ _ _ _ _ _ _ _ _ _ _ _ _ _ _ _ _ _ _ _
      | exact LeO.none _
      | refine LeO.ite ?_ ?_
      | refine LeO.bind ?_ (fun _ => ?_)
theorem crossbucklaw12_TrackStale.mono : ∀ a0 a1 a2 a3 a4 a5 a6 a7 a8 a9 a10 a11 a12 a13 a14 a15 a16 a17 a18 a19 k, LeO (crossbucklaw12_TrackStale.f k a0 a1 a2 a3 a4 a5 a6 a7 a8 a9 a10 a11 a12 a13 a14 a15 a16 a17 a18 a19) (crossbucklaw12_TrackStale.f (k + 1) a0 a1 a2 a3 a4 a5 a6 a7 a8 a9 a10 a11 a12 a13 a14 a15 a16 a17 a18 a19) := by
  intro a0 a1 a2 a3 a4 a5 a6 a7 a8 a9 a10 a11 a12 a13 a14 a15 a16 a17 a18 a19 k
  obtain ⟨ih0, ih1⟩ := crossbucklaw12_TrackStale.mono_l k
  unfold crossbucklaw12_TrackStale.f
  repeat' first
      | (with_reducible exact ih0 _ _ _ _ _ _ _ _ _ _ _ _ _ _ _ _ _ _ _ _ _ _)
      | (with_reducible exact ih1 _ _ _ _ _ _ _ _ _ _ _ _ _ _ _ _ _ _ _ _ _ _ _ _ _ _ _ _ _ _ _ _ _)
      | (with_reducible exact track_Step.mono _ _ _ _ _ _ _ _ _ _ _ _ _ _ _ _ _ _ _ _ _)
      | (with_reducible exact LeO.refl _)
      | (with_reducible exact LeO.none _)
      | (with_reducible refine LeO.ite ?_ ?_)
      | (with_reducible refine LeO.bind ?_ (fun _ => ?_))
      | exact ih0 _ _ _ _ _ _ _ _ _ _ _ _ _ _ _ _ _ _ _ _ _ _
      | exact ih1 _ _ _ _ _ _ _ _ _ _ _ _ _ _ _ _ _ _ _ _ _ _ _ _ _ _ _ _ _ _ _ _ _
      | exact track_Step.mono _ _ _ _ _ _ _ _ _ _ _ _ _ _ _ _ _ _ _ _ _
      | exact LeO.none _
      | refine LeO.ite ?_ ?_
      | refine LeO.bind ?_ (fun _ => ?_)
set_option maxHeartbeats 8000000 in
set_option maxRecDepth 100000 in
theorem crossbucklaw12_TrackStale.calls (k : Nat) (a0_0 : Bool) (a0_1 : Int) (a0_2 : Int) (a0_3 : Bool) (a0_4 : Int) (a0_5 : Int) (a0_6 : Bool) (a0_7 : Bool) (a0_8 : Int) (a0_9 : Bool) (a0_10 : Bool) (a1_0 : Bool) (a1_1 : Int) (a1_2 : Int) (a1_3 : Int) (a1_4 : Int) (a2_0 : Int) (a2_1 : Int) (a2_2 : Int) (a3 : Int) (r : Bool) (w : World) (h : crossbucklaw12_TrackStale.f k a0_0 a0_1 a0_2 a0_3 a0_4 a0_5 a0_6 a0_7 a0_8 a0_9 a0_10 a1_0 a1_1 a1_2 a1_3 a1_4 a2_0 a2_1 a2_2 a3 = some r) :
    Calls Try.prog 6 #[.agg #[.bool a0_0, .int .i64 a0_1, .int .i64 a0_2, .bool a0_3, .int .i64 a0_4, .int .i64 a0_5, .bool a0_6, .bool a0_7, .int .i64 a0_8, .bool a0_9, .bool a0_10], .agg #[.bool a1_0, .int .i64 a1_1, .int .i64 a1_2, .int .i64 a1_3, .int .i64 a1_4], .agg #[.int .i64 a2_0, .int .i64 a2_1, .int .i64 a2_2], .int .i64 a3] w fun e w' => e = .returned (.bool r) ∧ Below w.heap.size w w' := by
  have hu31 := Try.underlying31
  have hu34 := Try.underlying34
  have hu23 := Try.underlying23
  have hu27 := Try.underlying27
  have hu29 := Try.underlying29
  have HB := Aside0.mk (Below.refl w.heap.size w)
  have H : ((crossbucklaw12_small.f).bind fun t258 => (if a3 < 1 then (crossbucklaw12_TrackStale.j0 k a3 t258 true a0_0 a0_1 a0_2 a0_3 a0_4 a0_5 a0_6 a0_7 a0_8 a0_9 a0_10 a1_0 a1_1 a1_2 a1_3 a1_4 a2_0 a2_1 a2_2) else (crossbucklaw12_TrackStale.j0 k a3 t258 (decide (a3 > 200)) a0_0 a0_1 a0_2 a0_3 a0_4 a0_5 a0_6 a0_7 a0_8 a0_9 a0_10 a1_0 a1_1 a1_2 a1_3 a1_4 a2_0 a2_1 a2_2))) = some r := h
  clear h
  replace H := Option.bind_eq_some_iff.mp H
  obtain ⟨t258, A50, H⟩ := H
  replace H : (if a3 < 1 then (crossbucklaw12_TrackStale.j0 k a3 t258 true a0_0 a0_1 a0_2 a0_3 a0_4 a0_5 a0_6 a0_7 a0_8 a0_9 a0_10 a1_0 a1_1 a1_2 a1_3 a1_4 a2_0 a2_1 a2_2) else (crossbucklaw12_TrackStale.j0 k a3 t258 (decide (a3 > 200)) a0_0 a0_1 a0_2 a0_3 a0_4 a0_5 a0_6 a0_7 a0_8 a0_9 a0_10 a1_0 a1_1 a1_2 a1_3 a1_4 a2_0 a2_1 a2_2)) = some r := H
  have A5 := Aside0.mk A50
  clear A50
  have HC6 := Aside0.mk H
  clear H
  go_enter Try.func6, Try.ntmps6
  go_upto_region 2 with (first | ((with_reducible refine gate_dst (N := 4) rfl ?_); refine box_event ?hg (N := 4) ?hd (cs := #[.bool a0_0, .int .i64 a0_1, .int .i64 a0_2, .bool a0_3, .int .i64 a0_4, .int .i64 a0_5, .bool a0_6, .bool a0_7, .int .i64 a0_8, .bool a0_9, .bool a0_10]) (t := 31) ?hr ?_; (case hd => rfl); (case hg => rfl); (case hr => first | (go_simp; done) | (go_simp; rfl)); intro gb255 hg w7 hbox hb; have n0_ := Aside0.mk (below_step (by repeat (first | (with_reducible first | exact HB.out | apply below_alloc | apply pw_below_drewN | apply below_drew1) | exact HB.out)) hb); have n1_ := Aside0.mk (hbox); have n2_ := Aside0.mk ((by rw [hg]; exact (below_size (by repeat (first | (with_reducible first | exact HB.out | apply below_alloc | apply pw_below_drewN | apply below_drew1) | exact HB.out))) : w.heap.size ≤ gb255)); have n3_ := Aside0.mk ((by rw [hg]; exact (below_size (by repeat (first | (with_reducible first | exact HB.out | apply below_alloc | apply pw_below_drewN | apply below_drew1) | exact HB.out))) : w.heap.size ≤ gb255)); clear HB; have HB := n0_; have BK255 := n1_; have GW255 := n2_; have GE255 := n3_; clear n0_ n1_ n2_ n3_; clear hb hbox hg) | ((with_reducible refine gate_dst (N := 5) rfl ?_); refine box_event ?hg (N := 5) ?hd (cs := #[.bool a1_0, .int .i64 a1_1, .int .i64 a1_2, .int .i64 a1_3, .int .i64 a1_4]) (t := 34) ?hr ?_; (case hd => rfl); (case hg => rfl); (case hr => first | (go_simp; done) | (go_simp; rfl)); intro gb256 hg w8 hbox hb; have n0_ := Aside0.mk (blk_below (g := gb255) (o := .cells #[.bool a0_0, .int .i64 a0_1, .int .i64 a0_2, .bool a0_3, .int .i64 a0_4, .int .i64 a0_5, .bool a0_6, .bool a0_7, .int .i64 a0_8, .bool a0_9, .bool a0_10] 31 (0, 0)) (by (with_reducible repeat (first | refine blk_drewN ?_ _ | refine blk_drew ?_ | refine blk_alloc ?_ _)); exact BK255.out) hb); have n1_ := Aside0.mk (below_step (by repeat (first | (with_reducible first | exact HB.out | apply below_alloc | apply pw_below_drewN | apply below_drew1 | refine below_set ?_ GE255.out) | exact HB.out)) hb); have n2_ := Aside0.mk (hbox); have n3_ := Aside0.mk ((by rw [hg]; exact (below_size (by repeat (first | (with_reducible first | exact HB.out | apply below_alloc | apply pw_below_drewN | apply below_drew1 | refine below_set ?_ GE255.out) | exact HB.out))) : w.heap.size ≤ gb256)); have n4_ := Aside0.mk ((by rw [hg]; exact (below_size (by repeat (first | (with_reducible first | exact HB.out | apply below_alloc | apply pw_below_drewN | apply below_drew1 | refine below_set ?_ GE255.out) | exact HB.out))) : w.heap.size ≤ gb256)); have n5_ := Aside0.mk ((by rw [hg]; exact Nat.ne_of_lt (blk_lt (g := gb255) (o := .cells #[.bool a0_0, .int .i64 a0_1, .int .i64 a0_2, .bool a0_3, .int .i64 a0_4, .int .i64 a0_5, .bool a0_6, .bool a0_7, .int .i64 a0_8, .bool a0_9, .bool a0_10] 31 (0, 0)) (by (with_reducible repeat (first | refine blk_drewN ?_ _ | refine blk_drew ?_ | refine blk_alloc ?_ _)); exact BK255.out)) : gb255 ≠ gb256)); have n6_ := Aside0.mk ((by rw [hg]; exact Nat.ne_of_gt (blk_lt (g := gb255) (o := .cells #[.bool a0_0, .int .i64 a0_1, .int .i64 a0_2, .bool a0_3, .int .i64 a0_4, .int .i64 a0_5, .bool a0_6, .bool a0_7, .int .i64 a0_8, .bool a0_9, .bool a0_10] 31 (0, 0)) (by (with_reducible repeat (first | refine blk_drewN ?_ _ | refine blk_drew ?_ | refine blk_alloc ?_ _)); exact BK255.out)) : gb256 ≠ gb255)); clear BK255; clear HB; have BK255 := n0_; have HB := n1_; have BK256 := n2_; have GW256 := n3_; have GE256 := n4_; have NB255_256 := n5_; have NB256_255 := n6_; clear n0_ n1_ n2_ n3_ n4_ n5_ n6_; clear hb hbox hg) | ((with_reducible refine gate_dst (N := 6) rfl ?_); refine box_event ?hg (N := 6) ?hd (cs := #[.int .i64 a2_0, .int .i64 a2_1, .int .i64 a2_2]) (t := 23) ?hr ?_; (case hd => rfl); (case hg => rfl); (case hr => first | (go_simp; done) | (go_simp; rfl)); intro gb257 hg w9 hbox hb; have n0_ := Aside0.mk (blk_below (g := gb255) (o := .cells #[.bool a0_0, .int .i64 a0_1, .int .i64 a0_2, .bool a0_3, .int .i64 a0_4, .int .i64 a0_5, .bool a0_6, .bool a0_7, .int .i64 a0_8, .bool a0_9, .bool a0_10] 31 (0, 0)) (by (with_reducible repeat (first | refine blk_drewN ?_ _ | refine blk_drew ?_ | refine blk_alloc ?_ _)); exact BK255.out) hb); have n1_ := Aside0.mk (blk_below (g := gb256) (o := .cells #[.bool a1_0, .int .i64 a1_1, .int .i64 a1_2, .int .i64 a1_3, .int .i64 a1_4] 34 (0, 0)) (by (with_reducible repeat (first | refine blk_drewN ?_ _ | refine blk_drew ?_ | refine blk_alloc ?_ _)); exact BK256.out) hb); have n2_ := Aside0.mk (below_step (by repeat (first | (with_reducible first | exact HB.out | apply below_alloc | apply pw_below_drewN | apply below_drew1 | refine below_set ?_ GE255.out | refine below_set ?_ GE256.out) | exact HB.out)) hb); have n3_ := Aside0.mk (hbox); have n4_ := Aside0.mk ((by rw [hg]; exact (below_size (by repeat (first | (with_reducible first | exact HB.out | apply below_alloc | apply pw_below_drewN | apply below_drew1 | refine below_set ?_ GE255.out | refine below_set ?_ GE256.out) | exact HB.out))) : w.heap.size ≤ gb257)); have n5_ := Aside0.mk ((by rw [hg]; exact (below_size (by repeat (first | (with_reducible first | exact HB.out | apply below_alloc | apply pw_below_drewN | apply below_drew1 | refine below_set ?_ GE255.out | refine below_set ?_ GE256.out) | exact HB.out))) : w.heap.size ≤ gb257)); have n6_ := Aside0.mk ((by rw [hg]; exact Nat.ne_of_lt (blk_lt (g := gb255) (o := .cells #[.bool a0_0, .int .i64 a0_1, .int .i64 a0_2, .bool a0_3, .int .i64 a0_4, .int .i64 a0_5, .bool a0_6, .bool a0_7, .int .i64 a0_8, .bool a0_9, .bool a0_10] 31 (0, 0)) (by (with_reducible repeat (first | refine blk_drewN ?_ _ | refine blk_drew ?_ | refine blk_alloc ?_ _)); exact BK255.out)) : gb255 ≠ gb257)); have n7_ := Aside0.mk ((by rw [hg]; exact Nat.ne_of_gt (blk_lt (g := gb255) (o := .cells #[.bool a0_0, .int .i64 a0_1, .int .i64 a0_2, .bool a0_3, .int .i64 a0_4, .int .i64 a0_5, .bool a0_6, .bool a0_7, .int .i64 a0_8, .bool a0_9, .bool a0_10] 31 (0, 0)) (by (with_reducible repeat (first | refine blk_drewN ?_ _ | refine blk_drew ?_ | refine blk_alloc ?_ _)); exact BK255.out)) : gb257 ≠ gb255)); have n8_ := Aside0.mk ((by rw [hg]; exact Nat.ne_of_lt (blk_lt (g := gb256) (o := .cells #[.bool a1_0, .int .i64 a1_1, .int .i64 a1_2, .int .i64 a1_3, .int .i64 a1_4] 34 (0, 0)) (by (with_reducible repeat (first | refine blk_drewN ?_ _ | refine blk_drew ?_ | refine blk_alloc ?_ _)); exact BK256.out)) : gb256 ≠ gb257)); have n9_ := Aside0.mk ((by rw [hg]; exact Nat.ne_of_gt (blk_lt (g := gb256) (o := .cells #[.bool a1_0, .int .i64 a1_1, .int .i64 a1_2, .int .i64 a1_3, .int .i64 a1_4] 34 (0, 0)) (by (with_reducible repeat (first | refine blk_drewN ?_ _ | refine blk_drew ?_ | refine blk_alloc ?_ _)); exact BK256.out)) : gb257 ≠ gb256)); clear BK255; clear BK256; clear HB; have BK255 := n0_; have BK256 := n1_; have HB := n2_; have BK257 := n3_; have GW257 := n4_; have GE257 := n5_; have NB255_257 := n6_; have NB257_255 := n7_; have NB256_257 := n8_; have NB257_256 := n9_; clear n0_ n1_ n2_ n3_ n4_ n5_ n6_ n7_ n8_ n9_; clear hb hbox hg) | ((with_reducible refine gate_callee (f := 13) rfl ?_); refine goesL_ (some 12) rfl rfl Try.func13 (by kernel_rfl) rfl #[] rfl (by (try simp only [List.map_toArray, List.map_cons, List.map_nil]); first | done | rfl | (simp only [List.length_drop, List.length_take]; rfl)) ?_; (with_reducible refine (crossbucklaw12_small.calls  t258 _ A5.out).mono ?_); rintro e w10 ⟨rfl, hb⟩; refine ⟨_, rfl, ?_⟩; have n0_ := Aside0.mk (blk_below (g := gb255) (o := .cells #[.bool a0_0, .int .i64 a0_1, .int .i64 a0_2, .bool a0_3, .int .i64 a0_4, .int .i64 a0_5, .bool a0_6, .bool a0_7, .int .i64 a0_8, .bool a0_9, .bool a0_10] 31 (0, 0)) (by (with_reducible repeat (first | refine blk_drewN ?_ _ | refine blk_drew ?_ | refine blk_alloc ?_ _)); exact BK255.out) hb); have n1_ := Aside0.mk (blk_below (g := gb256) (o := .cells #[.bool a1_0, .int .i64 a1_1, .int .i64 a1_2, .int .i64 a1_3, .int .i64 a1_4] 34 (0, 0)) (by (with_reducible repeat (first | refine blk_drewN ?_ _ | refine blk_drew ?_ | refine blk_alloc ?_ _)); exact BK256.out) hb); have n2_ := Aside0.mk (blk_below (g := gb257) (o := .cells #[.int .i64 a2_0, .int .i64 a2_1, .int .i64 a2_2] 23 (0, 0)) (by (with_reducible repeat (first | refine blk_drewN ?_ _ | refine blk_drew ?_ | refine blk_alloc ?_ _)); exact BK257.out) hb); have n3_ := Aside0.mk (below_step (by repeat (first | (with_reducible first | exact HB.out | apply below_alloc | apply pw_below_drewN | apply below_drew1 | refine below_set ?_ GE255.out | refine below_set ?_ GE256.out | refine below_set ?_ GE257.out) | exact HB.out)) hb); clear BK255; clear BK256; clear BK257; clear HB; have BK255 := n0_; have BK256 := n1_; have BK257 := n2_; have HB := n3_; clear n0_ n1_ n2_ n3_; (try clear hb); (try clear hb2); (try clear hk); (try clear hi)))
  (try simp only [Act.put, List.setIfInBounds_toArray, List.set_cons_zero, List.set_cons_succ])
  go_cut [18] (fun v18 wc => ∃ (kq : Nat) (x18_5 : Bool), v18 = .bool x18_5 ∧ Aside0 (crossbucklaw12_TrackStale.j0 kq a3 t258 x18_5 a0_0 a0_1 a0_2 a0_3 a0_4 a0_5 a0_6 a0_7 a0_8 a0_9 a0_10 a1_0 a1_1 a1_2 a1_3 a1_4 a2_0 a2_1 a2_2 = some r) ∧ Aside0 (kq ≤ k) ∧ Aside0 (wc.heap[gb255]? = some (.cells #[.bool a0_0, .int .i64 a0_1, .int .i64 a0_2, .bool a0_3, .int .i64 a0_4, .int .i64 a0_5, .bool a0_6, .bool a0_7, .int .i64 a0_8, .bool a0_9, .bool a0_10] 31 (0, 0))) ∧ Aside0 (wc.heap[gb256]? = some (.cells #[.bool a1_0, .int .i64 a1_1, .int .i64 a1_2, .int .i64 a1_3, .int .i64 a1_4] 34 (0, 0))) ∧ Aside0 (wc.heap[gb257]? = some (.cells #[.int .i64 a2_0, .int .i64 a2_1, .int .i64 a2_2] 23 (0, 0))) ∧ Aside0 (Below w.heap.size w wc))
  case first =>
    have H := HC6.out
    clear HC6
    by_cases c11 : a3 < 1
    · rw [if_pos c11] at H
      have c11b0 : decide (a3 < 1) = true := decide_eq_true c11
      clear c11
      (first | rw [c11b0] | (simp only [i64_w, i32_w]; rw [c11b0]) | skip)
      have H' := Aside0.mk H
      clear H
      go_wp2
      go_meet
      case rel => exact ⟨_, (true), (by first | rfl | (simp; done) | (simp [*]; done)), H', ⟨by first | omega | exact Nat.le_refl _⟩, ⟨by (with_reducible repeat (first | refine blk_drewN ?_ _ | refine blk_drew ?_ | refine blk_alloc ?_ _)); exact BK255.out⟩, ⟨by (with_reducible repeat (first | refine blk_drewN ?_ _ | refine blk_drew ?_ | refine blk_alloc ?_ _)); exact BK256.out⟩, ⟨by (with_reducible repeat (first | refine blk_drewN ?_ _ | refine blk_drew ?_ | refine blk_alloc ?_ _)); exact BK257.out⟩, ⟨by repeat (first | (with_reducible first | exact HB.out | apply below_alloc | apply pw_below_drewN | apply below_drew1 | refine below_set ?_ GE255.out | refine below_set ?_ GE256.out | refine below_set ?_ GE257.out) | exact HB.out)⟩⟩
    · rw [if_neg c11] at H
      have c11b0 : decide (a3 < 1) = false := decide_eq_false c11
      clear c11
      (first | rw [c11b0] | (simp only [i64_w, i32_w]; rw [c11b0]) | skip)
      have H' := Aside0.mk H
      clear H
      go_wp2
      go_meet
      case rel => exact ⟨_, (decide (a3 > 200)), (by first | rfl | (simp; done) | (simp [*]; done)), H', ⟨by first | omega | exact Nat.le_refl _⟩, ⟨by (with_reducible repeat (first | refine blk_drewN ?_ _ | refine blk_drew ?_ | refine blk_alloc ?_ _)); exact BK255.out⟩, ⟨by (with_reducible repeat (first | refine blk_drewN ?_ _ | refine blk_drew ?_ | refine blk_alloc ?_ _)); exact BK256.out⟩, ⟨by (with_reducible repeat (first | refine blk_drewN ?_ _ | refine blk_drew ?_ | refine blk_alloc ?_ _)); exact BK257.out⟩, ⟨by repeat (first | (with_reducible first | exact HB.out | apply below_alloc | apply pw_below_drewN | apply below_drew1 | refine below_set ?_ GE255.out | refine below_set ?_ GE256.out | refine below_set ?_ GE257.out) | exact HB.out)⟩⟩
  case rest =>
    clear HC6
    try clear c1
    try clear p2
    try clear c6
    try clear c11
    try clear c11b0
    obtain ⟨kq, x18_5, rfl, HA, HJ5, BK255, BK256, BK257, HB⟩ := hcut
    cases kq with
    | zero => exact absurd HA.out (by simp [crossbucklaw12_TrackStale.j0])
    | succ kj5 =>
      have H := HA.out
      clear HA
      simp only [crossbucklaw12_TrackStale.j0] at H
      by_cases c12 : x18_5 = true
      · subst c12
        have H1 : (some t258) = some r := by rw [if_pos rfl] at H; exact H
        clear H
        have H := H1
        clear H1
        obtain rfl := Option.some.inj H
        go_wp2
        go_ret
        exact ⟨by first | rfl | (simp [errW_none, errW_some] <;> rfl) | (simp [*, errW_none, errW_some] <;> rfl), by repeat (first | (with_reducible first | exact HB.out | apply below_alloc | apply pw_below_drewN | apply below_drew1 | refine below_set ?_ GE255.out | refine below_set ?_ GE256.out | refine below_set ?_ GE257.out) | exact HB.out)⟩
      · replace c12 := Bool.eq_false_iff.mpr c12
        subst c12
        have H1 : (crossbucklaw12_TrackStale.l0 kj5 a3 t258 0 a0_0 a0_1 a0_2 a0_3 a0_4 a0_5 a0_6 a0_7 a0_8 a0_9 a0_10 false a1_1 a1_2 a1_3 a1_4 a2_0 a2_1 a2_2 a0_0 a0_1 a0_2 a0_3 a0_4 a0_5 a0_6 a0_7 a0_8 a0_9 a0_10) = some r := by rw [if_neg (show ¬ (false = true) by decide)] at H; exact H
        clear H
        have H := H1
        clear H1
        have H' := Aside0.mk H
        clear H
        have hnb13 := NB256_255.out
        have hnc13 := NB255_256.out
        have hnb14 := NB256_257.out
        have hnc14 := NB257_256.out
        have hcz15_0 : wc.cell? ⟨gb256, 0, none⟩ = some (.bool a1_0) := (blk_cell BK256.out 0).trans rfl
        have hcz15_1 : wc.cell? ⟨gb256, 1, none⟩ = some (.int .i64 a1_1) := (blk_cell BK256.out 1).trans rfl
        have hcz15_2 : wc.cell? ⟨gb256, 2, none⟩ = some (.int .i64 a1_2) := (blk_cell BK256.out 2).trans rfl
        have hcz15_3 : wc.cell? ⟨gb256, 3, none⟩ = some (.int .i64 a1_3) := (blk_cell BK256.out 3).trans rfl
        have hcz15_4 : wc.cell? ⟨gb256, 4, none⟩ = some (.int .i64 a1_4) := (blk_cell BK256.out 4).trans rfl
        have hfz15_0 := blk_frozen BK256.out 0
        have hfz15_1 := blk_frozen BK256.out 1
        have hfz15_2 := blk_frozen BK256.out 2
        have hfz15_3 := blk_frozen BK256.out 3
        have hfz15_4 := blk_frozen BK256.out 4
        have hnb16 := NB255_257.out
        have hnc16 := NB257_255.out
        have hcz17_0 : wc.cell? ⟨gb255, 0, none⟩ = some (.bool a0_0) := (blk_cell BK255.out 0).trans rfl
        have hcz17_1 : wc.cell? ⟨gb255, 1, none⟩ = some (.int .i64 a0_1) := (blk_cell BK255.out 1).trans rfl
        have hcz17_2 : wc.cell? ⟨gb255, 2, none⟩ = some (.int .i64 a0_2) := (blk_cell BK255.out 2).trans rfl
        have hcz17_3 : wc.cell? ⟨gb255, 3, none⟩ = some (.bool a0_3) := (blk_cell BK255.out 3).trans rfl
        have hcz17_4 : wc.cell? ⟨gb255, 4, none⟩ = some (.int .i64 a0_4) := (blk_cell BK255.out 4).trans rfl
        have hcz17_5 : wc.cell? ⟨gb255, 5, none⟩ = some (.int .i64 a0_5) := (blk_cell BK255.out 5).trans rfl
        have hcz17_6 : wc.cell? ⟨gb255, 6, none⟩ = some (.bool a0_6) := (blk_cell BK255.out 6).trans rfl
        have hcz17_7 : wc.cell? ⟨gb255, 7, none⟩ = some (.bool a0_7) := (blk_cell BK255.out 7).trans rfl
        have hcz17_8 : wc.cell? ⟨gb255, 8, none⟩ = some (.int .i64 a0_8) := (blk_cell BK255.out 8).trans rfl
        have hcz17_9 : wc.cell? ⟨gb255, 9, none⟩ = some (.bool a0_9) := (blk_cell BK255.out 9).trans rfl
        have hcz17_10 : wc.cell? ⟨gb255, 10, none⟩ = some (.bool a0_10) := (blk_cell BK255.out 10).trans rfl
        have hfz17_0 := blk_frozen BK255.out 0
        have hfz17_1 := blk_frozen BK255.out 1
        have hfz17_2 := blk_frozen BK255.out 2
        have hfz17_3 := blk_frozen BK255.out 3
        have hfz17_4 := blk_frozen BK255.out 4
        have hfz17_5 := blk_frozen BK255.out 5
        have hfz17_6 := blk_frozen BK255.out 6
        have hfz17_7 := blk_frozen BK255.out 7
        have hfz17_8 := blk_frozen BK255.out 8
        have hfz17_9 := blk_frozen BK255.out 9
        have hfz17_10 := blk_frozen BK255.out 10
        go_wp2_with (first | ((with_reducible refine gate_dst (N := 10) rfl ?_); refine box_event ?hg (N := 10) ?hd (cs := #[.bool false, .int .i64 0, .int .i64 0, .bool false, .int .i64 0, .int .i64 0, .bool false, .bool false, .int .i64 0, .bool false, .bool false]) (t := 31) ?hr ?_; (case hd => rfl); (case hg => rfl); (case hr => first | (go_simp; done) | (go_simp; rfl)); intro gb259 hg w18 hbox hb; have n0_ := Aside0.mk (blk_below (g := gb255) (o := .cells #[.bool a0_0, .int .i64 a0_1, .int .i64 a0_2, .bool a0_3, .int .i64 a0_4, .int .i64 a0_5, .bool a0_6, .bool a0_7, .int .i64 a0_8, .bool a0_9, .bool a0_10] 31 (0, 0)) (by (with_reducible repeat (first | refine blk_drewN ?_ _ | refine blk_drew ?_ | refine blk_alloc ?_ _)); refine blk_far ?_ NB255_256.out _; (with_reducible repeat (first | refine blk_drewN ?_ _ | refine blk_drew ?_ | refine blk_alloc ?_ _)); exact BK255.out) hb); have n1_ := Aside0.mk (blk_below (g := gb256) (o := .cells #[.bool false, .int .i64 a1_1, .int .i64 a1_2, .int .i64 a1_3, .int .i64 a1_4] 34 (0, 0)) (by (with_reducible repeat (first | refine blk_drewN ?_ _ | refine blk_drew ?_ | refine blk_alloc ?_ _)); refine blk_put (cs := #[.bool a1_0, .int .i64 a1_1, .int .i64 a1_2, .int .i64 a1_3, .int .i64 a1_4]) ?_ 0 _ rfl; (with_reducible repeat (first | refine blk_drewN ?_ _ | refine blk_drew ?_ | refine blk_alloc ?_ _)); exact BK256.out) hb); have n2_ := Aside0.mk (blk_below (g := gb257) (o := .cells #[.int .i64 a2_0, .int .i64 a2_1, .int .i64 a2_2] 23 (0, 0)) (by (with_reducible repeat (first | refine blk_drewN ?_ _ | refine blk_drew ?_ | refine blk_alloc ?_ _)); refine blk_far ?_ NB257_256.out _; (with_reducible repeat (first | refine blk_drewN ?_ _ | refine blk_drew ?_ | refine blk_alloc ?_ _)); exact BK257.out) hb); have n3_ := Aside0.mk (below_step (by repeat (first | (with_reducible first | exact HB.out | apply below_alloc | apply pw_below_drewN | apply below_drew1 | refine below_set ?_ GE255.out | refine below_set ?_ GE256.out | refine below_set ?_ GE257.out) | exact HB.out)) hb); have n4_ := Aside0.mk (hbox); have n5_ := Aside0.mk ((by rw [hg]; exact (below_size (by repeat (first | (with_reducible first | exact HB.out | apply below_alloc | apply pw_below_drewN | apply below_drew1 | refine below_set ?_ GE255.out | refine below_set ?_ GE256.out | refine below_set ?_ GE257.out) | exact HB.out))) : w.heap.size ≤ gb259)); have n6_ := Aside0.mk ((by rw [hg]; exact (below_size (by repeat (first | (with_reducible first | exact HB.out | apply below_alloc | apply pw_below_drewN | apply below_drew1 | refine below_set ?_ GE255.out | refine below_set ?_ GE256.out | refine below_set ?_ GE257.out) | exact HB.out))) : w.heap.size ≤ gb259)); have n7_ := Aside0.mk ((by rw [hg]; exact Nat.ne_of_lt (blk_lt (g := gb255) (o := .cells #[.bool a0_0, .int .i64 a0_1, .int .i64 a0_2, .bool a0_3, .int .i64 a0_4, .int .i64 a0_5, .bool a0_6, .bool a0_7, .int .i64 a0_8, .bool a0_9, .bool a0_10] 31 (0, 0)) (by (with_reducible repeat (first | refine blk_drewN ?_ _ | refine blk_drew ?_ | refine blk_alloc ?_ _)); refine blk_far ?_ NB255_256.out _; (with_reducible repeat (first | refine blk_drewN ?_ _ | refine blk_drew ?_ | refine blk_alloc ?_ _)); exact BK255.out)) : gb255 ≠ gb259)); have n8_ := Aside0.mk ((by rw [hg]; exact Nat.ne_of_gt (blk_lt (g := gb255) (o := .cells #[.bool a0_0, .int .i64 a0_1, .int .i64 a0_2, .bool a0_3, .int .i64 a0_4, .int .i64 a0_5, .bool a0_6, .bool a0_7, .int .i64 a0_8, .bool a0_9, .bool a0_10] 31 (0, 0)) (by (with_reducible repeat (first | refine blk_drewN ?_ _ | refine blk_drew ?_ | refine blk_alloc ?_ _)); refine blk_far ?_ NB255_256.out _; (with_reducible repeat (first | refine blk_drewN ?_ _ | refine blk_drew ?_ | refine blk_alloc ?_ _)); exact BK255.out)) : gb259 ≠ gb255)); have n9_ := Aside0.mk ((by rw [hg]; exact Nat.ne_of_lt (blk_lt (g := gb256) (o := .cells #[.bool false, .int .i64 a1_1, .int .i64 a1_2, .int .i64 a1_3, .int .i64 a1_4] 34 (0, 0)) (by (with_reducible repeat (first | refine blk_drewN ?_ _ | refine blk_drew ?_ | refine blk_alloc ?_ _)); refine blk_put (cs := #[.bool a1_0, .int .i64 a1_1, .int .i64 a1_2, .int .i64 a1_3, .int .i64 a1_4]) ?_ 0 _ rfl; (with_reducible repeat (first | refine blk_drewN ?_ _ | refine blk_drew ?_ | refine blk_alloc ?_ _)); exact BK256.out)) : gb256 ≠ gb259)); have n10_ := Aside0.mk ((by rw [hg]; exact Nat.ne_of_gt (blk_lt (g := gb256) (o := .cells #[.bool false, .int .i64 a1_1, .int .i64 a1_2, .int .i64 a1_3, .int .i64 a1_4] 34 (0, 0)) (by (with_reducible repeat (first | refine blk_drewN ?_ _ | refine blk_drew ?_ | refine blk_alloc ?_ _)); refine blk_put (cs := #[.bool a1_0, .int .i64 a1_1, .int .i64 a1_2, .int .i64 a1_3, .int .i64 a1_4]) ?_ 0 _ rfl; (with_reducible repeat (first | refine blk_drewN ?_ _ | refine blk_drew ?_ | refine blk_alloc ?_ _)); exact BK256.out)) : gb259 ≠ gb256)); have n11_ := Aside0.mk ((by rw [hg]; exact Nat.ne_of_lt (blk_lt (g := gb257) (o := .cells #[.int .i64 a2_0, .int .i64 a2_1, .int .i64 a2_2] 23 (0, 0)) (by (with_reducible repeat (first | refine blk_drewN ?_ _ | refine blk_drew ?_ | refine blk_alloc ?_ _)); refine blk_far ?_ NB257_256.out _; (with_reducible repeat (first | refine blk_drewN ?_ _ | refine blk_drew ?_ | refine blk_alloc ?_ _)); exact BK257.out)) : gb257 ≠ gb259)); have n12_ := Aside0.mk ((by rw [hg]; exact Nat.ne_of_gt (blk_lt (g := gb257) (o := .cells #[.int .i64 a2_0, .int .i64 a2_1, .int .i64 a2_2] 23 (0, 0)) (by (with_reducible repeat (first | refine blk_drewN ?_ _ | refine blk_drew ?_ | refine blk_alloc ?_ _)); refine blk_far ?_ NB257_256.out _; (with_reducible repeat (first | refine blk_drewN ?_ _ | refine blk_drew ?_ | refine blk_alloc ?_ _)); exact BK257.out)) : gb259 ≠ gb257)); clear BK255; clear BK256; clear BK257; clear HB; have BK255 := n0_; have BK256 := n1_; have BK257 := n2_; have HB := n3_; have BK259 := n4_; have GW259 := n5_; have GE259 := n6_; have NB255_259 := n7_; have NB259_255 := n8_; have NB256_259 := n9_; have NB259_256 := n10_; have NB257_259 := n11_; have NB259_257 := n12_; clear n0_ n1_ n2_ n3_ n4_ n5_ n6_ n7_ n8_ n9_ n10_ n11_ n12_; clear hb hbox hg; have hnb19 := NB259_255.out; have hnc19 := NB255_259.out; have hnb20 := NB259_256.out; have hnc20 := NB256_259.out; have hnb21 := NB259_257.out; have hnc21 := NB257_259.out; have hcz22_0 : w18.cell? ⟨gb259, 0, none⟩ = some (.bool false) := (blk_cell BK259.out 0).trans rfl; have hcz22_1 : w18.cell? ⟨gb259, 1, none⟩ = some (.int .i64 0) := (blk_cell BK259.out 1).trans rfl; have hcz22_2 : w18.cell? ⟨gb259, 2, none⟩ = some (.int .i64 0) := (blk_cell BK259.out 2).trans rfl; have hcz22_3 : w18.cell? ⟨gb259, 3, none⟩ = some (.bool false) := (blk_cell BK259.out 3).trans rfl; have hcz22_4 : w18.cell? ⟨gb259, 4, none⟩ = some (.int .i64 0) := (blk_cell BK259.out 4).trans rfl; have hcz22_5 : w18.cell? ⟨gb259, 5, none⟩ = some (.int .i64 0) := (blk_cell BK259.out 5).trans rfl; have hcz22_6 : w18.cell? ⟨gb259, 6, none⟩ = some (.bool false) := (blk_cell BK259.out 6).trans rfl; have hcz22_7 : w18.cell? ⟨gb259, 7, none⟩ = some (.bool false) := (blk_cell BK259.out 7).trans rfl; have hcz22_8 : w18.cell? ⟨gb259, 8, none⟩ = some (.int .i64 0) := (blk_cell BK259.out 8).trans rfl; have hcz22_9 : w18.cell? ⟨gb259, 9, none⟩ = some (.bool false) := (blk_cell BK259.out 9).trans rfl; have hcz22_10 : w18.cell? ⟨gb259, 10, none⟩ = some (.bool false) := (blk_cell BK259.out 10).trans rfl; have hfz22_0 := blk_frozen BK259.out 0; have hfz22_1 := blk_frozen BK259.out 1; have hfz22_2 := blk_frozen BK259.out 2; have hfz22_3 := blk_frozen BK259.out 3; have hfz22_4 := blk_frozen BK259.out 4; have hfz22_5 := blk_frozen BK259.out 5; have hfz22_6 := blk_frozen BK259.out 6; have hfz22_7 := blk_frozen BK259.out 7; have hfz22_8 := blk_frozen BK259.out 8; have hfz22_9 := blk_frozen BK259.out 9; have hfz22_10 := blk_frozen BK259.out 10))
        go_loopg [11] kj5 (fun kq v11 w' => ∃ (x11_2 : Int) (x260000_2 : Bool) (x260001_2 : Int) (x260002_2 : Int) (x260003_2 : Bool) (x260004_2 : Int) (x260005_2 : Int) (x260006_2 : Bool) (x260007_2 : Bool) (x260008_2 : Int) (x260009_2 : Bool) (x260010_2 : Bool), v11 = .int .i64 x11_2 ∧ Aside0 (crossbucklaw12_TrackStale.l0 kq a3 t258 x11_2 a0_0 a0_1 a0_2 a0_3 a0_4 a0_5 a0_6 a0_7 a0_8 a0_9 a0_10 false a1_1 a1_2 a1_3 a1_4 a2_0 a2_1 a2_2 x260000_2 x260001_2 x260002_2 x260003_2 x260004_2 x260005_2 x260006_2 x260007_2 x260008_2 x260009_2 x260010_2 = some r) ∧ Aside0 (kq ≤ kj5) ∧ Aside0 (w'.heap[gb255]? = some (.cells #[.bool a0_0, .int .i64 a0_1, .int .i64 a0_2, .bool a0_3, .int .i64 a0_4, .int .i64 a0_5, .bool a0_6, .bool a0_7, .int .i64 a0_8, .bool a0_9, .bool a0_10] 31 (0, 0))) ∧ Aside0 (w'.heap[gb256]? = some (.cells #[.bool false, .int .i64 a1_1, .int .i64 a1_2, .int .i64 a1_3, .int .i64 a1_4] 34 (0, 0))) ∧ Aside0 (w'.heap[gb257]? = some (.cells #[.int .i64 a2_0, .int .i64 a2_1, .int .i64 a2_2] 23 (0, 0))) ∧ Aside0 (w'.heap[gb259]? = some (.cells #[.bool x260000_2, .int .i64 x260001_2, .int .i64 x260002_2, .bool x260003_2, .int .i64 x260004_2, .int .i64 x260005_2, .bool x260006_2, .bool x260007_2, .int .i64 x260008_2, .bool x260009_2, .bool x260010_2] 31 (0, 0))) ∧ Aside0 (Below w.heap.size w w'))
        case atStart => exact ⟨(0), (a0_0), (a0_1), (a0_2), (a0_3), (a0_4), (a0_5), (a0_6), (a0_7), (a0_8), (a0_9), (a0_10), (by first | rfl | (simp; done) | (simp [*]; done)), H', ⟨Nat.le_refl _⟩, ⟨by (with_reducible repeat (first | refine blk_drewN ?_ _ | refine blk_drew ?_ | refine blk_alloc ?_ _)); refine blk_far ?_ NB255_259.out _; (with_reducible repeat (first | refine blk_drewN ?_ _ | refine blk_drew ?_ | refine blk_alloc ?_ _)); refine blk_far ?_ NB255_259.out _; (with_reducible repeat (first | refine blk_drewN ?_ _ | refine blk_drew ?_ | refine blk_alloc ?_ _)); refine blk_far ?_ NB255_259.out _; (with_reducible repeat (first | refine blk_drewN ?_ _ | refine blk_drew ?_ | refine blk_alloc ?_ _)); refine blk_far ?_ NB255_259.out _; (with_reducible repeat (first | refine blk_drewN ?_ _ | refine blk_drew ?_ | refine blk_alloc ?_ _)); refine blk_far ?_ NB255_259.out _; (with_reducible repeat (first | refine blk_drewN ?_ _ | refine blk_drew ?_ | refine blk_alloc ?_ _)); refine blk_far ?_ NB255_259.out _; (with_reducible repeat (first | refine blk_drewN ?_ _ | refine blk_drew ?_ | refine blk_alloc ?_ _)); refine blk_far ?_ NB255_259.out _; (with_reducible repeat (first | refine blk_drewN ?_ _ | refine blk_drew ?_ | refine blk_alloc ?_ _)); refine blk_far ?_ NB255_259.out _; (with_reducible repeat (first | refine blk_drewN ?_ _ | refine blk_drew ?_ | refine blk_alloc ?_ _)); refine blk_far ?_ NB255_259.out _; (with_reducible repeat (first | refine blk_drewN ?_ _ | refine blk_drew ?_ | refine blk_alloc ?_ _)); refine blk_far ?_ NB255_259.out _; (with_reducible repeat (first | refine blk_drewN ?_ _ | refine blk_drew ?_ | refine blk_alloc ?_ _)); refine blk_far ?_ NB255_259.out _; (with_reducible repeat (first | refine blk_drewN ?_ _ | refine blk_drew ?_ | refine blk_alloc ?_ _)); exact BK255.out⟩, ⟨by (with_reducible repeat (first | refine blk_drewN ?_ _ | refine blk_drew ?_ | refine blk_alloc ?_ _)); refine blk_far ?_ NB256_259.out _; (with_reducible repeat (first | refine blk_drewN ?_ _ | refine blk_drew ?_ | refine blk_alloc ?_ _)); refine blk_far ?_ NB256_259.out _; (with_reducible repeat (first | refine blk_drewN ?_ _ | refine blk_drew ?_ | refine blk_alloc ?_ _)); refine blk_far ?_ NB256_259.out _; (with_reducible repeat (first | refine blk_drewN ?_ _ | refine blk_drew ?_ | refine blk_alloc ?_ _)); refine blk_far ?_ NB256_259.out _; (with_reducible repeat (first | refine blk_drewN ?_ _ | refine blk_drew ?_ | refine blk_alloc ?_ _)); refine blk_far ?_ NB256_259.out _; (with_reducible repeat (first | refine blk_drewN ?_ _ | refine blk_drew ?_ | refine blk_alloc ?_ _)); refine blk_far ?_ NB256_259.out _; (with_reducible repeat (first | refine blk_drewN ?_ _ | refine blk_drew ?_ | refine blk_alloc ?_ _)); refine blk_far ?_ NB256_259.out _; (with_reducible repeat (first | refine blk_drewN ?_ _ | refine blk_drew ?_ | refine blk_alloc ?_ _)); refine blk_far ?_ NB256_259.out _; (with_reducible repeat (first | refine blk_drewN ?_ _ | refine blk_drew ?_ | refine blk_alloc ?_ _)); refine blk_far ?_ NB256_259.out _; (with_reducible repeat (first | refine blk_drewN ?_ _ | refine blk_drew ?_ | refine blk_alloc ?_ _)); refine blk_far ?_ NB256_259.out _; (with_reducible repeat (first | refine blk_drewN ?_ _ | refine blk_drew ?_ | refine blk_alloc ?_ _)); refine blk_far ?_ NB256_259.out _; (with_reducible repeat (first | refine blk_drewN ?_ _ | refine blk_drew ?_ | refine blk_alloc ?_ _)); exact BK256.out⟩, ⟨by (with_reducible repeat (first | refine blk_drewN ?_ _ | refine blk_drew ?_ | refine blk_alloc ?_ _)); refine blk_far ?_ NB257_259.out _; (with_reducible repeat (first | refine blk_drewN ?_ _ | refine blk_drew ?_ | refine blk_alloc ?_ _)); refine blk_far ?_ NB257_259.out _; (with_reducible repeat (first | refine blk_drewN ?_ _ | refine blk_drew ?_ | refine blk_alloc ?_ _)); refine blk_far ?_ NB257_259.out _; (with_reducible repeat (first | refine blk_drewN ?_ _ | refine blk_drew ?_ | refine blk_alloc ?_ _)); refine blk_far ?_ NB257_259.out _; (with_reducible repeat (first | refine blk_drewN ?_ _ | refine blk_drew ?_ | refine blk_alloc ?_ _)); refine blk_far ?_ NB257_259.out _; (with_reducible repeat (first | refine blk_drewN ?_ _ | refine blk_drew ?_ | refine blk_alloc ?_ _)); refine blk_far ?_ NB257_259.out _; (with_reducible repeat (first | refine blk_drewN ?_ _ | refine blk_drew ?_ | refine blk_alloc ?_ _)); refine blk_far ?_ NB257_259.out _; (with_reducible repeat (first | refine blk_drewN ?_ _ | refine blk_drew ?_ | refine blk_alloc ?_ _)); refine blk_far ?_ NB257_259.out _; (with_reducible repeat (first | refine blk_drewN ?_ _ | refine blk_drew ?_ | refine blk_alloc ?_ _)); refine blk_far ?_ NB257_259.out _; (with_reducible repeat (first | refine blk_drewN ?_ _ | refine blk_drew ?_ | refine blk_alloc ?_ _)); refine blk_far ?_ NB257_259.out _; (with_reducible repeat (first | refine blk_drewN ?_ _ | refine blk_drew ?_ | refine blk_alloc ?_ _)); refine blk_far ?_ NB257_259.out _; (with_reducible repeat (first | refine blk_drewN ?_ _ | refine blk_drew ?_ | refine blk_alloc ?_ _)); exact BK257.out⟩, ⟨by (with_reducible repeat (first | refine blk_drewN ?_ _ | refine blk_drew ?_ | refine blk_alloc ?_ _)); refine blk_put (cs := #[.bool a0_0, .int .i64 a0_1, .int .i64 a0_2, .bool a0_3, .int .i64 a0_4, .int .i64 a0_5, .bool a0_6, .bool a0_7, .int .i64 a0_8, .bool a0_9, .bool false]) ?_ 10 _ rfl; (with_reducible repeat (first | refine blk_drewN ?_ _ | refine blk_drew ?_ | refine blk_alloc ?_ _)); refine blk_put (cs := #[.bool a0_0, .int .i64 a0_1, .int .i64 a0_2, .bool a0_3, .int .i64 a0_4, .int .i64 a0_5, .bool a0_6, .bool a0_7, .int .i64 a0_8, .bool false, .bool false]) ?_ 9 _ rfl; (with_reducible repeat (first | refine blk_drewN ?_ _ | refine blk_drew ?_ | refine blk_alloc ?_ _)); refine blk_put (cs := #[.bool a0_0, .int .i64 a0_1, .int .i64 a0_2, .bool a0_3, .int .i64 a0_4, .int .i64 a0_5, .bool a0_6, .bool a0_7, .int .i64 0, .bool false, .bool false]) ?_ 8 _ rfl; (with_reducible repeat (first | refine blk_drewN ?_ _ | refine blk_drew ?_ | refine blk_alloc ?_ _)); refine blk_put (cs := #[.bool a0_0, .int .i64 a0_1, .int .i64 a0_2, .bool a0_3, .int .i64 a0_4, .int .i64 a0_5, .bool a0_6, .bool false, .int .i64 0, .bool false, .bool false]) ?_ 7 _ rfl; (with_reducible repeat (first | refine blk_drewN ?_ _ | refine blk_drew ?_ | refine blk_alloc ?_ _)); refine blk_put (cs := #[.bool a0_0, .int .i64 a0_1, .int .i64 a0_2, .bool a0_3, .int .i64 a0_4, .int .i64 a0_5, .bool false, .bool false, .int .i64 0, .bool false, .bool false]) ?_ 6 _ rfl; (with_reducible repeat (first | refine blk_drewN ?_ _ | refine blk_drew ?_ | refine blk_alloc ?_ _)); refine blk_put (cs := #[.bool a0_0, .int .i64 a0_1, .int .i64 a0_2, .bool a0_3, .int .i64 a0_4, .int .i64 0, .bool false, .bool false, .int .i64 0, .bool false, .bool false]) ?_ 5 _ rfl; (with_reducible repeat (first | refine blk_drewN ?_ _ | refine blk_drew ?_ | refine blk_alloc ?_ _)); refine blk_put (cs := #[.bool a0_0, .int .i64 a0_1, .int .i64 a0_2, .bool a0_3, .int .i64 0, .int .i64 0, .bool false, .bool false, .int .i64 0, .bool false, .bool false]) ?_ 4 _ rfl; (with_reducible repeat (first | refine blk_drewN ?_ _ | refine blk_drew ?_ | refine blk_alloc ?_ _)); refine blk_put (cs := #[.bool a0_0, .int .i64 a0_1, .int .i64 a0_2, .bool false, .int .i64 0, .int .i64 0, .bool false, .bool false, .int .i64 0, .bool false, .bool false]) ?_ 3 _ rfl; (with_reducible repeat (first | refine blk_drewN ?_ _ | refine blk_drew ?_ | refine blk_alloc ?_ _)); refine blk_put (cs := #[.bool a0_0, .int .i64 a0_1, .int .i64 0, .bool false, .int .i64 0, .int .i64 0, .bool false, .bool false, .int .i64 0, .bool false, .bool false]) ?_ 2 _ rfl; (with_reducible repeat (first | refine blk_drewN ?_ _ | refine blk_drew ?_ | refine blk_alloc ?_ _)); refine blk_put (cs := #[.bool a0_0, .int .i64 0, .int .i64 0, .bool false, .int .i64 0, .int .i64 0, .bool false, .bool false, .int .i64 0, .bool false, .bool false]) ?_ 1 _ rfl; (with_reducible repeat (first | refine blk_drewN ?_ _ | refine blk_drew ?_ | refine blk_alloc ?_ _)); refine blk_put (cs := #[.bool false, .int .i64 0, .int .i64 0, .bool false, .int .i64 0, .int .i64 0, .bool false, .bool false, .int .i64 0, .bool false, .bool false]) ?_ 0 _ rfl; (with_reducible repeat (first | refine blk_drewN ?_ _ | refine blk_drew ?_ | refine blk_alloc ?_ _)); exact BK259.out⟩, ⟨by repeat (first | (with_reducible first | exact HB.out | apply below_alloc | apply pw_below_drewN | apply below_drew1 | refine below_set ?_ GE255.out | refine below_set ?_ GE256.out | refine below_set ?_ GE257.out | refine below_set ?_ GE259.out) | exact HB.out)⟩⟩
        case round =>
          clear H'
          try clear c1
          try clear c2
          try clear p2
          try clear c6
          try clear c11
          try clear c11b0
          try clear c12
          try clear c13
          try clear c14
          try clear c16
          try clear c19
          try clear c20
          try clear c21
          try clear hcz15_0
          try clear hcz15_1
          try clear hcz15_2
          try clear hcz15_3
          try clear hcz15_4
          try clear hcz17_0
          try clear hcz17_1
          try clear hcz17_10
          try clear hcz17_2
          try clear hcz17_3
          try clear hcz17_4
          try clear hcz17_5
          try clear hcz17_6
          try clear hcz17_7
          try clear hcz17_8
          try clear hcz17_9
          try clear hcz22_0
          try clear hcz22_1
          try clear hcz22_10
          try clear hcz22_2
          try clear hcz22_3
          try clear hcz22_4
          try clear hcz22_5
          try clear hcz22_6
          try clear hcz22_7
          try clear hcz22_8
          try clear hcz22_9
          try clear hfz15_0
          try clear hfz15_1
          try clear hfz15_2
          try clear hfz15_3
          try clear hfz15_4
          try clear hfz17_0
          try clear hfz17_1
          try clear hfz17_10
          try clear hfz17_2
          try clear hfz17_3
          try clear hfz17_4
          try clear hfz17_5
          try clear hfz17_6
          try clear hfz17_7
          try clear hfz17_8
          try clear hfz17_9
          try clear hfz22_0
          try clear hfz22_1
          try clear hfz22_10
          try clear hfz22_2
          try clear hfz22_3
          try clear hfz22_4
          try clear hfz22_5
          try clear hfz22_6
          try clear hfz22_7
          try clear hfz22_8
          try clear hfz22_9
          try clear p2
          obtain ⟨x11_2, x260000_2, x260001_2, x260002_2, x260003_2, x260004_2, x260005_2, x260006_2, x260007_2, x260008_2, x260009_2, x260010_2, rfl, HA, HK2, BK255, BK256, BK257, BK259, HB⟩ := hrel
          cases gk with
          | zero => exact absurd HA.out (by simp [crossbucklaw12_TrackStale.l0])
          | succ k2 =>
            have H := HA.out
            clear HA
            simp only [crossbucklaw12_TrackStale.l0] at H
            by_cases c23 : x11_2 < a3
            · rw [if_pos c23] at H
              have c23b0 : decide (x11_2 < a3) = true := decide_eq_true c23
              clear c23
              replace H := Option.bind_eq_some_iff.mp H
              obtain ⟨⟨t260, t261, t262, t263, t264, t265, t266, t267, t268, t269, t270⟩, A240, H⟩ := H
              replace H : (crossbucklaw12_TrackStale.l0 k2 a3 t258 (wrap64 (x11_2 + 1)) a0_0 a0_1 a0_2 a0_3 a0_4 a0_5 a0_6 a0_7 a0_8 a0_9 a0_10 false a1_1 a1_2 a1_3 a1_4 a2_0 a2_1 a2_2 t260 t261 t262 t263 t264 t265 t266 t267 t268 t269 t270) = some r := H
              have A24 := Aside0.mk A240
              clear A240
              have H' := Aside0.mk H
              clear H
              have hnb25 := NB259_255.out
              have hnc25 := NB255_259.out
              have hnb26 := NB259_256.out
              have hnc26 := NB256_259.out
              have hnb27 := NB259_257.out
              have hnc27 := NB257_259.out
              have hcz28_0 : wr.cell? ⟨gb259, 0, none⟩ = some (.bool x260000_2) := (blk_cell BK259.out 0).trans rfl
              have hcz28_1 : wr.cell? ⟨gb259, 1, none⟩ = some (.int .i64 x260001_2) := (blk_cell BK259.out 1).trans rfl
              have hcz28_2 : wr.cell? ⟨gb259, 2, none⟩ = some (.int .i64 x260002_2) := (blk_cell BK259.out 2).trans rfl
              have hcz28_3 : wr.cell? ⟨gb259, 3, none⟩ = some (.bool x260003_2) := (blk_cell BK259.out 3).trans rfl
              have hcz28_4 : wr.cell? ⟨gb259, 4, none⟩ = some (.int .i64 x260004_2) := (blk_cell BK259.out 4).trans rfl
              have hcz28_5 : wr.cell? ⟨gb259, 5, none⟩ = some (.int .i64 x260005_2) := (blk_cell BK259.out 5).trans rfl
              have hcz28_6 : wr.cell? ⟨gb259, 6, none⟩ = some (.bool x260006_2) := (blk_cell BK259.out 6).trans rfl
              have hcz28_7 : wr.cell? ⟨gb259, 7, none⟩ = some (.bool x260007_2) := (blk_cell BK259.out 7).trans rfl
              have hcz28_8 : wr.cell? ⟨gb259, 8, none⟩ = some (.int .i64 x260008_2) := (blk_cell BK259.out 8).trans rfl
              have hcz28_9 : wr.cell? ⟨gb259, 9, none⟩ = some (.bool x260009_2) := (blk_cell BK259.out 9).trans rfl
              have hcz28_10 : wr.cell? ⟨gb259, 10, none⟩ = some (.bool x260010_2) := (blk_cell BK259.out 10).trans rfl
              have hfz28_0 := blk_frozen BK259.out 0
              have hfz28_1 := blk_frozen BK259.out 1
              have hfz28_2 := blk_frozen BK259.out 2
              have hfz28_3 := blk_frozen BK259.out 3
              have hfz28_4 := blk_frozen BK259.out 4
              have hfz28_5 := blk_frozen BK259.out 5
              have hfz28_6 := blk_frozen BK259.out 6
              have hfz28_7 := blk_frozen BK259.out 7
              have hfz28_8 := blk_frozen BK259.out 8
              have hfz28_9 := blk_frozen BK259.out 9
              have hfz28_10 := blk_frozen BK259.out 10
              have hnb29 := NB256_255.out
              have hnc29 := NB255_256.out
              have hnb30 := NB256_257.out
              have hnc30 := NB257_256.out
              have hcz31_0 : wr.cell? ⟨gb256, 0, none⟩ = some (.bool false) := (blk_cell BK256.out 0).trans rfl
              have hcz31_1 : wr.cell? ⟨gb256, 1, none⟩ = some (.int .i64 a1_1) := (blk_cell BK256.out 1).trans rfl
              have hcz31_2 : wr.cell? ⟨gb256, 2, none⟩ = some (.int .i64 a1_2) := (blk_cell BK256.out 2).trans rfl
              have hcz31_3 : wr.cell? ⟨gb256, 3, none⟩ = some (.int .i64 a1_3) := (blk_cell BK256.out 3).trans rfl
              have hcz31_4 : wr.cell? ⟨gb256, 4, none⟩ = some (.int .i64 a1_4) := (blk_cell BK256.out 4).trans rfl
              have hfz31_0 := blk_frozen BK256.out 0
              have hfz31_1 := blk_frozen BK256.out 1
              have hfz31_2 := blk_frozen BK256.out 2
              have hfz31_3 := blk_frozen BK256.out 3
              have hfz31_4 := blk_frozen BK256.out 4
              have hnb32 := NB257_255.out
              have hnc32 := NB255_257.out
              have hcz33_0 : wr.cell? ⟨gb257, 0, none⟩ = some (.int .i64 a2_0) := (blk_cell BK257.out 0).trans rfl
              have hcz33_1 : wr.cell? ⟨gb257, 1, none⟩ = some (.int .i64 a2_1) := (blk_cell BK257.out 1).trans rfl
              have hcz33_2 : wr.cell? ⟨gb257, 2, none⟩ = some (.int .i64 a2_2) := (blk_cell BK257.out 2).trans rfl
              have hfz33_0 := blk_frozen BK257.out 0
              have hfz33_1 := blk_frozen BK257.out 1
              have hfz33_2 := blk_frozen BK257.out 2
              go_wp2_with (first | ((with_reducible refine gate_callee (f := 14) rfl ?_); refine goesL_ (some 30) rfl rfl Try.func14 (by kernel_rfl) rfl #[.agg #[.bool x260000_2, .int .i64 x260001_2, .int .i64 x260002_2, .bool x260003_2, .int .i64 x260004_2, .int .i64 x260005_2, .bool x260006_2, .bool x260007_2, .int .i64 x260008_2, .bool x260009_2, .bool x260010_2], .agg #[.bool false, .int .i64 a1_1, .int .i64 a1_2, .int .i64 a1_3, .int .i64 a1_4], .agg #[.int .i64 a2_0, .int .i64 a2_1, .int .i64 a2_2], .bool false] rfl (by (try simp only [List.map_toArray, List.map_cons, List.map_nil]); first | done | rfl | (simp only [List.length_drop, List.length_take]; rfl)) ?_; (with_reducible refine (track_Step.calls k2 x260000_2 x260001_2 x260002_2 x260003_2 x260004_2 x260005_2 x260006_2 x260007_2 x260008_2 x260009_2 x260010_2 false a1_1 a1_2 a1_3 a1_4 a2_0 a2_1 a2_2 false t260 t261 t262 t263 t264 t265 t266 t267 t268 t269 t270 _ A24.out).mono ?_); rintro e w34 ⟨rfl, hb⟩; refine ⟨_, rfl, ?_⟩; have n0_ := Aside0.mk (blk_below (g := gb255) (o := .cells #[.bool a0_0, .int .i64 a0_1, .int .i64 a0_2, .bool a0_3, .int .i64 a0_4, .int .i64 a0_5, .bool a0_6, .bool a0_7, .int .i64 a0_8, .bool a0_9, .bool a0_10] 31 (0, 0)) (by (with_reducible repeat (first | refine blk_drewN ?_ _ | refine blk_drew ?_ | refine blk_alloc ?_ _)); exact BK255.out) hb); have n1_ := Aside0.mk (blk_below (g := gb256) (o := .cells #[.bool false, .int .i64 a1_1, .int .i64 a1_2, .int .i64 a1_3, .int .i64 a1_4] 34 (0, 0)) (by (with_reducible repeat (first | refine blk_drewN ?_ _ | refine blk_drew ?_ | refine blk_alloc ?_ _)); exact BK256.out) hb); have n2_ := Aside0.mk (blk_below (g := gb257) (o := .cells #[.int .i64 a2_0, .int .i64 a2_1, .int .i64 a2_2] 23 (0, 0)) (by (with_reducible repeat (first | refine blk_drewN ?_ _ | refine blk_drew ?_ | refine blk_alloc ?_ _)); exact BK257.out) hb); have n3_ := Aside0.mk (blk_below (g := gb259) (o := .cells #[.bool x260000_2, .int .i64 x260001_2, .int .i64 x260002_2, .bool x260003_2, .int .i64 x260004_2, .int .i64 x260005_2, .bool x260006_2, .bool x260007_2, .int .i64 x260008_2, .bool x260009_2, .bool x260010_2] 31 (0, 0)) (by (with_reducible repeat (first | refine blk_drewN ?_ _ | refine blk_drew ?_ | refine blk_alloc ?_ _)); exact BK259.out) hb); have n4_ := Aside0.mk (below_step (by repeat (first | (with_reducible first | exact HB.out | apply below_alloc | apply pw_below_drewN | apply below_drew1 | refine below_set ?_ GE255.out | refine below_set ?_ GE256.out | refine below_set ?_ GE257.out | refine below_set ?_ GE259.out) | exact HB.out)) hb); clear BK255; clear BK256; clear BK257; clear BK259; clear HB; have BK255 := n0_; have BK256 := n1_; have BK257 := n2_; have BK259 := n3_; have HB := n4_; clear n0_ n1_ n2_ n3_ n4_; (try clear hb); (try clear hb2); (try clear hk); (try clear hi); have hcz35_0 : w34.cell? ⟨gb259, 0, none⟩ = some (.bool x260000_2) := (blk_cell BK259.out 0).trans rfl; have hcz35_1 : w34.cell? ⟨gb259, 1, none⟩ = some (.int .i64 x260001_2) := (blk_cell BK259.out 1).trans rfl; have hcz35_2 : w34.cell? ⟨gb259, 2, none⟩ = some (.int .i64 x260002_2) := (blk_cell BK259.out 2).trans rfl; have hcz35_3 : w34.cell? ⟨gb259, 3, none⟩ = some (.bool x260003_2) := (blk_cell BK259.out 3).trans rfl; have hcz35_4 : w34.cell? ⟨gb259, 4, none⟩ = some (.int .i64 x260004_2) := (blk_cell BK259.out 4).trans rfl; have hcz35_5 : w34.cell? ⟨gb259, 5, none⟩ = some (.int .i64 x260005_2) := (blk_cell BK259.out 5).trans rfl; have hcz35_6 : w34.cell? ⟨gb259, 6, none⟩ = some (.bool x260006_2) := (blk_cell BK259.out 6).trans rfl; have hcz35_7 : w34.cell? ⟨gb259, 7, none⟩ = some (.bool x260007_2) := (blk_cell BK259.out 7).trans rfl; have hcz35_8 : w34.cell? ⟨gb259, 8, none⟩ = some (.int .i64 x260008_2) := (blk_cell BK259.out 8).trans rfl; have hcz35_9 : w34.cell? ⟨gb259, 9, none⟩ = some (.bool x260009_2) := (blk_cell BK259.out 9).trans rfl; have hcz35_10 : w34.cell? ⟨gb259, 10, none⟩ = some (.bool x260010_2) := (blk_cell BK259.out 10).trans rfl; have hfz35_0 := blk_frozen BK259.out 0; have hfz35_1 := blk_frozen BK259.out 1; have hfz35_2 := blk_frozen BK259.out 2; have hfz35_3 := blk_frozen BK259.out 3; have hfz35_4 := blk_frozen BK259.out 4; have hfz35_5 := blk_frozen BK259.out 5; have hfz35_6 := blk_frozen BK259.out 6; have hfz35_7 := blk_frozen BK259.out 7; have hfz35_8 := blk_frozen BK259.out 8; have hfz35_9 := blk_frozen BK259.out 9; have hfz35_10 := blk_frozen BK259.out 10))
              go_roundg k2
              case measure => have := HJ5.out; have := HK2.out; omega
              case rel => exact ⟨(wrap64 (x11_2 + 1)), (t260), (t261), (t262), (t263), (t264), (t265), (t266), (t267), (t268), (t269), (t270), (by first | rfl | (simp; done) | (simp [*]; done)), H', ⟨by have := HJ5.out; have := HK2.out; omega⟩, ⟨by (with_reducible repeat (first | refine blk_drewN ?_ _ | refine blk_drew ?_ | refine blk_alloc ?_ _)); refine blk_far ?_ NB255_259.out _; (with_reducible repeat (first | refine blk_drewN ?_ _ | refine blk_drew ?_ | refine blk_alloc ?_ _)); refine blk_far ?_ NB255_259.out _; (with_reducible repeat (first | refine blk_drewN ?_ _ | refine blk_drew ?_ | refine blk_alloc ?_ _)); refine blk_far ?_ NB255_259.out _; (with_reducible repeat (first | refine blk_drewN ?_ _ | refine blk_drew ?_ | refine blk_alloc ?_ _)); refine blk_far ?_ NB255_259.out _; (with_reducible repeat (first | refine blk_drewN ?_ _ | refine blk_drew ?_ | refine blk_alloc ?_ _)); refine blk_far ?_ NB255_259.out _; (with_reducible repeat (first | refine blk_drewN ?_ _ | refine blk_drew ?_ | refine blk_alloc ?_ _)); refine blk_far ?_ NB255_259.out _; (with_reducible repeat (first | refine blk_drewN ?_ _ | refine blk_drew ?_ | refine blk_alloc ?_ _)); refine blk_far ?_ NB255_259.out _; (with_reducible repeat (first | refine blk_drewN ?_ _ | refine blk_drew ?_ | refine blk_alloc ?_ _)); refine blk_far ?_ NB255_259.out _; (with_reducible repeat (first | refine blk_drewN ?_ _ | refine blk_drew ?_ | refine blk_alloc ?_ _)); refine blk_far ?_ NB255_259.out _; (with_reducible repeat (first | refine blk_drewN ?_ _ | refine blk_drew ?_ | refine blk_alloc ?_ _)); refine blk_far ?_ NB255_259.out _; (with_reducible repeat (first | refine blk_drewN ?_ _ | refine blk_drew ?_ | refine blk_alloc ?_ _)); refine blk_far ?_ NB255_259.out _; (with_reducible repeat (first | refine blk_drewN ?_ _ | refine blk_drew ?_ | refine blk_alloc ?_ _)); exact BK255.out⟩, ⟨by (with_reducible repeat (first | refine blk_drewN ?_ _ | refine blk_drew ?_ | refine blk_alloc ?_ _)); refine blk_far ?_ NB256_259.out _; (with_reducible repeat (first | refine blk_drewN ?_ _ | refine blk_drew ?_ | refine blk_alloc ?_ _)); refine blk_far ?_ NB256_259.out _; (with_reducible repeat (first | refine blk_drewN ?_ _ | refine blk_drew ?_ | refine blk_alloc ?_ _)); refine blk_far ?_ NB256_259.out _; (with_reducible repeat (first | refine blk_drewN ?_ _ | refine blk_drew ?_ | refine blk_alloc ?_ _)); refine blk_far ?_ NB256_259.out _; (with_reducible repeat (first | refine blk_drewN ?_ _ | refine blk_drew ?_ | refine blk_alloc ?_ _)); refine blk_far ?_ NB256_259.out _; (with_reducible repeat (first | refine blk_drewN ?_ _ | refine blk_drew ?_ | refine blk_alloc ?_ _)); refine blk_far ?_ NB256_259.out _; (with_reducible repeat (first | refine blk_drewN ?_ _ | refine blk_drew ?_ | refine blk_alloc ?_ _)); refine blk_far ?_ NB256_259.out _; (with_reducible repeat (first | refine blk_drewN ?_ _ | refine blk_drew ?_ | refine blk_alloc ?_ _)); refine blk_far ?_ NB256_259.out _; (with_reducible repeat (first | refine blk_drewN ?_ _ | refine blk_drew ?_ | refine blk_alloc ?_ _)); refine blk_far ?_ NB256_259.out _; (with_reducible repeat (first | refine blk_drewN ?_ _ | refine blk_drew ?_ | refine blk_alloc ?_ _)); refine blk_far ?_ NB256_259.out _; (with_reducible repeat (first | refine blk_drewN ?_ _ | refine blk_drew ?_ | refine blk_alloc ?_ _)); refine blk_far ?_ NB256_259.out _; (with_reducible repeat (first | refine blk_drewN ?_ _ | refine blk_drew ?_ | refine blk_alloc ?_ _)); exact BK256.out⟩, ⟨by (with_reducible repeat (first | refine blk_drewN ?_ _ | refine blk_drew ?_ | refine blk_alloc ?_ _)); refine blk_far ?_ NB257_259.out _; (with_reducible repeat (first | refine blk_drewN ?_ _ | refine blk_drew ?_ | refine blk_alloc ?_ _)); refine blk_far ?_ NB257_259.out _; (with_reducible repeat (first | refine blk_drewN ?_ _ | refine blk_drew ?_ | refine blk_alloc ?_ _)); refine blk_far ?_ NB257_259.out _; (with_reducible repeat (first | refine blk_drewN ?_ _ | refine blk_drew ?_ | refine blk_alloc ?_ _)); refine blk_far ?_ NB257_259.out _; (with_reducible repeat (first | refine blk_drewN ?_ _ | refine blk_drew ?_ | refine blk_alloc ?_ _)); refine blk_far ?_ NB257_259.out _; (with_reducible repeat (first | refine blk_drewN ?_ _ | refine blk_drew ?_ | refine blk_alloc ?_ _)); refine blk_far ?_ NB257_259.out _; (with_reducible repeat (first | refine blk_drewN ?_ _ | refine blk_drew ?_ | refine blk_alloc ?_ _)); refine blk_far ?_ NB257_259.out _; (with_reducible repeat (first | refine blk_drewN ?_ _ | refine blk_drew ?_ | refine blk_alloc ?_ _)); refine blk_far ?_ NB257_259.out _; (with_reducible repeat (first | refine blk_drewN ?_ _ | refine blk_drew ?_ | refine blk_alloc ?_ _)); refine blk_far ?_ NB257_259.out _; (with_reducible repeat (first | refine blk_drewN ?_ _ | refine blk_drew ?_ | refine blk_alloc ?_ _)); refine blk_far ?_ NB257_259.out _; (with_reducible repeat (first | refine blk_drewN ?_ _ | refine blk_drew ?_ | refine blk_alloc ?_ _)); refine blk_far ?_ NB257_259.out _; (with_reducible repeat (first | refine blk_drewN ?_ _ | refine blk_drew ?_ | refine blk_alloc ?_ _)); exact BK257.out⟩, ⟨by (with_reducible repeat (first | refine blk_drewN ?_ _ | refine blk_drew ?_ | refine blk_alloc ?_ _)); refine blk_put (cs := #[.bool t260, .int .i64 t261, .int .i64 t262, .bool t263, .int .i64 t264, .int .i64 t265, .bool t266, .bool t267, .int .i64 t268, .bool t269, .bool x260010_2]) ?_ 10 _ rfl; (with_reducible repeat (first | refine blk_drewN ?_ _ | refine blk_drew ?_ | refine blk_alloc ?_ _)); refine blk_put (cs := #[.bool t260, .int .i64 t261, .int .i64 t262, .bool t263, .int .i64 t264, .int .i64 t265, .bool t266, .bool t267, .int .i64 t268, .bool x260009_2, .bool x260010_2]) ?_ 9 _ rfl; (with_reducible repeat (first | refine blk_drewN ?_ _ | refine blk_drew ?_ | refine blk_alloc ?_ _)); refine blk_put (cs := #[.bool t260, .int .i64 t261, .int .i64 t262, .bool t263, .int .i64 t264, .int .i64 t265, .bool t266, .bool t267, .int .i64 x260008_2, .bool x260009_2, .bool x260010_2]) ?_ 8 _ rfl; (with_reducible repeat (first | refine blk_drewN ?_ _ | refine blk_drew ?_ | refine blk_alloc ?_ _)); refine blk_put (cs := #[.bool t260, .int .i64 t261, .int .i64 t262, .bool t263, .int .i64 t264, .int .i64 t265, .bool t266, .bool x260007_2, .int .i64 x260008_2, .bool x260009_2, .bool x260010_2]) ?_ 7 _ rfl; (with_reducible repeat (first | refine blk_drewN ?_ _ | refine blk_drew ?_ | refine blk_alloc ?_ _)); refine blk_put (cs := #[.bool t260, .int .i64 t261, .int .i64 t262, .bool t263, .int .i64 t264, .int .i64 t265, .bool x260006_2, .bool x260007_2, .int .i64 x260008_2, .bool x260009_2, .bool x260010_2]) ?_ 6 _ rfl; (with_reducible repeat (first | refine blk_drewN ?_ _ | refine blk_drew ?_ | refine blk_alloc ?_ _)); refine blk_put (cs := #[.bool t260, .int .i64 t261, .int .i64 t262, .bool t263, .int .i64 t264, .int .i64 x260005_2, .bool x260006_2, .bool x260007_2, .int .i64 x260008_2, .bool x260009_2, .bool x260010_2]) ?_ 5 _ rfl; (with_reducible repeat (first | refine blk_drewN ?_ _ | refine blk_drew ?_ | refine blk_alloc ?_ _)); refine blk_put (cs := #[.bool t260, .int .i64 t261, .int .i64 t262, .bool t263, .int .i64 x260004_2, .int .i64 x260005_2, .bool x260006_2, .bool x260007_2, .int .i64 x260008_2, .bool x260009_2, .bool x260010_2]) ?_ 4 _ rfl; (with_reducible repeat (first | refine blk_drewN ?_ _ | refine blk_drew ?_ | refine blk_alloc ?_ _)); refine blk_put (cs := #[.bool t260, .int .i64 t261, .int .i64 t262, .bool x260003_2, .int .i64 x260004_2, .int .i64 x260005_2, .bool x260006_2, .bool x260007_2, .int .i64 x260008_2, .bool x260009_2, .bool x260010_2]) ?_ 3 _ rfl; (with_reducible repeat (first | refine blk_drewN ?_ _ | refine blk_drew ?_ | refine blk_alloc ?_ _)); refine blk_put (cs := #[.bool t260, .int .i64 t261, .int .i64 x260002_2, .bool x260003_2, .int .i64 x260004_2, .int .i64 x260005_2, .bool x260006_2, .bool x260007_2, .int .i64 x260008_2, .bool x260009_2, .bool x260010_2]) ?_ 2 _ rfl; (with_reducible repeat (first | refine blk_drewN ?_ _ | refine blk_drew ?_ | refine blk_alloc ?_ _)); refine blk_put (cs := #[.bool t260, .int .i64 x260001_2, .int .i64 x260002_2, .bool x260003_2, .int .i64 x260004_2, .int .i64 x260005_2, .bool x260006_2, .bool x260007_2, .int .i64 x260008_2, .bool x260009_2, .bool x260010_2]) ?_ 1 _ rfl; (with_reducible repeat (first | refine blk_drewN ?_ _ | refine blk_drew ?_ | refine blk_alloc ?_ _)); refine blk_put (cs := #[.bool x260000_2, .int .i64 x260001_2, .int .i64 x260002_2, .bool x260003_2, .int .i64 x260004_2, .int .i64 x260005_2, .bool x260006_2, .bool x260007_2, .int .i64 x260008_2, .bool x260009_2, .bool x260010_2]) ?_ 0 _ rfl; (with_reducible repeat (first | refine blk_drewN ?_ _ | refine blk_drew ?_ | refine blk_alloc ?_ _)); exact BK259.out⟩, ⟨by repeat (first | (with_reducible first | exact HB.out | apply below_alloc | apply pw_below_drewN | apply below_drew1 | refine below_set ?_ GE255.out | refine below_set ?_ GE256.out | refine below_set ?_ GE257.out | refine below_set ?_ GE259.out) | exact HB.out)⟩⟩
            · rw [if_neg c23] at H
              have c23b0 : decide (x11_2 < a3) = false := decide_eq_false c23
              clear c23
              by_cases c36 : t258 = true
              · subst c36
                have H1 : (if (x260000_2 == a0_0 && (x260001_2 == a0_1 && (x260002_2 == a0_2 && (x260003_2 == a0_3)))) = true then (if (x260004_2 == a0_4 && (x260005_2 == a0_5 && (x260006_2 == a0_6))) = true then (if x260009_2 = true then (if x260010_2 = true then (if x260007_2 = true then (some false) else (some (decide (x260008_2 ≥ a3)))) else (some false)) else (some false)) else (some false)) else (some false)) = some r := by rw [if_pos rfl] at H; exact H
                clear H
                have H := H1
                clear H1
                by_cases c37 : (x260000_2 == a0_0 && (x260001_2 == a0_1 && (x260002_2 == a0_2 && (x260003_2 == a0_3)))) = true
                · rw [if_pos c37] at H
                  have c37b0 : (x260000_2 == a0_0 && (x260001_2 == a0_1 && (x260002_2 == a0_2 && (x260003_2 == a0_3)))) = true := c37
                  (try (have c37b1 : decide (x260000_2 = a0_0 && (x260001_2 == a0_1 && (x260002_2 == a0_2 && (x260003_2 == a0_3)))) = true := by simpa using c37))
                  (try (have c37b2 : (x260000_2 == a0_0 && (x260001_2 == a0_1 && (x260002_2 == a0_2 && (x260003_2 == a0_3)))) = true := by simpa using c37))
                  clear c37
                  by_cases c38 : (x260004_2 == a0_4 && (x260005_2 == a0_5 && (x260006_2 == a0_6))) = true
                  · rw [if_pos c38] at H
                    have c38b0 : (x260004_2 == a0_4 && (x260005_2 == a0_5 && (x260006_2 == a0_6))) = true := c38
                    (try (have c38b1 : decide (x260004_2 = a0_4 && (x260005_2 == a0_5 && (x260006_2 == a0_6))) = true := by simpa using c38))
                    (try (have c38b2 : (x260004_2 == a0_4 && (x260005_2 == a0_5 && (x260006_2 == a0_6))) = true := by simpa using c38))
                    clear c38
                    by_cases c39 : x260009_2 = true
                    · subst c39
                      have H1 : (if x260010_2 = true then (if x260007_2 = true then (some false) else (some (decide (x260008_2 ≥ a3)))) else (some false)) = some r := by rw [if_pos rfl] at H; exact H
                      clear H
                      have H := H1
                      clear H1
                      by_cases c40 : x260010_2 = true
                      · subst c40
                        have H1 : (if x260007_2 = true then (some false) else (some (decide (x260008_2 ≥ a3)))) = some r := by rw [if_pos rfl] at H; exact H
                        clear H
                        have H := H1
                        clear H1
                        by_cases c41 : x260007_2 = true
                        · subst c41
                          have H1 : (some false) = some r := by rw [if_pos rfl] at H; exact H
                          clear H
                          have H := H1
                          clear H1
                          obtain rfl := Option.some.inj H
                          have hnb42 := NB259_255.out
                          have hnc42 := NB255_259.out
                          have hnb43 := NB259_256.out
                          have hnc43 := NB256_259.out
                          have hnb44 := NB259_257.out
                          have hnc44 := NB257_259.out
                          have hcz45_0 : wr.cell? ⟨gb259, 0, none⟩ = some (.bool x260000_2) := (blk_cell BK259.out 0).trans rfl
                          have hcz45_1 : wr.cell? ⟨gb259, 1, none⟩ = some (.int .i64 x260001_2) := (blk_cell BK259.out 1).trans rfl
                          have hcz45_2 : wr.cell? ⟨gb259, 2, none⟩ = some (.int .i64 x260002_2) := (blk_cell BK259.out 2).trans rfl
                          have hcz45_3 : wr.cell? ⟨gb259, 3, none⟩ = some (.bool x260003_2) := (blk_cell BK259.out 3).trans rfl
                          have hcz45_4 : wr.cell? ⟨gb259, 4, none⟩ = some (.int .i64 x260004_2) := (blk_cell BK259.out 4).trans rfl
                          have hcz45_5 : wr.cell? ⟨gb259, 5, none⟩ = some (.int .i64 x260005_2) := (blk_cell BK259.out 5).trans rfl
                          have hcz45_6 : wr.cell? ⟨gb259, 6, none⟩ = some (.bool x260006_2) := (blk_cell BK259.out 6).trans rfl
                          have hcz45_7 : wr.cell? ⟨gb259, 7, none⟩ = some (.bool true) := (blk_cell BK259.out 7).trans rfl
                          have hcz45_8 : wr.cell? ⟨gb259, 8, none⟩ = some (.int .i64 x260008_2) := (blk_cell BK259.out 8).trans rfl
                          have hcz45_9 : wr.cell? ⟨gb259, 9, none⟩ = some (.bool true) := (blk_cell BK259.out 9).trans rfl
                          have hcz45_10 : wr.cell? ⟨gb259, 10, none⟩ = some (.bool true) := (blk_cell BK259.out 10).trans rfl
                          have hfz45_0 := blk_frozen BK259.out 0
                          have hfz45_1 := blk_frozen BK259.out 1
                          have hfz45_2 := blk_frozen BK259.out 2
                          have hfz45_3 := blk_frozen BK259.out 3
                          have hfz45_4 := blk_frozen BK259.out 4
                          have hfz45_5 := blk_frozen BK259.out 5
                          have hfz45_6 := blk_frozen BK259.out 6
                          have hfz45_7 := blk_frozen BK259.out 7
                          have hfz45_8 := blk_frozen BK259.out 8
                          have hfz45_9 := blk_frozen BK259.out 9
                          have hfz45_10 := blk_frozen BK259.out 10
                          have hnb46 := NB255_256.out
                          have hnc46 := NB256_255.out
                          have hnb47 := NB255_257.out
                          have hnc47 := NB257_255.out
                          have hcz48_0 : wr.cell? ⟨gb255, 0, none⟩ = some (.bool a0_0) := (blk_cell BK255.out 0).trans rfl
                          have hcz48_1 : wr.cell? ⟨gb255, 1, none⟩ = some (.int .i64 a0_1) := (blk_cell BK255.out 1).trans rfl
                          have hcz48_2 : wr.cell? ⟨gb255, 2, none⟩ = some (.int .i64 a0_2) := (blk_cell BK255.out 2).trans rfl
                          have hcz48_3 : wr.cell? ⟨gb255, 3, none⟩ = some (.bool a0_3) := (blk_cell BK255.out 3).trans rfl
                          have hcz48_4 : wr.cell? ⟨gb255, 4, none⟩ = some (.int .i64 a0_4) := (blk_cell BK255.out 4).trans rfl
                          have hcz48_5 : wr.cell? ⟨gb255, 5, none⟩ = some (.int .i64 a0_5) := (blk_cell BK255.out 5).trans rfl
                          have hcz48_6 : wr.cell? ⟨gb255, 6, none⟩ = some (.bool a0_6) := (blk_cell BK255.out 6).trans rfl
                          have hcz48_7 : wr.cell? ⟨gb255, 7, none⟩ = some (.bool a0_7) := (blk_cell BK255.out 7).trans rfl
                          have hcz48_8 : wr.cell? ⟨gb255, 8, none⟩ = some (.int .i64 a0_8) := (blk_cell BK255.out 8).trans rfl
                          have hcz48_9 : wr.cell? ⟨gb255, 9, none⟩ = some (.bool a0_9) := (blk_cell BK255.out 9).trans rfl
                          have hcz48_10 : wr.cell? ⟨gb255, 10, none⟩ = some (.bool a0_10) := (blk_cell BK255.out 10).trans rfl
                          have hfz48_0 := blk_frozen BK255.out 0
                          have hfz48_1 := blk_frozen BK255.out 1
                          have hfz48_2 := blk_frozen BK255.out 2
                          have hfz48_3 := blk_frozen BK255.out 3
                          have hfz48_4 := blk_frozen BK255.out 4
                          have hfz48_5 := blk_frozen BK255.out 5
                          have hfz48_6 := blk_frozen BK255.out 6
                          have hfz48_7 := blk_frozen BK255.out 7
                          have hfz48_8 := blk_frozen BK255.out 8
                          have hfz48_9 := blk_frozen BK255.out 9
                          have hfz48_10 := blk_frozen BK255.out 10
                          go_wp2
                          go_ret
                          exact ⟨by first | rfl | (simp [errW_none, errW_some] <;> rfl) | (simp [*, errW_none, errW_some] <;> rfl), by repeat (first | (with_reducible first | exact HB.out | apply below_alloc | apply pw_below_drewN | apply below_drew1 | refine below_set ?_ GE255.out | refine below_set ?_ GE256.out | refine below_set ?_ GE257.out | refine below_set ?_ GE259.out) | exact HB.out)⟩
                        · replace c41 := Bool.eq_false_iff.mpr c41
                          subst c41
                          have H1 : (some (decide (x260008_2 ≥ a3))) = some r := by rw [if_neg (show ¬ (false = true) by decide)] at H; exact H
                          clear H
                          have H := H1
                          clear H1
                          obtain rfl := Option.some.inj H
                          have hnb49 := NB259_255.out
                          have hnc49 := NB255_259.out
                          have hnb50 := NB259_256.out
                          have hnc50 := NB256_259.out
                          have hnb51 := NB259_257.out
                          have hnc51 := NB257_259.out
                          have hcz52_0 : wr.cell? ⟨gb259, 0, none⟩ = some (.bool x260000_2) := (blk_cell BK259.out 0).trans rfl
                          have hcz52_1 : wr.cell? ⟨gb259, 1, none⟩ = some (.int .i64 x260001_2) := (blk_cell BK259.out 1).trans rfl
                          have hcz52_2 : wr.cell? ⟨gb259, 2, none⟩ = some (.int .i64 x260002_2) := (blk_cell BK259.out 2).trans rfl
                          have hcz52_3 : wr.cell? ⟨gb259, 3, none⟩ = some (.bool x260003_2) := (blk_cell BK259.out 3).trans rfl
                          have hcz52_4 : wr.cell? ⟨gb259, 4, none⟩ = some (.int .i64 x260004_2) := (blk_cell BK259.out 4).trans rfl
                          have hcz52_5 : wr.cell? ⟨gb259, 5, none⟩ = some (.int .i64 x260005_2) := (blk_cell BK259.out 5).trans rfl
                          have hcz52_6 : wr.cell? ⟨gb259, 6, none⟩ = some (.bool x260006_2) := (blk_cell BK259.out 6).trans rfl
                          have hcz52_7 : wr.cell? ⟨gb259, 7, none⟩ = some (.bool false) := (blk_cell BK259.out 7).trans rfl
                          have hcz52_8 : wr.cell? ⟨gb259, 8, none⟩ = some (.int .i64 x260008_2) := (blk_cell BK259.out 8).trans rfl
                          have hcz52_9 : wr.cell? ⟨gb259, 9, none⟩ = some (.bool true) := (blk_cell BK259.out 9).trans rfl
                          have hcz52_10 : wr.cell? ⟨gb259, 10, none⟩ = some (.bool true) := (blk_cell BK259.out 10).trans rfl
                          have hfz52_0 := blk_frozen BK259.out 0
                          have hfz52_1 := blk_frozen BK259.out 1
                          have hfz52_2 := blk_frozen BK259.out 2
                          have hfz52_3 := blk_frozen BK259.out 3
                          have hfz52_4 := blk_frozen BK259.out 4
                          have hfz52_5 := blk_frozen BK259.out 5
                          have hfz52_6 := blk_frozen BK259.out 6
                          have hfz52_7 := blk_frozen BK259.out 7
                          have hfz52_8 := blk_frozen BK259.out 8
                          have hfz52_9 := blk_frozen BK259.out 9
                          have hfz52_10 := blk_frozen BK259.out 10
                          have hnb53 := NB255_256.out
                          have hnc53 := NB256_255.out
                          have hnb54 := NB255_257.out
                          have hnc54 := NB257_255.out
                          have hcz55_0 : wr.cell? ⟨gb255, 0, none⟩ = some (.bool a0_0) := (blk_cell BK255.out 0).trans rfl
                          have hcz55_1 : wr.cell? ⟨gb255, 1, none⟩ = some (.int .i64 a0_1) := (blk_cell BK255.out 1).trans rfl
                          have hcz55_2 : wr.cell? ⟨gb255, 2, none⟩ = some (.int .i64 a0_2) := (blk_cell BK255.out 2).trans rfl
                          have hcz55_3 : wr.cell? ⟨gb255, 3, none⟩ = some (.bool a0_3) := (blk_cell BK255.out 3).trans rfl
                          have hcz55_4 : wr.cell? ⟨gb255, 4, none⟩ = some (.int .i64 a0_4) := (blk_cell BK255.out 4).trans rfl
                          have hcz55_5 : wr.cell? ⟨gb255, 5, none⟩ = some (.int .i64 a0_5) := (blk_cell BK255.out 5).trans rfl
                          have hcz55_6 : wr.cell? ⟨gb255, 6, none⟩ = some (.bool a0_6) := (blk_cell BK255.out 6).trans rfl
                          have hcz55_7 : wr.cell? ⟨gb255, 7, none⟩ = some (.bool a0_7) := (blk_cell BK255.out 7).trans rfl
                          have hcz55_8 : wr.cell? ⟨gb255, 8, none⟩ = some (.int .i64 a0_8) := (blk_cell BK255.out 8).trans rfl
                          have hcz55_9 : wr.cell? ⟨gb255, 9, none⟩ = some (.bool a0_9) := (blk_cell BK255.out 9).trans rfl
                          have hcz55_10 : wr.cell? ⟨gb255, 10, none⟩ = some (.bool a0_10) := (blk_cell BK255.out 10).trans rfl
                          have hfz55_0 := blk_frozen BK255.out 0
                          have hfz55_1 := blk_frozen BK255.out 1
                          have hfz55_2 := blk_frozen BK255.out 2
                          have hfz55_3 := blk_frozen BK255.out 3
                          have hfz55_4 := blk_frozen BK255.out 4
                          have hfz55_5 := blk_frozen BK255.out 5
                          have hfz55_6 := blk_frozen BK255.out 6
                          have hfz55_7 := blk_frozen BK255.out 7
                          have hfz55_8 := blk_frozen BK255.out 8
                          have hfz55_9 := blk_frozen BK255.out 9
                          have hfz55_10 := blk_frozen BK255.out 10
                          go_wp2
                          go_ret
                          exact ⟨by first | rfl | (simp [errW_none, errW_some] <;> rfl) | (simp [*, errW_none, errW_some] <;> rfl), by repeat (first | (with_reducible first | exact HB.out | apply below_alloc | apply pw_below_drewN | apply below_drew1 | refine below_set ?_ GE255.out | refine below_set ?_ GE256.out | refine below_set ?_ GE257.out | refine below_set ?_ GE259.out) | exact HB.out)⟩
                      · replace c40 := Bool.eq_false_iff.mpr c40
                        subst c40
                        have H1 : (some false) = some r := by rw [if_neg (show ¬ (false = true) by decide)] at H; exact H
                        clear H
                        have H := H1
                        clear H1
                        obtain rfl := Option.some.inj H
                        have hnb56 := NB259_255.out
                        have hnc56 := NB255_259.out
                        have hnb57 := NB259_256.out
                        have hnc57 := NB256_259.out
                        have hnb58 := NB259_257.out
                        have hnc58 := NB257_259.out
                        have hcz59_0 : wr.cell? ⟨gb259, 0, none⟩ = some (.bool x260000_2) := (blk_cell BK259.out 0).trans rfl
                        have hcz59_1 : wr.cell? ⟨gb259, 1, none⟩ = some (.int .i64 x260001_2) := (blk_cell BK259.out 1).trans rfl
                        have hcz59_2 : wr.cell? ⟨gb259, 2, none⟩ = some (.int .i64 x260002_2) := (blk_cell BK259.out 2).trans rfl
                        have hcz59_3 : wr.cell? ⟨gb259, 3, none⟩ = some (.bool x260003_2) := (blk_cell BK259.out 3).trans rfl
                        have hcz59_4 : wr.cell? ⟨gb259, 4, none⟩ = some (.int .i64 x260004_2) := (blk_cell BK259.out 4).trans rfl
                        have hcz59_5 : wr.cell? ⟨gb259, 5, none⟩ = some (.int .i64 x260005_2) := (blk_cell BK259.out 5).trans rfl
                        have hcz59_6 : wr.cell? ⟨gb259, 6, none⟩ = some (.bool x260006_2) := (blk_cell BK259.out 6).trans rfl
                        have hcz59_7 : wr.cell? ⟨gb259, 7, none⟩ = some (.bool x260007_2) := (blk_cell BK259.out 7).trans rfl
                        have hcz59_8 : wr.cell? ⟨gb259, 8, none⟩ = some (.int .i64 x260008_2) := (blk_cell BK259.out 8).trans rfl
                        have hcz59_9 : wr.cell? ⟨gb259, 9, none⟩ = some (.bool true) := (blk_cell BK259.out 9).trans rfl
                        have hcz59_10 : wr.cell? ⟨gb259, 10, none⟩ = some (.bool false) := (blk_cell BK259.out 10).trans rfl
                        have hfz59_0 := blk_frozen BK259.out 0
                        have hfz59_1 := blk_frozen BK259.out 1
                        have hfz59_2 := blk_frozen BK259.out 2
                        have hfz59_3 := blk_frozen BK259.out 3
                        have hfz59_4 := blk_frozen BK259.out 4
                        have hfz59_5 := blk_frozen BK259.out 5
                        have hfz59_6 := blk_frozen BK259.out 6
                        have hfz59_7 := blk_frozen BK259.out 7
                        have hfz59_8 := blk_frozen BK259.out 8
                        have hfz59_9 := blk_frozen BK259.out 9
                        have hfz59_10 := blk_frozen BK259.out 10
                        have hnb60 := NB255_256.out
                        have hnc60 := NB256_255.out
                        have hnb61 := NB255_257.out
                        have hnc61 := NB257_255.out
                        have hcz62_0 : wr.cell? ⟨gb255, 0, none⟩ = some (.bool a0_0) := (blk_cell BK255.out 0).trans rfl
                        have hcz62_1 : wr.cell? ⟨gb255, 1, none⟩ = some (.int .i64 a0_1) := (blk_cell BK255.out 1).trans rfl
                        have hcz62_2 : wr.cell? ⟨gb255, 2, none⟩ = some (.int .i64 a0_2) := (blk_cell BK255.out 2).trans rfl
                        have hcz62_3 : wr.cell? ⟨gb255, 3, none⟩ = some (.bool a0_3) := (blk_cell BK255.out 3).trans rfl
                        have hcz62_4 : wr.cell? ⟨gb255, 4, none⟩ = some (.int .i64 a0_4) := (blk_cell BK255.out 4).trans rfl
                        have hcz62_5 : wr.cell? ⟨gb255, 5, none⟩ = some (.int .i64 a0_5) := (blk_cell BK255.out 5).trans rfl
                        have hcz62_6 : wr.cell? ⟨gb255, 6, none⟩ = some (.bool a0_6) := (blk_cell BK255.out 6).trans rfl
                        have hcz62_7 : wr.cell? ⟨gb255, 7, none⟩ = some (.bool a0_7) := (blk_cell BK255.out 7).trans rfl
                        have hcz62_8 : wr.cell? ⟨gb255, 8, none⟩ = some (.int .i64 a0_8) := (blk_cell BK255.out 8).trans rfl
                        have hcz62_9 : wr.cell? ⟨gb255, 9, none⟩ = some (.bool a0_9) := (blk_cell BK255.out 9).trans rfl
                        have hcz62_10 : wr.cell? ⟨gb255, 10, none⟩ = some (.bool a0_10) := (blk_cell BK255.out 10).trans rfl
                        have hfz62_0 := blk_frozen BK255.out 0
                        have hfz62_1 := blk_frozen BK255.out 1
                        have hfz62_2 := blk_frozen BK255.out 2
                        have hfz62_3 := blk_frozen BK255.out 3
                        have hfz62_4 := blk_frozen BK255.out 4
                        have hfz62_5 := blk_frozen BK255.out 5
                        have hfz62_6 := blk_frozen BK255.out 6
                        have hfz62_7 := blk_frozen BK255.out 7
                        have hfz62_8 := blk_frozen BK255.out 8
                        have hfz62_9 := blk_frozen BK255.out 9
                        have hfz62_10 := blk_frozen BK255.out 10
                        go_wp2
                        go_ret
                        exact ⟨by first | rfl | (simp [errW_none, errW_some] <;> rfl) | (simp [*, errW_none, errW_some] <;> rfl), by repeat (first | (with_reducible first | exact HB.out | apply below_alloc | apply pw_below_drewN | apply below_drew1 | refine below_set ?_ GE255.out | refine below_set ?_ GE256.out | refine below_set ?_ GE257.out | refine below_set ?_ GE259.out) | exact HB.out)⟩
                    · replace c39 := Bool.eq_false_iff.mpr c39
                      subst c39
                      have H1 : (some false) = some r := by rw [if_neg (show ¬ (false = true) by decide)] at H; exact H
                      clear H
                      have H := H1
                      clear H1
                      obtain rfl := Option.some.inj H
                      have hnb63 := NB259_255.out
                      have hnc63 := NB255_259.out
                      have hnb64 := NB259_256.out
                      have hnc64 := NB256_259.out
                      have hnb65 := NB259_257.out
                      have hnc65 := NB257_259.out
                      have hcz66_0 : wr.cell? ⟨gb259, 0, none⟩ = some (.bool x260000_2) := (blk_cell BK259.out 0).trans rfl
                      have hcz66_1 : wr.cell? ⟨gb259, 1, none⟩ = some (.int .i64 x260001_2) := (blk_cell BK259.out 1).trans rfl
                      have hcz66_2 : wr.cell? ⟨gb259, 2, none⟩ = some (.int .i64 x260002_2) := (blk_cell BK259.out 2).trans rfl
                      have hcz66_3 : wr.cell? ⟨gb259, 3, none⟩ = some (.bool x260003_2) := (blk_cell BK259.out 3).trans rfl
                      have hcz66_4 : wr.cell? ⟨gb259, 4, none⟩ = some (.int .i64 x260004_2) := (blk_cell BK259.out 4).trans rfl
                      have hcz66_5 : wr.cell? ⟨gb259, 5, none⟩ = some (.int .i64 x260005_2) := (blk_cell BK259.out 5).trans rfl
                      have hcz66_6 : wr.cell? ⟨gb259, 6, none⟩ = some (.bool x260006_2) := (blk_cell BK259.out 6).trans rfl
                      have hcz66_7 : wr.cell? ⟨gb259, 7, none⟩ = some (.bool x260007_2) := (blk_cell BK259.out 7).trans rfl
                      have hcz66_8 : wr.cell? ⟨gb259, 8, none⟩ = some (.int .i64 x260008_2) := (blk_cell BK259.out 8).trans rfl
                      have hcz66_9 : wr.cell? ⟨gb259, 9, none⟩ = some (.bool false) := (blk_cell BK259.out 9).trans rfl
                      have hcz66_10 : wr.cell? ⟨gb259, 10, none⟩ = some (.bool x260010_2) := (blk_cell BK259.out 10).trans rfl
                      have hfz66_0 := blk_frozen BK259.out 0
                      have hfz66_1 := blk_frozen BK259.out 1
                      have hfz66_2 := blk_frozen BK259.out 2
                      have hfz66_3 := blk_frozen BK259.out 3
                      have hfz66_4 := blk_frozen BK259.out 4
                      have hfz66_5 := blk_frozen BK259.out 5
                      have hfz66_6 := blk_frozen BK259.out 6
                      have hfz66_7 := blk_frozen BK259.out 7
                      have hfz66_8 := blk_frozen BK259.out 8
                      have hfz66_9 := blk_frozen BK259.out 9
                      have hfz66_10 := blk_frozen BK259.out 10
                      have hnb67 := NB255_256.out
                      have hnc67 := NB256_255.out
                      have hnb68 := NB255_257.out
                      have hnc68 := NB257_255.out
                      have hcz69_0 : wr.cell? ⟨gb255, 0, none⟩ = some (.bool a0_0) := (blk_cell BK255.out 0).trans rfl
                      have hcz69_1 : wr.cell? ⟨gb255, 1, none⟩ = some (.int .i64 a0_1) := (blk_cell BK255.out 1).trans rfl
                      have hcz69_2 : wr.cell? ⟨gb255, 2, none⟩ = some (.int .i64 a0_2) := (blk_cell BK255.out 2).trans rfl
                      have hcz69_3 : wr.cell? ⟨gb255, 3, none⟩ = some (.bool a0_3) := (blk_cell BK255.out 3).trans rfl
                      have hcz69_4 : wr.cell? ⟨gb255, 4, none⟩ = some (.int .i64 a0_4) := (blk_cell BK255.out 4).trans rfl
                      have hcz69_5 : wr.cell? ⟨gb255, 5, none⟩ = some (.int .i64 a0_5) := (blk_cell BK255.out 5).trans rfl
                      have hcz69_6 : wr.cell? ⟨gb255, 6, none⟩ = some (.bool a0_6) := (blk_cell BK255.out 6).trans rfl
                      have hcz69_7 : wr.cell? ⟨gb255, 7, none⟩ = some (.bool a0_7) := (blk_cell BK255.out 7).trans rfl
                      have hcz69_8 : wr.cell? ⟨gb255, 8, none⟩ = some (.int .i64 a0_8) := (blk_cell BK255.out 8).trans rfl
                      have hcz69_9 : wr.cell? ⟨gb255, 9, none⟩ = some (.bool a0_9) := (blk_cell BK255.out 9).trans rfl
                      have hcz69_10 : wr.cell? ⟨gb255, 10, none⟩ = some (.bool a0_10) := (blk_cell BK255.out 10).trans rfl
                      have hfz69_0 := blk_frozen BK255.out 0
                      have hfz69_1 := blk_frozen BK255.out 1
                      have hfz69_2 := blk_frozen BK255.out 2
                      have hfz69_3 := blk_frozen BK255.out 3
                      have hfz69_4 := blk_frozen BK255.out 4
                      have hfz69_5 := blk_frozen BK255.out 5
                      have hfz69_6 := blk_frozen BK255.out 6
                      have hfz69_7 := blk_frozen BK255.out 7
                      have hfz69_8 := blk_frozen BK255.out 8
                      have hfz69_9 := blk_frozen BK255.out 9
                      have hfz69_10 := blk_frozen BK255.out 10
                      go_wp2
                      go_ret
                      exact ⟨by first | rfl | (simp [errW_none, errW_some] <;> rfl) | (simp [*, errW_none, errW_some] <;> rfl), by repeat (first | (with_reducible first | exact HB.out | apply below_alloc | apply pw_below_drewN | apply below_drew1 | refine below_set ?_ GE255.out | refine below_set ?_ GE256.out | refine below_set ?_ GE257.out | refine below_set ?_ GE259.out) | exact HB.out)⟩
                  · rw [if_neg c38] at H
                    have c38b0 : (x260004_2 == a0_4 && (x260005_2 == a0_5 && (x260006_2 == a0_6))) = false := by simpa using c38
                    (try (have c38b1 : decide (x260004_2 = a0_4 && (x260005_2 == a0_5 && (x260006_2 == a0_6))) = false := by simpa using c38))
                    (try (have c38b2 : (x260004_2 == a0_4 && (x260005_2 == a0_5 && (x260006_2 == a0_6))) = false := by simpa using c38))
                    (try (have c38b3 : ¬ (x260004_2 = a0_4 && (x260005_2 == a0_5 && (x260006_2 == a0_6))) := by simpa using c38))
                    clear c38
                    obtain rfl := Option.some.inj H
                    have hnb70 := NB259_255.out
                    have hnc70 := NB255_259.out
                    have hnb71 := NB259_256.out
                    have hnc71 := NB256_259.out
                    have hnb72 := NB259_257.out
                    have hnc72 := NB257_259.out
                    have hcz73_0 : wr.cell? ⟨gb259, 0, none⟩ = some (.bool x260000_2) := (blk_cell BK259.out 0).trans rfl
                    have hcz73_1 : wr.cell? ⟨gb259, 1, none⟩ = some (.int .i64 x260001_2) := (blk_cell BK259.out 1).trans rfl
                    have hcz73_2 : wr.cell? ⟨gb259, 2, none⟩ = some (.int .i64 x260002_2) := (blk_cell BK259.out 2).trans rfl
                    have hcz73_3 : wr.cell? ⟨gb259, 3, none⟩ = some (.bool x260003_2) := (blk_cell BK259.out 3).trans rfl
                    have hcz73_4 : wr.cell? ⟨gb259, 4, none⟩ = some (.int .i64 x260004_2) := (blk_cell BK259.out 4).trans rfl
                    have hcz73_5 : wr.cell? ⟨gb259, 5, none⟩ = some (.int .i64 x260005_2) := (blk_cell BK259.out 5).trans rfl
                    have hcz73_6 : wr.cell? ⟨gb259, 6, none⟩ = some (.bool x260006_2) := (blk_cell BK259.out 6).trans rfl
                    have hcz73_7 : wr.cell? ⟨gb259, 7, none⟩ = some (.bool x260007_2) := (blk_cell BK259.out 7).trans rfl
                    have hcz73_8 : wr.cell? ⟨gb259, 8, none⟩ = some (.int .i64 x260008_2) := (blk_cell BK259.out 8).trans rfl
                    have hcz73_9 : wr.cell? ⟨gb259, 9, none⟩ = some (.bool x260009_2) := (blk_cell BK259.out 9).trans rfl
                    have hcz73_10 : wr.cell? ⟨gb259, 10, none⟩ = some (.bool x260010_2) := (blk_cell BK259.out 10).trans rfl
                    have hfz73_0 := blk_frozen BK259.out 0
                    have hfz73_1 := blk_frozen BK259.out 1
                    have hfz73_2 := blk_frozen BK259.out 2
                    have hfz73_3 := blk_frozen BK259.out 3
                    have hfz73_4 := blk_frozen BK259.out 4
                    have hfz73_5 := blk_frozen BK259.out 5
                    have hfz73_6 := blk_frozen BK259.out 6
                    have hfz73_7 := blk_frozen BK259.out 7
                    have hfz73_8 := blk_frozen BK259.out 8
                    have hfz73_9 := blk_frozen BK259.out 9
                    have hfz73_10 := blk_frozen BK259.out 10
                    have hnb74 := NB255_256.out
                    have hnc74 := NB256_255.out
                    have hnb75 := NB255_257.out
                    have hnc75 := NB257_255.out
                    have hcz76_0 : wr.cell? ⟨gb255, 0, none⟩ = some (.bool a0_0) := (blk_cell BK255.out 0).trans rfl
                    have hcz76_1 : wr.cell? ⟨gb255, 1, none⟩ = some (.int .i64 a0_1) := (blk_cell BK255.out 1).trans rfl
                    have hcz76_2 : wr.cell? ⟨gb255, 2, none⟩ = some (.int .i64 a0_2) := (blk_cell BK255.out 2).trans rfl
                    have hcz76_3 : wr.cell? ⟨gb255, 3, none⟩ = some (.bool a0_3) := (blk_cell BK255.out 3).trans rfl
                    have hcz76_4 : wr.cell? ⟨gb255, 4, none⟩ = some (.int .i64 a0_4) := (blk_cell BK255.out 4).trans rfl
                    have hcz76_5 : wr.cell? ⟨gb255, 5, none⟩ = some (.int .i64 a0_5) := (blk_cell BK255.out 5).trans rfl
                    have hcz76_6 : wr.cell? ⟨gb255, 6, none⟩ = some (.bool a0_6) := (blk_cell BK255.out 6).trans rfl
                    have hcz76_7 : wr.cell? ⟨gb255, 7, none⟩ = some (.bool a0_7) := (blk_cell BK255.out 7).trans rfl
                    have hcz76_8 : wr.cell? ⟨gb255, 8, none⟩ = some (.int .i64 a0_8) := (blk_cell BK255.out 8).trans rfl
                    have hcz76_9 : wr.cell? ⟨gb255, 9, none⟩ = some (.bool a0_9) := (blk_cell BK255.out 9).trans rfl
                    have hcz76_10 : wr.cell? ⟨gb255, 10, none⟩ = some (.bool a0_10) := (blk_cell BK255.out 10).trans rfl
                    have hfz76_0 := blk_frozen BK255.out 0
                    have hfz76_1 := blk_frozen BK255.out 1
                    have hfz76_2 := blk_frozen BK255.out 2
                    have hfz76_3 := blk_frozen BK255.out 3
                    have hfz76_4 := blk_frozen BK255.out 4
                    have hfz76_5 := blk_frozen BK255.out 5
                    have hfz76_6 := blk_frozen BK255.out 6
                    have hfz76_7 := blk_frozen BK255.out 7
                    have hfz76_8 := blk_frozen BK255.out 8
                    have hfz76_9 := blk_frozen BK255.out 9
                    have hfz76_10 := blk_frozen BK255.out 10
                    go_wp2
                    go_ret
                    exact ⟨by first | rfl | (simp [errW_none, errW_some] <;> rfl) | (simp [*, errW_none, errW_some] <;> rfl), by repeat (first | (with_reducible first | exact HB.out | apply below_alloc | apply pw_below_drewN | apply below_drew1 | refine below_set ?_ GE255.out | refine below_set ?_ GE256.out | refine below_set ?_ GE257.out | refine below_set ?_ GE259.out) | exact HB.out)⟩
                · rw [if_neg c37] at H
                  have c37b0 : (x260000_2 == a0_0 && (x260001_2 == a0_1 && (x260002_2 == a0_2 && (x260003_2 == a0_3)))) = false := by simpa using c37
                  (try (have c37b1 : decide (x260000_2 = a0_0 && (x260001_2 == a0_1 && (x260002_2 == a0_2 && (x260003_2 == a0_3)))) = false := by simpa using c37))
                  (try (have c37b2 : (x260000_2 == a0_0 && (x260001_2 == a0_1 && (x260002_2 == a0_2 && (x260003_2 == a0_3)))) = false := by simpa using c37))
                  (try (have c37b3 : ¬ (x260000_2 = a0_0 && (x260001_2 == a0_1 && (x260002_2 == a0_2 && (x260003_2 == a0_3)))) := by simpa using c37))
                  clear c37
                  obtain rfl := Option.some.inj H
                  have hnb77 := NB259_255.out
                  have hnc77 := NB255_259.out
                  have hnb78 := NB259_256.out
                  have hnc78 := NB256_259.out
                  have hnb79 := NB259_257.out
                  have hnc79 := NB257_259.out
                  have hcz80_0 : wr.cell? ⟨gb259, 0, none⟩ = some (.bool x260000_2) := (blk_cell BK259.out 0).trans rfl
                  have hcz80_1 : wr.cell? ⟨gb259, 1, none⟩ = some (.int .i64 x260001_2) := (blk_cell BK259.out 1).trans rfl
                  have hcz80_2 : wr.cell? ⟨gb259, 2, none⟩ = some (.int .i64 x260002_2) := (blk_cell BK259.out 2).trans rfl
                  have hcz80_3 : wr.cell? ⟨gb259, 3, none⟩ = some (.bool x260003_2) := (blk_cell BK259.out 3).trans rfl
                  have hcz80_4 : wr.cell? ⟨gb259, 4, none⟩ = some (.int .i64 x260004_2) := (blk_cell BK259.out 4).trans rfl
                  have hcz80_5 : wr.cell? ⟨gb259, 5, none⟩ = some (.int .i64 x260005_2) := (blk_cell BK259.out 5).trans rfl
                  have hcz80_6 : wr.cell? ⟨gb259, 6, none⟩ = some (.bool x260006_2) := (blk_cell BK259.out 6).trans rfl
                  have hcz80_7 : wr.cell? ⟨gb259, 7, none⟩ = some (.bool x260007_2) := (blk_cell BK259.out 7).trans rfl
                  have hcz80_8 : wr.cell? ⟨gb259, 8, none⟩ = some (.int .i64 x260008_2) := (blk_cell BK259.out 8).trans rfl
                  have hcz80_9 : wr.cell? ⟨gb259, 9, none⟩ = some (.bool x260009_2) := (blk_cell BK259.out 9).trans rfl
                  have hcz80_10 : wr.cell? ⟨gb259, 10, none⟩ = some (.bool x260010_2) := (blk_cell BK259.out 10).trans rfl
                  have hfz80_0 := blk_frozen BK259.out 0
                  have hfz80_1 := blk_frozen BK259.out 1
                  have hfz80_2 := blk_frozen BK259.out 2
                  have hfz80_3 := blk_frozen BK259.out 3
                  have hfz80_4 := blk_frozen BK259.out 4
                  have hfz80_5 := blk_frozen BK259.out 5
                  have hfz80_6 := blk_frozen BK259.out 6
                  have hfz80_7 := blk_frozen BK259.out 7
                  have hfz80_8 := blk_frozen BK259.out 8
                  have hfz80_9 := blk_frozen BK259.out 9
                  have hfz80_10 := blk_frozen BK259.out 10
                  have hnb81 := NB255_256.out
                  have hnc81 := NB256_255.out
                  have hnb82 := NB255_257.out
                  have hnc82 := NB257_255.out
                  have hcz83_0 : wr.cell? ⟨gb255, 0, none⟩ = some (.bool a0_0) := (blk_cell BK255.out 0).trans rfl
                  have hcz83_1 : wr.cell? ⟨gb255, 1, none⟩ = some (.int .i64 a0_1) := (blk_cell BK255.out 1).trans rfl
                  have hcz83_2 : wr.cell? ⟨gb255, 2, none⟩ = some (.int .i64 a0_2) := (blk_cell BK255.out 2).trans rfl
                  have hcz83_3 : wr.cell? ⟨gb255, 3, none⟩ = some (.bool a0_3) := (blk_cell BK255.out 3).trans rfl
                  have hcz83_4 : wr.cell? ⟨gb255, 4, none⟩ = some (.int .i64 a0_4) := (blk_cell BK255.out 4).trans rfl
                  have hcz83_5 : wr.cell? ⟨gb255, 5, none⟩ = some (.int .i64 a0_5) := (blk_cell BK255.out 5).trans rfl
                  have hcz83_6 : wr.cell? ⟨gb255, 6, none⟩ = some (.bool a0_6) := (blk_cell BK255.out 6).trans rfl
                  have hcz83_7 : wr.cell? ⟨gb255, 7, none⟩ = some (.bool a0_7) := (blk_cell BK255.out 7).trans rfl
                  have hcz83_8 : wr.cell? ⟨gb255, 8, none⟩ = some (.int .i64 a0_8) := (blk_cell BK255.out 8).trans rfl
                  have hcz83_9 : wr.cell? ⟨gb255, 9, none⟩ = some (.bool a0_9) := (blk_cell BK255.out 9).trans rfl
                  have hcz83_10 : wr.cell? ⟨gb255, 10, none⟩ = some (.bool a0_10) := (blk_cell BK255.out 10).trans rfl
                  have hfz83_0 := blk_frozen BK255.out 0
                  have hfz83_1 := blk_frozen BK255.out 1
                  have hfz83_2 := blk_frozen BK255.out 2
                  have hfz83_3 := blk_frozen BK255.out 3
                  have hfz83_4 := blk_frozen BK255.out 4
                  have hfz83_5 := blk_frozen BK255.out 5
                  have hfz83_6 := blk_frozen BK255.out 6
                  have hfz83_7 := blk_frozen BK255.out 7
                  have hfz83_8 := blk_frozen BK255.out 8
                  have hfz83_9 := blk_frozen BK255.out 9
                  have hfz83_10 := blk_frozen BK255.out 10
                  go_wp2
                  go_ret
                  exact ⟨by first | rfl | (simp [errW_none, errW_some] <;> rfl) | (simp [*, errW_none, errW_some] <;> rfl), by repeat (first | (with_reducible first | exact HB.out | apply below_alloc | apply pw_below_drewN | apply below_drew1 | refine below_set ?_ GE255.out | refine below_set ?_ GE256.out | refine below_set ?_ GE257.out | refine below_set ?_ GE259.out) | exact HB.out)⟩
              · replace c36 := Bool.eq_false_iff.mpr c36
                subst c36
                have H1 : (some false) = some r := by rw [if_neg (show ¬ (false = true) by decide)] at H; exact H
                clear H
                have H := H1
                clear H1
                obtain rfl := Option.some.inj H
                go_wp2
                go_ret
                exact ⟨by first | rfl | (simp [errW_none, errW_some] <;> rfl) | (simp [*, errW_none, errW_some] <;> rfl), by repeat (first | (with_reducible first | exact HB.out | apply below_alloc | apply pw_below_drewN | apply below_drew1 | refine below_set ?_ GE255.out | refine below_set ?_ GE256.out | refine below_set ?_ GE257.out | refine below_set ?_ GE259.out) | exact HB.out)⟩

-- NOT PRINTED: function 7 (crossbucklaw12_TrackLonger)

end Go.Proofs.Ytnmcnailgdcmoaa.B
